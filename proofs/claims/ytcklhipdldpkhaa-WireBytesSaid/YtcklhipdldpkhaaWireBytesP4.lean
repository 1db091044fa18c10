/- What the functions of this law compute, and their plain laws. Conditions: none. -/
import Derived.Test.YtcklhipdldpkhaaWireBytesP3
namespace Go.Proofs.Ytcklhipdldpkhaa.Rx
open Go
set_option linter.unusedVariables false
set_option maxRecDepth 100000
set_option maxHeartbeats 0
noncomputable def F96o : Fns := addF 70 s70' (F0)
theorem F96o_ok : FnsOk tau Try.prog F96o := (F0_ok).add ok70' en70
def an96o : An := (.seq .leaf (.seq .leaf .leaf))
noncomputable def g96o (f : Nat) (b_z : Bool) (b_f : Bool) (b : List PV) (n : Int) (k : Res → Option Res) : Option Res := bif decide ((flat [.ro 5 b_z b_f b, .ro 5 false false [.sc (.int .u8 (IntKind.u8.wrap n))]]).length ≤ 140737488355328) && true then k (Res.mk (.ow 5 16 [] 0 (flat [.ro 5 b_z b_f b, .ro 5 false false [.sc (.int .u8 (IntKind.u8.wrap n))]]).length none) [] [.vec false 5 (flat [.ro 5 b_z b_f b, .ro 5 false false [.sc (.int .u8 (IntKind.u8.wrap n))]]).isEmpty (flat [.ro 5 b_z b_f b, .ro 5 false false [.sc (.int .u8 (IntKind.u8.wrap n))]])]) else none
theorem e96o (f : Nat) (b_z : Bool) (b_f : Bool) (b : List PV) (n : Int) (k : Res → Option Res) : evFn tau F96o Try.f96 (Try.f96.body.get!) an96o [] 0 [.ro 5 b_z b_f b, .sc (.int .i64 n)] [] k = g96o f b_z b_f b n k := by kernel_rfl
theorem it96o (f : Nat) : items (Try.f96.body.get!) an96o = [] := by kernel_rfl
theorem ia96o (f : Nat) : ∀ q ∈ items (Try.f96.body.get!) an96o, q.Ok tau Try.prog 0 := by
  rw [it96o f]; intro q hq; cases hq
theorem fo96o : Try.prog.funcs[96]? = some Try.f96 := by kernel_rfl
theorem bo96o : Try.f96.body = some (Try.f96.body.get!) := by kernel_rfl
end Go.Proofs.Ytcklhipdldpkhaa.Rx

namespace Go.Proofs.Ytcklhipdldpkhaa.Rx
open Go
set_option linter.unusedVariables false
set_option maxRecDepth 100000
set_option maxHeartbeats 0
noncomputable def F98o : Fns := addF 70 s70' (F0)
theorem F98o_ok : FnsOk tau Try.prog F98o := (F0_ok).add ok70' en70
def an98o : An := (.seq .leaf (.seq .leaf (.seq .leaf .leaf)))
noncomputable def g98o (f : Nat) (b_z : Bool) (b_f : Bool) (b : List PV) (s : ByteArray) (k : Res → Option Res) : Option Res := bif decide (0 ≤ minI (zi s.size) 65535) && true && decide ((minI (zi s.size) 65535).toNat ≤ s.size) && true then bif roomy (s.extract 0 (minI (zi s.size) 65535).toNat).size 1 && true then bif decide ((flat [.ro 5 b_z b_f b, .ro 5 false false [.sc (.int .u8 (IntKind.u8.wrap (zi (s.extract 0 (minI (zi s.size) 65535).toNat).size))), .sc (.int .u8 (IntKind.u8.wrap (shrI IntKind.i64 (zi (s.extract 0 (minI (zi s.size) 65535).toNat).size) 8)))], .ro 5 false false (List.take (s.extract 0 (minI (zi s.size) 65535).toNat).size (ofBytes (s.extract 0 (minI (zi s.size) 65535).toNat)))]).length ≤ 140737488355328) && true then k (Res.mk (.ow 5 16 [] 0 (flat [.ro 5 b_z b_f b, .ro 5 false false [.sc (.int .u8 (IntKind.u8.wrap (zi (s.extract 0 (minI (zi s.size) 65535).toNat).size))), .sc (.int .u8 (IntKind.u8.wrap (shrI IntKind.i64 (zi (s.extract 0 (minI (zi s.size) 65535).toNat).size) 8)))], .ro 5 false false (List.take (s.extract 0 (minI (zi s.size) 65535).toNat).size (ofBytes (s.extract 0 (minI (zi s.size) 65535).toNat)))]).length none) [] [.vec false 5 (flat [.ro 5 b_z b_f b, .ro 5 false false [.sc (.int .u8 (IntKind.u8.wrap (zi (s.extract 0 (minI (zi s.size) 65535).toNat).size))), .sc (.int .u8 (IntKind.u8.wrap (shrI IntKind.i64 (zi (s.extract 0 (minI (zi s.size) 65535).toNat).size) 8)))], .ro 5 false false (List.take (s.extract 0 (minI (zi s.size) 65535).toNat).size (ofBytes (s.extract 0 (minI (zi s.size) 65535).toNat)))]).isEmpty (flat [.ro 5 b_z b_f b, .ro 5 false false [.sc (.int .u8 (IntKind.u8.wrap (zi (s.extract 0 (minI (zi s.size) 65535).toNat).size))), .sc (.int .u8 (IntKind.u8.wrap (shrI IntKind.i64 (zi (s.extract 0 (minI (zi s.size) 65535).toNat).size) 8)))], .ro 5 false false (List.take (s.extract 0 (minI (zi s.size) 65535).toNat).size (ofBytes (s.extract 0 (minI (zi s.size) 65535).toNat)))])]) else none else none else none
theorem e98o (f : Nat) (b_z : Bool) (b_f : Bool) (b : List PV) (s : ByteArray) (k : Res → Option Res) : evFn tau F98o Try.f98 (Try.f98.body.get!) an98o [] 0 [.ro 5 b_z b_f b, .sc (.string s)] [] k = g98o f b_z b_f b s k := by kernel_rfl
theorem it98o (f : Nat) : items (Try.f98.body.get!) an98o = [] := by kernel_rfl
theorem ia98o (f : Nat) : ∀ q ∈ items (Try.f98.body.get!) an98o, q.Ok tau Try.prog 0 := by
  rw [it98o f]; intro q hq; cases hq
theorem fo98o : Try.prog.funcs[98]? = some Try.f98 := by kernel_rfl
theorem bo98o : Try.f98.body = some (Try.f98.body.get!) := by kernel_rfl
end Go.Proofs.Ytcklhipdldpkhaa.Rx

namespace Go.Proofs.Ytcklhipdldpkhaa.Rx
open Go
set_option linter.unusedVariables false
set_option linter.unusedSimpArgs false
set_option maxRecDepth 100000
set_option maxHeartbeats 1000000
noncomputable def run96o : List PV → List Ent → (Res → Option Res) → Option Res
  | [.ro 5 z f b, .sc (.int .i64 n)], [], k => bif slB z b then k ⟨.ow 5 16 [] 0 (b.length + 1) none, [], [.vec false 5 false (b ++ pu .u8 [IntKind.u8.wrap n])]⟩ else none
  | _, _, _ => none
noncomputable def s96o : Sig := { own := [], run := run96o }
theorem ok96o : CallOk tau Try.prog 96 s96o := CallOk.mk' fun xs es k res hl hr => by
  change run96o xs es k = some res at hr
  unfold run96o at hr
  split at hr
  · rename_i z f b n
    obtain ⟨hc, hr⟩ := of_bif hr
    obtain ⟨h1, h2⟩ := slB_iff.1 hc
    have hg : g96o 0 z f b n k = some res := by
      have hf : flat [PV.ro 5 z f b, PV.ro 5 false false [PV.sc (Value.int IntKind.u8 (IntKind.u8.wrap n))]] = b ++ pu .u8 [IntKind.u8.wrap n] := by simp [PV.els, pu]
      have hf2 : flat [PV.ro 5 z f b, PV.ro 5 false true [PV.sc (Value.int IntKind.u8 (IntKind.u8.wrap n))]] = b ++ pu .u8 [IntKind.u8.wrap n] := by simp [PV.els, pu]
      have he : (b ++ pu .u8 [IntKind.u8.wrap n]).isEmpty = false := by simp
      have hlen : (b ++ pu .u8 [IntKind.u8.wrap n]).length = b.length + 1 := by simp
      unfold g96o
      simp only [hf, hf2, List.take_length, List.drop_zero, List.take_succ_cons, List.take_zero, he, hlen, Ent.nil]
      rw [bif_t (by simp; omega)]
      exact hr
    exact fn_at tabOk F96o_ok mixed fo96o bo96o an96o [] 0 0 (ia96o 0) hl rfl ((e96o 0 z f b n k).trans hg)
  · cases hr
noncomputable def run98o : List PV → List Ent → (Res → Option Res) → Option Res
  | [.ro 5 z f b, .sc (.string s)], [], k => bif slB z b && Nat.ble s.size 65535 then k ⟨.ow 5 16 [] 0 (b.length + (s.size + 2)) none, [], [.vec false 5 false (b ++ pu .u8 (textB s))]⟩ else none
  | _, _, _ => none
noncomputable def s98o : Sig := { own := [], run := run98o }
theorem ok98o : CallOk tau Try.prog 98 s98o := CallOk.mk' fun xs es k res hl hr => by
  change run98o xs es k = some res at hr
  unfold run98o at hr
  split at hr
  · rename_i z f b s
    obtain ⟨hc, hr⟩ := of_bif hr
    rw [Bool.and_eq_true, Nat.ble_eq] at hc
    obtain ⟨h1, h2⟩ := slB_iff.1 hc.1
    have hg : g98o 0 z f b s k = some res := by
      have hm : minI (zi s.size) 65535 = (s.size : Int) := by unfold minI; rw [if_neg (by simp only [zi]; omega)]
      unfold g98o
      simp only [hm, Int.toNat_natCast, extract_all]
      have hf : ∀ x y : Bool, flat [PV.ro 5 z f b, PV.ro 5 false x [PV.sc (Value.int IntKind.u8 (IntKind.u8.wrap (zi s.size))), PV.sc (Value.int IntKind.u8 (IntKind.u8.wrap (shrI IntKind.i64 (zi s.size) 8)))], PV.ro 5 false y (List.take s.size (ofBytes s))] = b ++ pu .u8 (textB s) := by
        intro x y
        rw [ofBytes_pu, List.take_of_length_le (by simp), textB_eq, textB0]
        simp [PV.els, pu]
      have he : (b ++ pu .u8 (textB s)).isEmpty = false := by
        rw [textB_eq, textB0]; simp
      have hlen : (b ++ pu .u8 (textB s)).length = b.length + (s.size + 2) := by simp
      simp only [hf, List.take_length, List.drop_zero, List.take_succ_cons, List.take_zero, he, hlen, Ent.nil]
      rw [bif_t (by simp), bif_t (by simp [roomy]; omega), bif_t (by simp; omega)]
      exact hr
    exact fn_at tabOk F98o_ok mixed fo98o bo98o an98o [] 0 0 (ia98o 0) hl rfl ((e98o 0 z f b s k).trans hg)
  · cases hr
end Go.Proofs.Ytcklhipdldpkhaa.Rx

namespace Go.Proofs.Ytcklhipdldpkhaa.Rx
open Go
set_option linter.unusedVariables false
set_option linter.unusedSimpArgs false
set_option maxRecDepth 100000
noncomputable def apI : List PV → Int → List PV := hid fun b n => b ++ pu .u8 (intB n)
noncomputable def apY : List PV → Int → List PV := hid fun b n => b ++ pu .u8 [IntKind.u8.wrap n]
noncomputable def apT : List PV → ByteArray → List PV := hid fun b s => b ++ pu .u8 (textB s)
noncomputable def okZ : Bool → List PV → Bool := hid slB
noncomputable def okL : Nat → List PV → Bool := hid fun m l => Nat.beq m l.length && Nat.ble l.length 1000000000
theorem apI_eq (b : List PV) (n : Int) : apI b n = b ++ pu .u8 (intB n) := by rw [apI, hid_eq]
theorem apY_eq (b : List PV) (n : Int) : apY b n = b ++ pu .u8 [IntKind.u8.wrap n] := by rw [apY, hid_eq]
theorem apT_eq (b : List PV) (s : ByteArray) : apT b s = b ++ pu .u8 (textB s) := by rw [apT, hid_eq]
theorem okZ_eq (z : Bool) (b : List PV) : okZ z b = slB z b := by rw [okZ, hid_eq]
theorem okL_eq (m : Nat) (l : List PV) : okL m l = (Nat.beq m l.length && Nat.ble l.length 1000000000) := by rw [okL, hid_eq]
noncomputable def run97h : List PV → List Ent → (Res → Option Res) → Option Res
  | [.ro 5 z f b, .sc (.int .i64 n)], [], k => bif okZ z b then k ⟨.ro 5 false false (apI b n), [], []⟩ else none
  | _, _, _ => none
noncomputable def s97h : Sig := { own := [], run := run97h }
theorem ok97h : CallOk tau Try.prog 97 s97h := fun xs es k res hl hr => ok97' xs es k res hl (by
  change run97h xs es k = some res at hr
  show run97' xs es k = some res
  unfold run97h at hr
  split at hr
  · rw [okZ_eq, apI_eq] at hr; exact hr
  · cases hr)
noncomputable def run96h : List PV → List Ent → (Res → Option Res) → Option Res
  | [.ro 5 z f b, .sc (.int .i64 n)], [], k => bif okZ z b then k ⟨.ow 5 16 [] 0 (apY b n).length none, [], [.vec false 5 false (apY b n)]⟩ else none
  | _, _, _ => none
noncomputable def s96h : Sig := { own := [], run := run96h }
theorem ok96h : CallOk tau Try.prog 96 s96h := fun xs es k res hl hr => ok96o xs es k res hl (by
  change run96h xs es k = some res at hr
  show run96o xs es k = some res
  unfold run96h at hr
  split at hr
  · rename_i z f b n
    rw [okZ_eq, apY_eq, show (b ++ pu .u8 [IntKind.u8.wrap n]).length = b.length + 1 by simp] at hr; exact hr
  · cases hr)
noncomputable def run98h : List PV → List Ent → (Res → Option Res) → Option Res
  | [.ro 5 z f b, .sc (.string s)], [], k => bif okZ z b && Nat.ble s.size 65535 then k ⟨.ow 5 16 [] 0 (apT b s).length none, [], [.vec false 5 false (apT b s)]⟩ else none
  | _, _, _ => none
noncomputable def s98h : Sig := { own := [], run := run98h }
theorem ok98h : CallOk tau Try.prog 98 s98h := fun xs es k res hl hr => ok98o xs es k res hl (by
  change run98h xs es k = some res at hr
  show run98o xs es k = some res
  unfold run98h at hr
  split at hr
  · rename_i z f b s
    rw [okZ_eq, apT_eq, show (b ++ pu .u8 (textB s)).length = b.length + (s.size + 2) by simp] at hr; exact hr
  · cases hr)
noncomputable def run110h : List PV → List Ent → (Res → Option Res) → Option Res
  | [.ro 5 true true [], .sc (.int .i64 n)], [], k => k ⟨.ow 5 16 [] 0 (apY [] n).length none, [], [.vec false 5 false (apY [] n)]⟩
  | [.ow 5 0 [] 0 m none, .sc (.int .i64 n)], [.vec false 5 nl l], k => bif okL m l then k ⟨.ow 5 16 [] 0 (apY l n).length none, [.dead], [.vec false 5 false (apY l n)]⟩ else none
  | _, _, _ => none
noncomputable def s110h : Sig := { own := [true], run := run110h }
theorem ok110h : CallOk tau Try.prog 110 s110h := fun xs es k res hl hr => ok110' xs es k res hl (by
  change run110h xs es k = some res at hr
  show run110' xs es k = some res
  unfold run110h at hr
  split at hr
  · rw [apY_eq] at hr; exact hr
  · rename_i m n nl l
    rw [okL_eq, apY_eq] at hr
    obtain ⟨hc, hr⟩ := of_bif hr
    have hm : m = l.length := by rw [Bool.and_eq_true, Nat.beq_eq] at hc; exact hc.1
    have h2 : run110' [.ow 5 0 [] 0 m none, .sc (.int .i64 n)] [.vec false 5 nl l] k = k ⟨.ow 5 16 [] 0 (m + 1) none, [.dead], [.vec false 5 false (l ++ pu .u8 [IntKind.u8.wrap n])]⟩ := bif_t hc
    rw [h2, ← hr, hm]; simp
  · cases hr)
noncomputable def run108h : List PV → List Ent → (Res → Option Res) → Option Res
  | [.ow 5 0 [] 0 m none, .sc (.int .i64 n)], [.vec false 5 nl l], k => bif okL m l then k ⟨.ow 5 16 [] 0 (apI l n).length none, [.dead], [.vec false 5 false (apI l n)]⟩ else none
  | _, _, _ => none
noncomputable def s108h : Sig := { own := [true], run := run108h }
theorem ok108h : CallOk tau Try.prog 108 s108h := fun xs es k res hl hr => ok108' xs es k res hl (by
  change run108h xs es k = some res at hr
  show run108' xs es k = some res
  unfold run108h at hr
  split at hr
  · rename_i m n nl l
    rw [okL_eq, apI_eq] at hr
    obtain ⟨hc, hr⟩ := of_bif hr
    have hm : m = l.length := by rw [Bool.and_eq_true, Nat.beq_eq] at hc; exact hc.1
    have h2 : run108' [.ow 5 0 [] 0 m none, .sc (.int .i64 n)] [.vec false 5 nl l] k = k ⟨.ow 5 16 [] 0 (m + 8) none, [.dead], [.vec false 5 false (l ++ pu .u8 (intB n))]⟩ := bif_t hc
    rw [h2, ← hr, hm]; simp
  · cases hr)
noncomputable def run109h : List PV → List Ent → (Res → Option Res) → Option Res
  | [.ow 5 0 [] 0 m none, .sc (.string s)], [.vec false 5 nl l], k => bif okL m l && Nat.ble s.size 65535 then k ⟨.ow 5 16 [] 0 (apT l s).length none, [.dead], [.vec false 5 false (apT l s)]⟩ else none
  | _, _, _ => none
noncomputable def s109h : Sig := { own := [true], run := run109h }
theorem ok109h : CallOk tau Try.prog 109 s109h := fun xs es k res hl hr => ok109' xs es k res hl (by
  change run109h xs es k = some res at hr
  show run109' xs es k = some res
  unfold run109h at hr
  split at hr
  · rename_i m s nl l
    rw [okL_eq, apT_eq] at hr
    obtain ⟨hc, hr⟩ := of_bif hr
    have hm : m = l.length := by simp only [Bool.and_eq_true, Nat.beq_eq] at hc; exact hc.1.1
    have h2 : run109' [.ow 5 0 [] 0 m none, .sc (.string s)] [.vec false 5 nl l] k = k ⟨.ow 5 16 [] 0 (m + (s.size + 2)) none, [.dead], [.vec false 5 false (l ++ pu .u8 (textB s))]⟩ := bif_t hc
    rw [h2, ← hr, hm]; simp
  · cases hr)
end Go.Proofs.Ytcklhipdldpkhaa.Rx

namespace Go.Proofs.Ytcklhipdldpkhaa.Rx
open Go
set_option linter.unusedVariables false
set_option maxRecDepth 100000
set_option maxHeartbeats 0
def N75 : Nat := 74
noncomputable def F75 : Fns := addF 110 s110h (addF 109 s109h (addF 108 s108h (F0)))
theorem F75_ok : FnsOk tau Try.prog F75 := (((F0_ok).add ok108h en108).add ok109h en109b).add ok110h en110
def nm75_0 : Nm := [(1, .any), (3, .any), (4, .any), (5, .any)]
def x75_0 : An := (.seq (.seq .leaf (.cond .leaf .leaf)) (.seq (.block none .leaf) .leaf))
noncomputable def c75_1 : Code := subC (Try.f75.body.get!) [1, 1, 1, 1, 1, 0, 1, 0, 0]
def nm75_1 : Nm := [(1, .any), (3, .own), (6, .any)]
def nx75_1 : Nm := [(3, .any)]
def x75_1 : An := (.seq (.seq .leaf (.cond .leaf .leaf)) (.seq (.block none .leaf) .leaf))
def an75 (r1 : RunL) : An := (.seq .leaf (.seq .leaf (.seq .leaf (.seq (.seq .leaf (.block none (.loop nm75_0 x75_0))) (.seq .leaf (.seq (.seq .leaf (.block none (.sum nm75_1 N75 r1))) (.seq .leaf .leaf)))))))
noncomputable def lpS75_1 (f : Nat) (rc : Nat → Int → Int → Int → Int → Int → Int → Int → Int → Int → Int → Int → Int → Int → Int → Bool → Bool → List PV → List PV → Option Res) (k0 : Nat → List PV → Option Res) (v0 : Nat) (v1 : Int) (v2 : Int) (v3 : Int) (v4 : Int) (v5 : Int) (v6 : Int) (v7 : Int) (v8 : Int) (v9 : Int) (v10 : Int) (v11 : Int) (v12 : Int) (v13 : Int) (v14 : Int) (v15 : Bool) (v16 : Bool) (v17 : List PV) (v18 : List PV) : Option Res := bif decide (v1 < zi v17.length) then bif decide (0 ≤ v1) && decide (v1 < zi v17.length) && PV.isRo 5 (v17.getD v1.toNat PV.top) && true then bif allInt IntKind.u8 (v17.getD v1.toNat PV.top).els && true then bif okL v0 v18 && (ByteArray.mk (Array.mk (toBytes ((v17.getD v1.toNat PV.top).nl, (v17.getD v1.toNat PV.top).els).snd))).size.ble 65535 then rc ((apT v18 (ByteArray.mk (Array.mk (toBytes ((v17.getD v1.toNat PV.top).nl, (v17.getD v1.toNat PV.top).els).snd)))).length) (IntKind.i64.wrap (v1 + 1)) v2 v3 v4 v5 v6 v7 v8 v9 v10 v11 v12 v13 v14 v15 v16 v17 (apT v18 (ByteArray.mk (Array.mk (toBytes ((v17.getD v1.toNat PV.top).nl, (v17.getD v1.toNat PV.top).els).snd)))) else none else none else none else k0 v0 v18
noncomputable def lp75_1 (f : Nat) (k0 : Nat → List PV → Option Res) : Nat → Nat → Int → Int → Int → Int → Int → Int → Int → Int → Int → Int → Int → Int → Int → Int → Bool → Bool → List PV → List PV → Option Res
  | 0, _, _, _, _, _, _, _, _, _, _, _, _, _, _, _, _, _, _, _ => none
  | n + 1, v0, v1, v2, v3, v4, v5, v6, v7, v8, v9, v10, v11, v12, v13, v14, v15, v16, v17, v18 => lpS75_1 f (lp75_1 f k0 n) k0 v0 v1 v2 v3 v4 v5 v6 v7 v8 v9 v10 v11 v12 v13 v14 v15 v16 v17 v18
theorem lpR75_1 (f : Nat) (k : Kont) (n : Nat) (v0 : Nat) (v1 : Int) (v2 : Int) (v3 : Int) (v4 : Int) (v5 : Int) (v6 : Int) (v7 : Int) (v8 : Int) (v9 : Int) (v10 : Int) (v11 : Int) (v12 : Int) (v13 : Int) (v14 : Int) (v15 : Bool) (v16 : Bool) (v17 : List PV) (v18 : List PV) : evLoop tau 0 nm75_1 (fun s k => ev tau F75 0 0 c75_1 (x75_1 ) s k) (n + 1) (fillS nm75_1 N75 [.ptr 1200 [], .ow 5 1201 [] 0 v0 none, .sc (.int .i64 v1)] [(1200, .box false 54 (PV.st 54 [.sc (.int .i64 v2), .sc (.int .i64 v3), .sc (.int .i64 v4), .st 34 [.sc (.int .i64 v5), .sc (.int .i64 v6)], .st 45 [.sc (.int .i64 v7), .sc (.int .i64 v8)], .sc (.int .i64 v9), .sc (.int .i64 v10), .st 45 [.sc (.int .i64 v11), .sc (.int .i64 v12)], .sc (.int .i64 v13), .sc (.int .i64 v14), .ro 29 v15 v16 v17])), (1201, .vec false 5 false v18)]) (kNorm tau 0 nx75_1 k) = lpS75_1 f (fun v0 v1 v2 v3 v4 v5 v6 v7 v8 v9 v10 v11 v12 v13 v14 v15 v16 v17 v18 => evLoop tau 0 nm75_1 (fun s k => ev tau F75 0 0 c75_1 (x75_1 ) s k) n (fillS nm75_1 N75 [.ptr 1200 [], .ow 5 1201 [] 0 v0 none, .sc (.int .i64 v1)] [(1200, .box false 54 (PV.st 54 [.sc (.int .i64 v2), .sc (.int .i64 v3), .sc (.int .i64 v4), .st 34 [.sc (.int .i64 v5), .sc (.int .i64 v6)], .st 45 [.sc (.int .i64 v7), .sc (.int .i64 v8)], .sc (.int .i64 v9), .sc (.int .i64 v10), .st 45 [.sc (.int .i64 v11), .sc (.int .i64 v12)], .sc (.int .i64 v13), .sc (.int .i64 v14), .ro 29 v15 v16 v17])), (1201, .vec false 5 false v18)]) (kNorm tau 0 nx75_1 k)) (fun x0 x1 => k (Ex.exit 2) (fillS nx75_1 N75 [.ow 5 1200 [] 0 x0 none] [(1200, .vec false 5 false x1)])) v0 v1 v2 v3 v4 v5 v6 v7 v8 v9 v10 v11 v12 v13 v14 v15 v16 v17 v18 := by kernel_rfl
theorem lpE75_1 (f : Nat) (k : Kont) : ∀ (n : Nat) (v0 : Nat) (v1 : Int) (v2 : Int) (v3 : Int) (v4 : Int) (v5 : Int) (v6 : Int) (v7 : Int) (v8 : Int) (v9 : Int) (v10 : Int) (v11 : Int) (v12 : Int) (v13 : Int) (v14 : Int) (v15 : Bool) (v16 : Bool) (v17 : List PV) (v18 : List PV), evLoop tau 0 nm75_1 (fun s k => ev tau F75 0 0 c75_1 (x75_1 ) s k) n (fillS nm75_1 N75 [.ptr 1200 [], .ow 5 1201 [] 0 v0 none, .sc (.int .i64 v1)] [(1200, .box false 54 (PV.st 54 [.sc (.int .i64 v2), .sc (.int .i64 v3), .sc (.int .i64 v4), .st 34 [.sc (.int .i64 v5), .sc (.int .i64 v6)], .st 45 [.sc (.int .i64 v7), .sc (.int .i64 v8)], .sc (.int .i64 v9), .sc (.int .i64 v10), .st 45 [.sc (.int .i64 v11), .sc (.int .i64 v12)], .sc (.int .i64 v13), .sc (.int .i64 v14), .ro 29 v15 v16 v17])), (1201, .vec false 5 false v18)]) (kNorm tau 0 nx75_1 k) = lp75_1 f (fun x0 x1 => k (Ex.exit 2) (fillS nx75_1 N75 [.ow 5 1200 [] 0 x0 none] [(1200, .vec false 5 false x1)])) n v0 v1 v2 v3 v4 v5 v6 v7 v8 v9 v10 v11 v12 v13 v14 v15 v16 v17 v18 | 0, _, _, _, _, _, _, _, _, _, _, _, _, _, _, _, _, _, _, _ => rfl | n + 1, v0, v1, v2, v3, v4, v5, v6, v7, v8, v9, v10, v11, v12, v13, v14, v15, v16, v17, v18 => (lpR75_1 f k n v0 v1 v2 v3 v4 v5 v6 v7 v8 v9 v10 v11 v12 v13 v14 v15 v16 v17 v18).trans (congrArg (fun r => lpS75_1 f r (fun x0 x1 => k (Ex.exit 2) (fillS nx75_1 N75 [.ow 5 1200 [] 0 x0 none] [(1200, .vec false 5 false x1)])) v0 v1 v2 v3 v4 v5 v6 v7 v8 v9 v10 v11 v12 v13 v14 v15 v16 v17 v18) (by funext v0 v1 v2 v3 v4 v5 v6 v7 v8 v9 v10 v11 v12 v13 v14 v15 v16 v17 v18; exact lpE75_1 f k n v0 v1 v2 v3 v4 v5 v6 v7 v8 v9 v10 v11 v12 v13 v14 v15 v16 v17 v18))
noncomputable def r75_1 (f : Nat) : List PV → List (Nat × Ent) → Kont → Option Res
  | [.ptr 1200 [], .ow 5 1201 [] 0 v0 none,
  PV.sc
    (Value.int IntKind.i64
      v1)], [(1200,
    Ent.box false 54
      (PV.st 54
        [.sc (.int .i64 v2), .sc (.int .i64 v3), .sc (.int .i64 v4), .st 34 [.sc (.int .i64 v5), .sc (.int .i64 v6)],
          PV.st 45 [.sc (.int .i64 v7), .sc (.int .i64 v8)], .sc (.int .i64 v9), .sc (.int .i64 v10),
          PV.st 45 [.sc (.int .i64 v11), .sc (.int .i64 v12)], .sc (.int .i64 v13), .sc (.int .i64 v14), .ro 29 v15 v16 v17])),
  (1201,
    Ent.vec false 5 false
      v18)], k => lp75_1 f (fun x0 x1 => k (Ex.exit
  2) (fillS nx75_1 N75 [.ow 5 1200 [] 0 x0 none] [(1200, .vec false 5 false x1)])) f v0 v1 v2 v3 v4 v5 v6 v7 v8 v9 v10 v11 v12 v13 v14 v15 v16 v17 v18
  | _, _, _ => none
theorem it75_1 (f : Nat) : items c75_1 x75_1 = [] := by kernel_rfl
theorem i75_1 (f : Nat) : (Item.l c75_1 nm75_1 N75 (r75_1 f)).Ok tau Try.prog 0 := loop_item tabOk F75_ok mixed (x := x75_1) (nm2 := nx75_1) (anOk_items _ _ (by rw [it75_1 f]; intro q hq; cases hq)) fun vs hp k res hr => by
  unfold r75_1 at hr
  split at hr
  · exact ⟨f, 0, (lpE75_1 f _ f _ _ _ _ _ _ _ _ _ _ _ _ _ _ _ _ _ _ _ ).trans hr⟩
  · cases hr
noncomputable def g75 (f : Nat) (m_Kind : Int) (m_From : Int) (m_To : Int) (m_W_Host : Int) (m_W_N : Int) (m_Creator_D : Int) (m_Creator_U : Int) (m_Version : Int) (m_Commit : Int) (m_Author_D : Int) (m_Author_U : Int) (m_Sub : Int) (m_Err : Int) (m_Body_z : Bool) (m_Body_f : Bool) (m_Body : List PV) (k : Res → Option Res) : Option Res := bif okL (apY [] m_Kind).length (apY [] m_Kind) then bif okL (apI (apY [] m_Kind) m_From).length (apI (apY [] m_Kind) m_From) then bif okL (apI (apI (apY [] m_Kind) m_From) m_To).length (apI (apI (apY [] m_Kind) m_From) m_To) then bif okL (apI (apI (apI (apY [] m_Kind) m_From) m_To) m_W_Host).length (apI (apI (apI (apY [] m_Kind) m_From) m_To) m_W_Host) then bif okL (apI (apI (apI (apI (apY [] m_Kind) m_From) m_To) m_W_Host) m_W_N).length (apI (apI (apI (apI (apY [] m_Kind) m_From) m_To) m_W_Host) m_W_N) then bif okL (apI (apI (apI (apI (apI (apY [] m_Kind) m_From) m_To) m_W_Host) m_W_N) m_Creator_D).length (apI (apI (apI (apI (apI (apY [] m_Kind) m_From) m_To) m_W_Host) m_W_N) m_Creator_D) then bif okL (apI (apI (apI (apI (apI (apI (apY [] m_Kind) m_From) m_To) m_W_Host) m_W_N) m_Creator_D) m_Creator_U).length (apI (apI (apI (apI (apI (apI (apY [] m_Kind) m_From) m_To) m_W_Host) m_W_N) m_Creator_D) m_Creator_U) then bif okL (apI (apI (apI (apI (apI (apI (apI (apY [] m_Kind) m_From) m_To) m_W_Host) m_W_N) m_Creator_D) m_Creator_U) m_Version).length (apI (apI (apI (apI (apI (apI (apI (apY [] m_Kind) m_From) m_To) m_W_Host) m_W_N) m_Creator_D) m_Creator_U) m_Version) then bif okL (apI (apI (apI (apI (apI (apI (apI (apI (apY [] m_Kind) m_From) m_To) m_W_Host) m_W_N) m_Creator_D) m_Creator_U) m_Version) m_Commit).length (apI (apI (apI (apI (apI (apI (apI (apI (apY [] m_Kind) m_From) m_To) m_W_Host) m_W_N) m_Creator_D) m_Creator_U) m_Version) m_Commit) then bif okL (apI (apI (apI (apI (apI (apI (apI (apI (apI (apY [] m_Kind) m_From) m_To) m_W_Host) m_W_N) m_Creator_D) m_Creator_U) m_Version) m_Commit) m_Author_D).length (apI (apI (apI (apI (apI (apI (apI (apI (apI (apY [] m_Kind) m_From) m_To) m_W_Host) m_W_N) m_Creator_D) m_Creator_U) m_Version) m_Commit) m_Author_D) then bif okL (apI (apI (apI (apI (apI (apI (apI (apI (apI (apI (apY [] m_Kind) m_From) m_To) m_W_Host) m_W_N) m_Creator_D) m_Creator_U) m_Version) m_Commit) m_Author_D) m_Author_U).length (apI (apI (apI (apI (apI (apI (apI (apI (apI (apI (apY [] m_Kind) m_From) m_To) m_W_Host) m_W_N) m_Creator_D) m_Creator_U) m_Version) m_Commit) m_Author_D) m_Author_U) then bif okL (apI (apI (apI (apI (apI (apI (apI (apI (apI (apI (apI (apY [] m_Kind) m_From) m_To) m_W_Host) m_W_N) m_Creator_D) m_Creator_U) m_Version) m_Commit) m_Author_D) m_Author_U) m_Sub).length (apI (apI (apI (apI (apI (apI (apI (apI (apI (apI (apI (apY [] m_Kind) m_From) m_To) m_W_Host) m_W_N) m_Creator_D) m_Creator_U) m_Version) m_Commit) m_Author_D) m_Author_U) m_Sub) then bif okL (apI (apI (apI (apI (apI (apI (apI (apI (apI (apI (apI (apI (apY [] m_Kind) m_From) m_To) m_W_Host) m_W_N) m_Creator_D) m_Creator_U) m_Version) m_Commit) m_Author_D) m_Author_U) m_Sub) m_Err).length (apI (apI (apI (apI (apI (apI (apI (apI (apI (apI (apI (apI (apY [] m_Kind) m_From) m_To) m_W_Host) m_W_N) m_Creator_D) m_Creator_U) m_Version) m_Commit) m_Author_D) m_Author_U) m_Sub) m_Err) then lp75_1 f (fun x0_0 x1_0 => k (Res.mk (.ow 5 16 [] 0 x0_0 none) [] [.vec false 5 false x1_0])) f ((apY (apI (apI (apI (apI (apI (apI (apI (apI (apI (apI (apI (apI (apY [] m_Kind) m_From) m_To) m_W_Host) m_W_N) m_Creator_D) m_Creator_U) m_Version) m_Commit) m_Author_D) m_Author_U) m_Sub) m_Err) (zi m_Body.length)).length) (0) m_Kind m_From m_To m_W_Host m_W_N m_Creator_D m_Creator_U m_Version m_Commit m_Author_D m_Author_U m_Sub m_Err m_Body_z m_Body_f m_Body (apY (apI (apI (apI (apI (apI (apI (apI (apI (apI (apI (apI (apI (apY [] m_Kind) m_From) m_To) m_W_Host) m_W_N) m_Creator_D) m_Creator_U) m_Version) m_Commit) m_Author_D) m_Author_U) m_Sub) m_Err) (zi m_Body.length)) else none else none else none else none else none else none else none else none else none else none else none else none else none
theorem e75 (f : Nat) (m_Kind : Int) (m_From : Int) (m_To : Int) (m_W_Host : Int) (m_W_N : Int) (m_Creator_D : Int) (m_Creator_U : Int) (m_Version : Int) (m_Commit : Int) (m_Author_D : Int) (m_Author_U : Int) (m_Sub : Int) (m_Err : Int) (m_Body_z : Bool) (m_Body_f : Bool) (m_Body : List PV) (k : Res → Option Res) : evFn tau F75 Try.f75 (Try.f75.body.get!) (an75 (r75_1 f)) [] 13 [.st 54 [.sc (.int .i64 m_Kind), .sc (.int .i64 m_From), .sc (.int .i64 m_To), .st 34 [.sc (.int .i64 m_W_Host), .sc (.int .i64 m_W_N)], .st 45 [.sc (.int .i64 m_Creator_D), .sc (.int .i64 m_Creator_U)], .sc (.int .i64 m_Version), .sc (.int .i64 m_Commit), .st 45 [.sc (.int .i64 m_Author_D), .sc (.int .i64 m_Author_U)], .sc (.int .i64 m_Sub), .sc (.int .i64 m_Err), .ro 29 m_Body_z m_Body_f m_Body]] [] k = g75 f m_Kind m_From m_To m_W_Host m_W_N m_Creator_D m_Creator_U m_Version m_Commit m_Author_D m_Author_U m_Sub m_Err m_Body_z m_Body_f m_Body k := by kernel_rfl
theorem it75 (f : Nat) : items (Try.f75.body.get!) (an75 (r75_1 f)) = [.l c75_1 nm75_1 N75 (r75_1 f)] := by kernel_rfl
theorem ia75 (f : Nat) : ∀ q ∈ items (Try.f75.body.get!) (an75 (r75_1 f)), q.Ok tau Try.prog 0 := by
  rw [it75 f]; simp only [List.forall_mem_cons, List.not_mem_nil, false_implies, implies_true, and_true]; exact i75_1 f
theorem fo75 : Try.prog.funcs[75]? = some Try.f75 := by kernel_rfl
theorem bo75 : Try.f75.body = some (Try.f75.body.get!) := by kernel_rfl
theorem en75 : Enters Try.prog 75 := enters_of fo75 (by kernel_rfl) bo75
end Go.Proofs.Ytcklhipdldpkhaa.Rx

namespace Go.Proofs.Ytcklhipdldpkhaa.Rx
open Go
set_option linter.unusedVariables false
set_option maxRecDepth 100000
set_option maxHeartbeats 0
def N41 : Nat := 53
noncomputable def F41 : Fns := addF 98 s98h (addF 97 s97h (addF 96 s96h (addF 93 s93 (addF 81 s81' (addF 80 s80' (F0))))))
theorem F41_ok : FnsOk tau Try.prog F41 := ((((((F0_ok).add ok80' en80).add ok81' en81).add ok93 en93).add ok96h en96).add ok97h en97).add ok98h en98
def nm41_0 : Nm := [(2, .any), (3, .any), (5, .any), (14, .any), (15, .any), (16, .any)]
def x41_0 : An := (.seq .leaf (.seq (.cond .leaf .leaf) (.seq (.block none (.seq .leaf .leaf)) .leaf)))
noncomputable def c41_1 : Code := subC (Try.f41.body.get!) [1, 1, 1, 1, 0, 1, 0, 0]
def nm41_1 : Nm := [(2, .any), (3, .any), (5, .own), (32, .any), (33, .any), (34, .any)]
def nx41_1 : Nm := [(2, .any), (3, .any), (5, .any)]
def x41_1 : An := (.seq .leaf (.seq (.cond .leaf .leaf) (.seq (.block none (.seq .leaf .leaf)) .leaf)))
def an41 (r1 : RunL) : An := (.seq .leaf (.seq .leaf (.seq (.seq .leaf (.block none (.loop nm41_0 x41_0))) (.seq .leaf (.seq (.seq .leaf (.block none (.sum nm41_1 N41 r1))) (.seq .leaf (.seq .leaf .leaf)))))))
noncomputable def lpS41_1 (f : Nat) (rc : Nat → Bool → Bool → List PV → Int → Int → Bool → Bool → List PV → Bool → Bool → List PV → Bool → Bool → List PV → Int → Int → Int → Int → Int → Int → Int → Int → Int → Int → Int → Int → Int → Bool → Bool → List PV → List PV → Option Res) (k0 : Nat → Bool → Bool → List PV → Bool → Bool → List PV → Bool → Bool → List PV → Int → Int → Int → Int → Int → Int → Int → Int → Int → Int → Int → Int → Int → Bool → Bool → List PV → List PV → Option Res) (v0 : Nat) (v1 : Bool) (v2 : Bool) (v3 : List PV) (v4 : Int) (v5 : Int) (v6 : Bool) (v7 : Bool) (v8 : List PV) (v9 : Bool) (v10 : Bool) (v11 : List PV) (v12 : Bool) (v13 : Bool) (v14 : List PV) (v15 : Int) (v16 : Int) (v17 : Int) (v18 : Int) (v19 : Int) (v20 : Int) (v21 : Int) (v22 : Int) (v23 : Int) (v24 : Int) (v25 : Int) (v26 : Int) (v27 : Int) (v28 : Bool) (v29 : Bool) (v30 : List PV) (v31 : List PV) : Option Res := bif decide (v5 < v4) then bif decide (0 ≤ v5) && decide (v5 < zi v3.length) && PV.isRo 5 (v3.getD v5.toNat PV.top) && true then bif allInt IntKind.u8 (v3.getD v5.toNat PV.top).els && true then bif okZ false (List.take v0 v31) && (ByteArray.mk (Array.mk (toBytes ((v3.getD v5.toNat PV.top).nl, (v3.getD v5.toNat PV.top).els).snd))).size.ble 65535 then rc ((apT (List.take v0 v31) (ByteArray.mk (Array.mk (toBytes ((v3.getD v5.toNat PV.top).nl, (v3.getD v5.toNat PV.top).els).snd)))).length) v1 v2 v3 v4 (IntKind.i64.wrap (v5 + 1)) v6 v7 v8 v9 v10 v11 v12 v13 v14 v15 v16 v17 v18 v19 v20 v21 v22 v23 v24 v25 v26 v27 v28 v29 v30 (apT (List.take v0 v31) (ByteArray.mk (Array.mk (toBytes ((v3.getD v5.toNat PV.top).nl, (v3.getD v5.toNat PV.top).els).snd)))) else none else none else none else k0 v0 v6 v7 v8 v9 v10 v11 v12 v13 v14 v15 v16 v17 v18 v19 v20 v21 v22 v23 v24 v25 v26 v27 v28 v29 v30 v31
noncomputable def lp41_1 (f : Nat) (k0 : Nat → Bool → Bool → List
  PV → Bool → Bool → List
  PV → Bool → Bool → List
  PV → Int → Int → Int → Int → Int → Int → Int → Int → Int → Int → Int → Int → Int → Bool → Bool → List
  PV → List
  PV → Option Res) : Nat → Nat → Bool → Bool → List
  PV → Int → Int → Bool → Bool → List
  PV → Bool → Bool → List PV → Bool → Bool → List PV → Int → Int → Int → Int → Int → Int → Int → Int → Int → Int → Int → Int → Int → Bool → Bool → List PV → List PV → Option Res
  | 0, _, _, _, _, _, _, _, _, _, _, _, _, _, _, _, _, _, _, _, _, _, _, _, _, _, _, _, _, _, _, _, _ => none
  | n + 1, v0, v1, v2, v3, v4, v5, v6, v7, v8, v9, v10, v11, v12, v13, v14, v15, v16, v17, v18, v19, v20, v21, v22, v23, v24, v25, v26, v27, v28, v29, v30, v31 => lpS41_1 f (lp41_1 f k0 n) k0 v0 v1 v2 v3 v4 v5 v6 v7 v8 v9 v10 v11 v12 v13 v14 v15 v16 v17 v18 v19 v20 v21 v22 v23 v24 v25 v26 v27 v28 v29 v30 v31
theorem lpR41_1 (f : Nat) (k : Kont) (n : Nat) (v0 : Nat) (v1 : Bool) (v2 : Bool) (v3 : List PV) (v4 : Int) (v5 : Int) (v6 : Bool) (v7 : Bool) (v8 : List PV) (v9 : Bool) (v10 : Bool) (v11 : List PV) (v12 : Bool) (v13 : Bool) (v14 : List PV) (v15 : Int) (v16 : Int) (v17 : Int) (v18 : Int) (v19 : Int) (v20 : Int) (v21 : Int) (v22 : Int) (v23 : Int) (v24 : Int) (v25 : Int) (v26 : Int) (v27 : Int) (v28 : Bool) (v29 : Bool) (v30 : List PV) (v31 : List PV) : evLoop tau 0 nm41_1 (fun s k => ev tau F41 0 0 c41_1 (x41_1 ) s k) (n + 1) (fillS nm41_1 N41 [.ptr 864 [], .ptr 865 [], .ow 5 866 [] 0 v0 none, .ro 29 v1 v2 v3, .sc (.int .i64 v4), .sc (.int .i64 v5)] [(864, .box false 31 (PV.st 31 [.ro 5 v6 v7 v8, .ro 5 v9 v10 v11, .ro 5 v12 v13 v14])), (865, .box false 54 (PV.st 54 [.sc (.int .i64 v15), .sc (.int .i64 v16), .sc (.int .i64 v17), .st 34 [.sc (.int .i64 v18), .sc (.int .i64 v19)], .st 45 [.sc (.int .i64 v20), .sc (.int .i64 v21)], .sc (.int .i64 v22), .sc (.int .i64 v23), .st 45 [.sc (.int .i64 v24), .sc (.int .i64 v25)], .sc (.int .i64 v26), .sc (.int .i64 v27), .ro 29 v28 v29 v30])), (866, .vec false 5 false v31)]) (kNorm tau 0 nx41_1 k) = lpS41_1 f (fun v0 v1 v2 v3 v4 v5 v6 v7 v8 v9 v10 v11 v12 v13 v14 v15 v16 v17 v18 v19 v20 v21 v22 v23 v24 v25 v26 v27 v28 v29 v30 v31 => evLoop tau 0 nm41_1 (fun s k => ev tau F41 0 0 c41_1 (x41_1 ) s k) n (fillS nm41_1 N41 [.ptr 864 [], .ptr 865 [], .ow 5 866 [] 0 v0 none, .ro 29 v1 v2 v3, .sc (.int .i64 v4), .sc (.int .i64 v5)] [(864, .box false 31 (PV.st 31 [.ro 5 v6 v7 v8, .ro 5 v9 v10 v11, .ro 5 v12 v13 v14])), (865, .box false 54 (PV.st 54 [.sc (.int .i64 v15), .sc (.int .i64 v16), .sc (.int .i64 v17), .st 34 [.sc (.int .i64 v18), .sc (.int .i64 v19)], .st 45 [.sc (.int .i64 v20), .sc (.int .i64 v21)], .sc (.int .i64 v22), .sc (.int .i64 v23), .st 45 [.sc (.int .i64 v24), .sc (.int .i64 v25)], .sc (.int .i64 v26), .sc (.int .i64 v27), .ro 29 v28 v29 v30])), (866, .vec false 5 false v31)]) (kNorm tau 0 nx41_1 k)) (fun x0 x1 x2 x3 x4 x5 x6 x7 x8 x9 x10 x11 x12 x13 x14 x15 x16 x17 x18 x19 x20 x21 x22 x23 x24 x25 x26 => k (Ex.exit 2) (fillS nx41_1 N41 [.ptr 864 [], .ptr 865 [], .ow 5 866 [] 0 x0 none] [(864, .box false 31 (PV.st 31 [.ro 5 x1 x2 x3, .ro 5 x4 x5 x6, .ro 5 x7 x8 x9])), (865, .box false 54 (PV.st 54 [.sc (.int .i64 x10), .sc (.int .i64 x11), .sc (.int .i64 x12), .st 34 [.sc (.int .i64 x13), .sc (.int .i64 x14)], .st 45 [.sc (.int .i64 x15), .sc (.int .i64 x16)], .sc (.int .i64 x17), .sc (.int .i64 x18), .st 45 [.sc (.int .i64 x19), .sc (.int .i64 x20)], .sc (.int .i64 x21), .sc (.int .i64 x22), .ro 29 x23 x24 x25])), (866, .vec false 5 false x26)])) v0 v1 v2 v3 v4 v5 v6 v7 v8 v9 v10 v11 v12 v13 v14 v15 v16 v17 v18 v19 v20 v21 v22 v23 v24 v25 v26 v27 v28 v29 v30 v31 := by kernel_rfl
theorem lpE41_1 (f : Nat) (k : Kont) : ∀ (n : Nat) (v0 : Nat) (v1 : Bool) (v2 : Bool) (v3 : List PV) (v4 : Int) (v5 : Int) (v6 : Bool) (v7 : Bool) (v8 : List PV) (v9 : Bool) (v10 : Bool) (v11 : List PV) (v12 : Bool) (v13 : Bool) (v14 : List PV) (v15 : Int) (v16 : Int) (v17 : Int) (v18 : Int) (v19 : Int) (v20 : Int) (v21 : Int) (v22 : Int) (v23 : Int) (v24 : Int) (v25 : Int) (v26 : Int) (v27 : Int) (v28 : Bool) (v29 : Bool) (v30 : List PV) (v31 : List PV), evLoop tau 0 nm41_1 (fun s k => ev tau F41 0 0 c41_1 (x41_1 ) s k) n (fillS nm41_1 N41 [.ptr 864 [], .ptr 865 [], .ow 5 866 [] 0 v0 none, .ro 29 v1 v2 v3, .sc (.int .i64 v4), .sc (.int .i64 v5)] [(864, .box false 31 (PV.st 31 [.ro 5 v6 v7 v8, .ro 5 v9 v10 v11, .ro 5 v12 v13 v14])), (865, .box false 54 (PV.st 54 [.sc (.int .i64 v15), .sc (.int .i64 v16), .sc (.int .i64 v17), .st 34 [.sc (.int .i64 v18), .sc (.int .i64 v19)], .st 45 [.sc (.int .i64 v20), .sc (.int .i64 v21)], .sc (.int .i64 v22), .sc (.int .i64 v23), .st 45 [.sc (.int .i64 v24), .sc (.int .i64 v25)], .sc (.int .i64 v26), .sc (.int .i64 v27), .ro 29 v28 v29 v30])), (866, .vec false 5 false v31)]) (kNorm tau 0 nx41_1 k) = lp41_1 f (fun x0 x1 x2 x3 x4 x5 x6 x7 x8 x9 x10 x11 x12 x13 x14 x15 x16 x17 x18 x19 x20 x21 x22 x23 x24 x25 x26 => k (Ex.exit 2) (fillS nx41_1 N41 [.ptr 864 [], .ptr 865 [], .ow 5 866 [] 0 x0 none] [(864, .box false 31 (PV.st 31 [.ro 5 x1 x2 x3, .ro 5 x4 x5 x6, .ro 5 x7 x8 x9])), (865, .box false 54 (PV.st 54 [.sc (.int .i64 x10), .sc (.int .i64 x11), .sc (.int .i64 x12), .st 34 [.sc (.int .i64 x13), .sc (.int .i64 x14)], .st 45 [.sc (.int .i64 x15), .sc (.int .i64 x16)], .sc (.int .i64 x17), .sc (.int .i64 x18), .st 45 [.sc (.int .i64 x19), .sc (.int .i64 x20)], .sc (.int .i64 x21), .sc (.int .i64 x22), .ro 29 x23 x24 x25])), (866, .vec false 5 false x26)])) n v0 v1 v2 v3 v4 v5 v6 v7 v8 v9 v10 v11 v12 v13 v14 v15 v16 v17 v18 v19 v20 v21 v22 v23 v24 v25 v26 v27 v28 v29 v30 v31 | 0, _, _, _, _, _, _, _, _, _, _, _, _, _, _, _, _, _, _, _, _, _, _, _, _, _, _, _, _, _, _, _, _ => rfl | n + 1, v0, v1, v2, v3, v4, v5, v6, v7, v8, v9, v10, v11, v12, v13, v14, v15, v16, v17, v18, v19, v20, v21, v22, v23, v24, v25, v26, v27, v28, v29, v30, v31 => (lpR41_1 f k n v0 v1 v2 v3 v4 v5 v6 v7 v8 v9 v10 v11 v12 v13 v14 v15 v16 v17 v18 v19 v20 v21 v22 v23 v24 v25 v26 v27 v28 v29 v30 v31).trans (congrArg (fun r => lpS41_1 f r (fun x0 x1 x2 x3 x4 x5 x6 x7 x8 x9 x10 x11 x12 x13 x14 x15 x16 x17 x18 x19 x20 x21 x22 x23 x24 x25 x26 => k (Ex.exit 2) (fillS nx41_1 N41 [.ptr 864 [], .ptr 865 [], .ow 5 866 [] 0 x0 none] [(864, .box false 31 (PV.st 31 [.ro 5 x1 x2 x3, .ro 5 x4 x5 x6, .ro 5 x7 x8 x9])), (865, .box false 54 (PV.st 54 [.sc (.int .i64 x10), .sc (.int .i64 x11), .sc (.int .i64 x12), .st 34 [.sc (.int .i64 x13), .sc (.int .i64 x14)], .st 45 [.sc (.int .i64 x15), .sc (.int .i64 x16)], .sc (.int .i64 x17), .sc (.int .i64 x18), .st 45 [.sc (.int .i64 x19), .sc (.int .i64 x20)], .sc (.int .i64 x21), .sc (.int .i64 x22), .ro 29 x23 x24 x25])), (866, .vec false 5 false x26)])) v0 v1 v2 v3 v4 v5 v6 v7 v8 v9 v10 v11 v12 v13 v14 v15 v16 v17 v18 v19 v20 v21 v22 v23 v24 v25 v26 v27 v28 v29 v30 v31) (by funext v0 v1 v2 v3 v4 v5 v6 v7 v8 v9 v10 v11 v12 v13 v14 v15 v16 v17 v18 v19 v20 v21 v22 v23 v24 v25 v26 v27 v28 v29 v30 v31; exact lpE41_1 f k n v0 v1 v2 v3 v4 v5 v6 v7 v8 v9 v10 v11 v12 v13 v14 v15 v16 v17 v18 v19 v20 v21 v22 v23 v24 v25 v26 v27 v28 v29 v30 v31))
noncomputable def r41_1 (f : Nat) : List PV → List (Nat × Ent) → Kont → Option Res
  | [.ptr 864 [], .ptr 865 [], .ow 5 866 [] 0 v0 none, .ro 29 v1 v2 v3, .sc (.int .i64 v4),
  PV.sc
    (Value.int IntKind.i64
      v5)], [(864, .box false 31 (PV.st 31 [.ro 5 v6 v7 v8, .ro 5 v9 v10 v11, .ro 5 v12 v13 v14])),
  (865,
    Ent.box false 54
      (PV.st 54
        [.sc (.int .i64 v15), .sc (.int .i64 v16), .sc (.int .i64 v17), .st 34 [.sc (.int .i64 v18), .sc (.int .i64 v19)],
          PV.st 45 [.sc (.int .i64 v20), .sc (.int .i64 v21)], .sc (.int .i64 v22), .sc (.int .i64 v23),
          PV.st 45 [.sc (.int .i64 v24), .sc (.int .i64 v25)], .sc (.int .i64 v26), .sc (.int .i64 v27), .ro 29 v28 v29 v30])),
  (866,
    Ent.vec false 5 false
      v31)], k => lp41_1 f (fun x0 x1 x2 x3 x4 x5 x6 x7 x8 x9 x10 x11 x12 x13 x14 x15 x16 x17 x18 x19 x20 x21 x22 x23 x24 x25 x26 => k (Ex.exit
  2) (fillS nx41_1 N41 [.ptr 864 [], .ptr 865 [],
  PV.ow 5 866 [] 0 x0
    none] [(864, .box false 31 (PV.st 31 [.ro 5 x1 x2 x3, .ro 5 x4 x5 x6, .ro 5 x7 x8 x9])),
  (865,
    Ent.box false 54
      (PV.st 54
        [.sc (.int .i64 x10), .sc (.int .i64 x11), .sc (.int .i64 x12), .st 34 [.sc (.int .i64 x13), .sc (.int .i64 x14)],
          PV.st 45 [.sc (.int .i64 x15), .sc (.int .i64 x16)], .sc (.int .i64 x17), .sc (.int .i64 x18),
          PV.st 45 [.sc (.int .i64 x19), .sc (.int .i64 x20)], .sc (.int .i64 x21), .sc (.int .i64 x22), .ro 29 x23 x24 x25])),
  (866, .vec false 5 false x26)])) f v0 v1 v2 v3 v4 v5 v6 v7 v8 v9 v10 v11 v12 v13 v14 v15 v16 v17 v18 v19 v20 v21 v22 v23 v24 v25 v26 v27 v28 v29 v30 v31
  | _, _, _ => none
theorem it41_1 (f : Nat) : items c41_1 x41_1 = [] := by kernel_rfl
theorem i41_1 (f : Nat) : (Item.l c41_1 nm41_1 N41 (r41_1 f)).Ok tau Try.prog 0 := loop_item tabOk F41_ok mixed (x := x41_1) (nm2 := nx41_1) (anOk_items _ _ (by rw [it41_1 f]; intro q hq; cases hq)) fun vs hp k res hr => by
  unfold r41_1 at hr
  split at hr
  · exact ⟨f, 0, (lpE41_1 f _ f _ _ _ _ _ _ _ _ _ _ _ _ _ _ _ _ _ _ _ _ _ _ _ _ _ _ _ _ _ _ _ _ ).trans hr⟩
  · cases hr
noncomputable def g41 (f : Nat) (k0_z : Bool) (k0_f : Bool) (k0 : List PV) (k1_z : Bool) (k1_f : Bool) (k1 : List PV) (k2_z : Bool) (k2_f : Bool) (k2 : List PV) (m_Kind : Int) (m_From : Int) (m_To : Int) (m_W_Host : Int) (m_W_N : Int) (m_Creator_D : Int) (m_Creator_U : Int) (m_Version : Int) (m_Commit : Int) (m_Author_D : Int) (m_Author_U : Int) (m_Sub : Int) (m_Err : Int) (m_Body_z : Bool) (m_Body_f : Bool) (m_Body : List PV) (k : Res → Option Res) : Option Res := bif okZ true [] then bif okZ false (List.take (apY [] m_Kind).length (apY [] m_Kind)) then bif okZ false (apI (List.take (apY [] m_Kind).length (apY [] m_Kind)) m_From) then bif okZ false (apI (apI (List.take (apY [] m_Kind).length (apY [] m_Kind)) m_From) m_To) then bif okZ false (apI (apI (apI (List.take (apY [] m_Kind).length (apY [] m_Kind)) m_From) m_To) m_W_Host) then bif okZ false (apI (apI (apI (apI (List.take (apY [] m_Kind).length (apY [] m_Kind)) m_From) m_To) m_W_Host) m_W_N) then bif okZ false (apI (apI (apI (apI (apI (List.take (apY [] m_Kind).length (apY [] m_Kind)) m_From) m_To) m_W_Host) m_W_N) m_Creator_D) then bif okZ false (apI (apI (apI (apI (apI (apI (List.take (apY [] m_Kind).length (apY [] m_Kind)) m_From) m_To) m_W_Host) m_W_N) m_Creator_D) m_Creator_U) then bif okZ false (apI (apI (apI (apI (apI (apI (apI (List.take (apY [] m_Kind).length (apY [] m_Kind)) m_From) m_To) m_W_Host) m_W_N) m_Creator_D) m_Creator_U) m_Version) then bif okZ false (apI (apI (apI (apI (apI (apI (apI (apI (List.take (apY [] m_Kind).length (apY [] m_Kind)) m_From) m_To) m_W_Host) m_W_N) m_Creator_D) m_Creator_U) m_Version) m_Commit) then bif okZ false (apI (apI (apI (apI (apI (apI (apI (apI (apI (List.take (apY [] m_Kind).length (apY [] m_Kind)) m_From) m_To) m_W_Host) m_W_N) m_Creator_D) m_Creator_U) m_Version) m_Commit) m_Author_D) then bif okZ false (apI (apI (apI (apI (apI (apI (apI (apI (apI (apI (List.take (apY [] m_Kind).length (apY [] m_Kind)) m_From) m_To) m_W_Host) m_W_N) m_Creator_D) m_Creator_U) m_Version) m_Commit) m_Author_D) m_Author_U) then bif okZ false (apI (apI (apI (apI (apI (apI (apI (apI (apI (apI (apI (List.take (apY [] m_Kind).length (apY [] m_Kind)) m_From) m_To) m_W_Host) m_W_N) m_Creator_D) m_Creator_U) m_Version) m_Commit) m_Author_D) m_Author_U) m_Sub) then bif okZ false (apI (apI (apI (apI (apI (apI (apI (apI (apI (apI (apI (apI (List.take (apY [] m_Kind).length (apY [] m_Kind)) m_From) m_To) m_W_Host) m_W_N) m_Creator_D) m_Creator_U) m_Version) m_Commit) m_Author_D) m_Author_U) m_Sub) m_Err) then lp41_1 f (fun x0_0 x1_0 x2_0 x3_0 x4_0 x5_0 x6_0 x7_0 x8_0 x9_0 x10_0 x11_0 x12_0 x13_0 x14_0 x15_0 x16_0 x17_0 x18_0 x19_0 x20_0 x21_0 x22_0 x23_0 x24_0 x25_0 x26_0 => bif allInt IntKind.u8 (keyF (K3.mk [.ro 5 x1_0 x2_0 x3_0, .ro 5 x4_0 x5_0 x6_0, .ro 5 x7_0 x8_0 x9_0] x11_0)) && decide ((keyF (K3.mk [.ro 5 x1_0 x2_0 x3_0, .ro 5 x4_0 x5_0 x6_0, .ro 5 x7_0 x8_0 x9_0] x11_0)).length ≤ 1000000000) && (allInt IntKind.u8 (flat [.ro 5 false false (List.take x0_0 x26_0)]) && decide ((flat [.ro 5 false false (List.take x0_0 x26_0)]).length ≤ 1000000000)) && true then bif roomy (x0_0 + (List.take 32 (pu IntKind.u8 (macP (ints (keyF (K3.mk [.ro 5 x1_0 x2_0 x3_0, .ro 5 x4_0 x5_0 x6_0, .ro 5 x7_0 x8_0 x9_0] x11_0))) (ints (flat [.ro 5 false false (List.take x0_0 x26_0)]))))).length) 1 && true then k (Res.mk (.ow 5 16 [] 0 (x0_0 + (List.take 32 (pu IntKind.u8 (macP (ints (keyF (K3.mk [.ro 5 x1_0 x2_0 x3_0, .ro 5 x4_0 x5_0 x6_0, .ro 5 x7_0 x8_0 x9_0] x11_0))) (ints (flat [.ro 5 false false (List.take x0_0 x26_0)]))))).length) none) [] [.vec false 5 false (List.take x0_0 x26_0 ++ List.take 32 (pu IntKind.u8 (macP (ints (keyF (K3.mk [.ro 5 x1_0 x2_0 x3_0, .ro 5 x4_0 x5_0 x6_0, .ro 5 x7_0 x8_0 x9_0] x11_0))) (ints (flat [.ro 5 false false (List.take x0_0 x26_0)])))))]) else none else none) f ((apY (apI (apI (apI (apI (apI (apI (apI (apI (apI (apI (apI (apI (List.take (apY [] m_Kind).length (apY [] m_Kind)) m_From) m_To) m_W_Host) m_W_N) m_Creator_D) m_Creator_U) m_Version) m_Commit) m_Author_D) m_Author_U) m_Sub) m_Err) (zi m_Body.length)).length) m_Body_z m_Body_f m_Body (zi m_Body.length) (0) k0_z k0_f k0 k1_z k1_f k1 k2_z k2_f k2 m_Kind m_From m_To m_W_Host m_W_N m_Creator_D m_Creator_U m_Version m_Commit m_Author_D m_Author_U m_Sub m_Err m_Body_z m_Body_f m_Body (apY (apI (apI (apI (apI (apI (apI (apI (apI (apI (apI (apI (apI (List.take (apY [] m_Kind).length (apY [] m_Kind)) m_From) m_To) m_W_Host) m_W_N) m_Creator_D) m_Creator_U) m_Version) m_Commit) m_Author_D) m_Author_U) m_Sub) m_Err) (zi m_Body.length)) else none else none else none else none else none else none else none else none else none else none else none else none else none else none
theorem e41 (f : Nat) (k0_z : Bool) (k0_f : Bool) (k0 : List PV) (k1_z : Bool) (k1_f : Bool) (k1 : List PV) (k2_z : Bool) (k2_f : Bool) (k2 : List PV) (m_Kind : Int) (m_From : Int) (m_To : Int) (m_W_Host : Int) (m_W_N : Int) (m_Creator_D : Int) (m_Creator_U : Int) (m_Version : Int) (m_Commit : Int) (m_Author_D : Int) (m_Author_U : Int) (m_Sub : Int) (m_Err : Int) (m_Body_z : Bool) (m_Body_f : Bool) (m_Body : List PV) (k : Res → Option Res) : evFn tau F41 Try.f41 (Try.f41.body.get!) (an41 (r41_1 f)) [] 13 [.st 31 [.ro 5 k0_z k0_f k0, .ro 5 k1_z k1_f k1, .ro 5 k2_z k2_f k2], .st 54 [.sc (.int .i64 m_Kind), .sc (.int .i64 m_From), .sc (.int .i64 m_To), .st 34 [.sc (.int .i64 m_W_Host), .sc (.int .i64 m_W_N)], .st 45 [.sc (.int .i64 m_Creator_D), .sc (.int .i64 m_Creator_U)], .sc (.int .i64 m_Version), .sc (.int .i64 m_Commit), .st 45 [.sc (.int .i64 m_Author_D), .sc (.int .i64 m_Author_U)], .sc (.int .i64 m_Sub), .sc (.int .i64 m_Err), .ro 29 m_Body_z m_Body_f m_Body]] [] k = g41 f k0_z k0_f k0 k1_z k1_f k1 k2_z k2_f k2 m_Kind m_From m_To m_W_Host m_W_N m_Creator_D m_Creator_U m_Version m_Commit m_Author_D m_Author_U m_Sub m_Err m_Body_z m_Body_f m_Body k := by kernel_rfl
theorem it41 (f : Nat) : items (Try.f41.body.get!) (an41 (r41_1 f)) = [.l c41_1 nm41_1 N41 (r41_1 f)] := by kernel_rfl
theorem ia41 (f : Nat) : ∀ q ∈ items (Try.f41.body.get!) (an41 (r41_1 f)), q.Ok tau Try.prog 0 := by
  rw [it41 f]; simp only [List.forall_mem_cons, List.not_mem_nil, false_implies, implies_true, and_true]; exact i41_1 f
theorem fo41 : Try.prog.funcs[41]? = some Try.f41 := by kernel_rfl
theorem bo41 : Try.f41.body = some (Try.f41.body.get!) := by kernel_rfl
theorem en41 : Enters Try.prog 41 := enters_of fo41 (by kernel_rfl) bo41
end Go.Proofs.Ytcklhipdldpkhaa.Rx

namespace Go.Proofs.Ytcklhipdldpkhaa.Rx
open Go
set_option linter.unusedVariables false
set_option maxRecDepth 100000
set_option maxHeartbeats 0
noncomputable def F95 : Fns := F0
theorem F95_ok : FnsOk tau Try.prog F95 := F0_ok
def an95 : An := (.seq .leaf (.seq .leaf .leaf))
noncomputable def g95 (f : Nat) (a_z : Bool) (a_f : Bool) (a : List PV) (b_z : Bool) (b_f : Bool) (b : List PV) (k : Res → Option Res) : Option Res := bif allInt IntKind.u8 a && true then bif allInt IntKind.u8 b && true then k (Res.mk (.sc (.bool (beqB (ByteArray.mk (Array.mk (toBytes (a_z, a).snd))) (ByteArray.mk (Array.mk (toBytes (b_z, b).snd)))))) [] []) else none else none
theorem e95 (f : Nat) (a_z : Bool) (a_f : Bool) (a : List PV) (b_z : Bool) (b_f : Bool) (b : List PV) (k : Res → Option Res) : evFn tau F95 Try.f95 (Try.f95.body.get!) an95 [.ro] 0 [.ro 5 a_z a_f a, .ro 5 b_z b_f b] [] k = g95 f a_z a_f a b_z b_f b k := by kernel_rfl
theorem it95 (f : Nat) : items (Try.f95.body.get!) an95 = [] := by kernel_rfl
theorem ia95 (f : Nat) : ∀ q ∈ items (Try.f95.body.get!) an95, q.Ok tau Try.prog 0 := by
  rw [it95 f]; intro q hq; cases hq
theorem fo95 : Try.prog.funcs[95]? = some Try.f95 := by kernel_rfl
theorem bo95 : Try.f95.body = some (Try.f95.body.get!) := by kernel_rfl
theorem en95 : Enters Try.prog 95 := enters_of fo95 (by kernel_rfl) bo95
noncomputable def run95 : List PV → List Ent → (Res → Option Res) → Option Res
  | [.ro 5 a_z a_f a, .ro 5 b_z b_f b], [], k => g95 0 a_z a_f a b_z b_f b k
  | _, _, _ => none
noncomputable def s95 : Sig := { own := [], run := run95 }
theorem ok95 : CallOk tau Try.prog 95 s95 := fn_ok tabOk F95_ok mixed fo95 bo95 an95 [.ro] 0 [] run95 (ia95 0) fun xs es k res hr => by
  unfold run95 at hr
  split at hr
  · exact ⟨rfl, 0, (e95 0 _ _ _ _ _ _  _).trans hr⟩
  · cases hr
end Go.Proofs.Ytcklhipdldpkhaa.Rx

namespace Go.Proofs.Ytcklhipdldpkhaa.Rx
open Go
set_option linter.unusedVariables false
set_option maxRecDepth 100000
set_option maxHeartbeats 0
def N94 : Nat := 32
noncomputable def F94 : Fns := addF 95 s95 (F0)
theorem F94_ok : FnsOk tau Try.prog F94 := (F0_ok).add ok95 en95
noncomputable def c94_0 : Code := subC (Try.f94.body.get!) [1, 1, 0, 1, 0, 0]
def nm94_0 : Nm := [(1, .any), (2, .any), (15, .any), (16, .any), (17, .any)]
def nx94_0 : Nm := [(6, .any)]
def x94_0 : An := (.seq .leaf (.seq (.cond .leaf .leaf) (.seq (.block none (.seq .leaf (.seq .leaf (.seq .leaf (.cond (.seq .leaf .leaf) .leaf))))) .leaf)))
def an94 (r0 : RunL) : An := (.seq .leaf (.seq (.seq .leaf (.cond (.seq .leaf .leaf) .leaf)) (.seq (.seq .leaf (.block none (.sum nm94_0 N94 r0))) (.seq .leaf .leaf))))
noncomputable def lpS94_0 (f : Nat) (rc : Bool → Bool → List PV → Bool → Bool → List PV → Int → Int → Option Res) (k0 : Bool → Option Res) (k1 : Option Res) (v0 : Bool) (v1 : Bool) (v2 : List PV) (v3 : Bool) (v4 : Bool) (v5 : List PV) (v6 : Int) (v7 : Int) : Option Res := bif decide (v7 < v6) then bif decide (0 ≤ v7) && decide (v7 < zi v5.length) && PV.isRo 5 (v5.getD v7.toNat PV.top) && true then bif decide (0 ≤ v7) && decide (v7 < zi v2.length) && PV.isRo 5 (v2.getD v7.toNat PV.top) && true then bif allInt IntKind.u8 (v5.getD v7.toNat PV.top).els && true then bif allInt IntKind.u8 (v2.getD v7.toNat PV.top).els && true then bif !beqB (ByteArray.mk (Array.mk (toBytes (v5.getD v7.toNat PV.top).els))) (ByteArray.mk (Array.mk (toBytes (v2.getD v7.toNat PV.top).els))) then k0 false else rc v0 v1 v2 v3 v4 v5 v6 (IntKind.i64.wrap (v7 + 1)) else none else none else none else none else k1
noncomputable def lp94_0 (f : Nat) (k0 : Bool → Option Res) (k1 : Option Res) : Nat → Bool → Bool → List PV → Bool → Bool → List PV → Int → Int → Option Res
  | 0, _, _, _, _, _, _, _, _ => none
  | n + 1, v0, v1, v2, v3, v4, v5, v6, v7 => lpS94_0 f (lp94_0 f k0 k1 n) k0 k1 v0 v1 v2 v3 v4 v5 v6 v7
theorem lpR94_0 (f : Nat) (k : Kont) (n : Nat) (v0 : Bool) (v1 : Bool) (v2 : List PV) (v3 : Bool) (v4 : Bool) (v5 : List PV) (v6 : Int) (v7 : Int) : evLoop tau 0 nm94_0 (fun s k => ev tau F94 0 0 c94_0 (x94_0 ) s k) (n + 1) (fillS nm94_0 N94 [.ro 29 v0 v1 v2, PV.fn (Fn.func 95) [] [], .ro 29 v3 v4 v5, .sc (.int .i64 v6), .sc (.int .i64 v7)] []) (kNorm tau 0 nx94_0 k) = lpS94_0 f (fun v0 v1 v2 v3 v4 v5 v6 v7 => evLoop tau 0 nm94_0 (fun s k => ev tau F94 0 0 c94_0 (x94_0 ) s k) n (fillS nm94_0 N94 [.ro 29 v0 v1 v2, PV.fn (Fn.func 95) [] [], .ro 29 v3 v4 v5, .sc (.int .i64 v6), .sc (.int .i64 v7)] []) (kNorm tau 0 nx94_0 k)) (fun x0 => k Ex.ret (fillS nx94_0 N94 [.sc (.bool x0)] [])) (k (Ex.exit 0) (fillS nx94_0 N94 [PV.top] [])) v0 v1 v2 v3 v4 v5 v6 v7 := by kernel_rfl
theorem lpE94_0 (f : Nat) (k : Kont) : ∀ (n : Nat) (v0 : Bool) (v1 : Bool) (v2 : List PV) (v3 : Bool) (v4 : Bool) (v5 : List PV) (v6 : Int) (v7 : Int), evLoop tau 0 nm94_0 (fun s k => ev tau F94 0 0 c94_0 (x94_0 ) s k) n (fillS nm94_0 N94 [.ro 29 v0 v1 v2, PV.fn (Fn.func 95) [] [], .ro 29 v3 v4 v5, .sc (.int .i64 v6), .sc (.int .i64 v7)] []) (kNorm tau 0 nx94_0 k) = lp94_0 f (fun x0 => k Ex.ret (fillS nx94_0 N94 [.sc (.bool x0)] [])) (k (Ex.exit 0) (fillS nx94_0 N94 [PV.top] [])) n v0 v1 v2 v3 v4 v5 v6 v7 | 0, _, _, _, _, _, _, _, _ => rfl | n + 1, v0, v1, v2, v3, v4, v5, v6, v7 => (lpR94_0 f k n v0 v1 v2 v3 v4 v5 v6 v7).trans (congrArg (fun r => lpS94_0 f r (fun x0 => k Ex.ret (fillS nx94_0 N94 [.sc (.bool x0)] [])) (k (Ex.exit 0) (fillS nx94_0 N94 [PV.top] [])) v0 v1 v2 v3 v4 v5 v6 v7) (by funext v0 v1 v2 v3 v4 v5 v6 v7; exact lpE94_0 f k n v0 v1 v2 v3 v4 v5 v6 v7))
noncomputable def r94_0 (f : Nat) : List PV → List (Nat × Ent) → Kont → Option Res
  | [.ro 29 v0 v1 v2, PV.fn (Fn.func 95) [] [], .ro 29 v3 v4 v5, .sc (.int .i64 v6),
  .sc (.int .i64 v7)], [], k => lp94_0 f (fun x0 => k Ex.ret (fillS nx94_0 N94 [.sc (.bool x0)] [])) (k (Ex.exit 0) (fillS nx94_0 N94 [PV.top] [])) f v0 v1 v2 v3 v4 v5 v6 v7
  | _, _, _ => none
theorem it94_0 (f : Nat) : items c94_0 x94_0 = [] := by kernel_rfl
theorem i94_0 (f : Nat) : (Item.l c94_0 nm94_0 N94 (r94_0 f)).Ok tau Try.prog 0 := loop_item tabOk F94_ok mixed (x := x94_0) (nm2 := nx94_0) (anOk_items _ _ (by rw [it94_0 f]; intro q hq; cases hq)) fun vs hp k res hr => by
  unfold r94_0 at hr
  split at hr
  · exact ⟨f, 0, (lpE94_0 f _ f _ _ _ _ _ _ _ _ ).trans hr⟩
  · cases hr
noncomputable def g94 (f : Nat) (s_z : Bool) (s_f : Bool) (s : List PV) (t_z : Bool) (t_f : Bool) (t : List PV) (k : Res → Option Res) : Option Res := bif zi s.length != zi t.length then k (Res.mk (.sc (.bool false)) [] []) else lp94_0 f (fun x0_0 => k (Res.mk (.sc (.bool x0_0)) [] [])) (k (Res.mk (.sc (.bool true)) [] [])) f t_z t_f t s_z s_f s (zi s.length) (0)
theorem e94 (f : Nat) (s_z : Bool) (s_f : Bool) (s : List PV) (t_z : Bool) (t_f : Bool) (t : List PV) (k : Res → Option Res) : evFn tau F94 Try.f94 (Try.f94.body.get!) (an94 (r94_0 f)) [.ro] 0 [.ro 29 s_z s_f s, .ro 29 t_z t_f t, .fn (.func 95) [] []] [] k = g94 f s_z s_f s t_z t_f t k := by kernel_rfl
theorem it94 (f : Nat) : items (Try.f94.body.get!) (an94 (r94_0 f)) = [.l c94_0 nm94_0 N94 (r94_0 f)] := by kernel_rfl
theorem ia94 (f : Nat) : ∀ q ∈ items (Try.f94.body.get!) (an94 (r94_0 f)), q.Ok tau Try.prog 0 := by
  rw [it94 f]; simp only [List.forall_mem_cons, List.not_mem_nil, false_implies, implies_true, and_true]; exact i94_0 f
theorem fo94 : Try.prog.funcs[94]? = some Try.f94 := by kernel_rfl
theorem bo94 : Try.f94.body = some (Try.f94.body.get!) := by kernel_rfl
theorem en94 : Enters Try.prog 94 := enters_of fo94 (by kernel_rfl) bo94
end Go.Proofs.Ytcklhipdldpkhaa.Rx

namespace Go.Proofs.Ytcklhipdldpkhaa.Rx
open Go
set_option linter.unusedVariables false
set_option maxRecDepth 100000
set_option maxHeartbeats 0
def N39 : Nat := 103
noncomputable def F39 : Fns := F0
theorem F39_ok : FnsOk tau Try.prog F39 := F0_ok
noncomputable def c39_0 : Code := subC (Try.f39.body.get!) [1, 1, 0, 1, 0, 0]
def nm39_0 : Nm := [(2, .any), (3, .any), (5, .any)]
def nx39_0 : Nm := [(4, .any)]
def x39_0 : An := (.seq (.seq .leaf (.cond .leaf .leaf)) (.seq (.block none (.seq .leaf (.cond (.seq .leaf .leaf) .leaf))) .leaf))
def an39 (r0 : RunL) : An := (.seq .leaf (.seq (.seq .leaf (.cond (.seq .leaf .leaf) .leaf)) (.seq (.seq .leaf (.block none (.sum nm39_0 N39 r0))) (.seq .leaf .leaf))))
noncomputable def lpS39_0 (f : Nat) (rc : Int → Int → Int → Int → Int → Int → Int → Int → Int → Int → Int → Int → Int → Int → Bool → Bool → List PV → Int → Int → Int → Int → Int → Int → Int → Int → Int → Int → Int → Int → Int → Bool → Bool → List PV → Option Res) (k0 : Bool → Option Res) (k1 : Option Res) (v0 : Int) (v1 : Int) (v2 : Int) (v3 : Int) (v4 : Int) (v5 : Int) (v6 : Int) (v7 : Int) (v8 : Int) (v9 : Int) (v10 : Int) (v11 : Int) (v12 : Int) (v13 : Int) (v14 : Bool) (v15 : Bool) (v16 : List PV) (v17 : Int) (v18 : Int) (v19 : Int) (v20 : Int) (v21 : Int) (v22 : Int) (v23 : Int) (v24 : Int) (v25 : Int) (v26 : Int) (v27 : Int) (v28 : Int) (v29 : Int) (v30 : Bool) (v31 : Bool) (v32 : List PV) : Option Res := bif decide (v0 < zi v16.length) then bif decide (0 ≤ v0) && decide (v0 < zi v16.length) && PV.isRo 5 (v16.getD v0.toNat PV.top) && true then bif allInt IntKind.u8 (v16.getD v0.toNat PV.top).els && true then bif decide (0 ≤ v0) && decide (v0 < zi v32.length) && PV.isRo 5 (v32.getD v0.toNat PV.top) && true then bif allInt IntKind.u8 (v32.getD v0.toNat PV.top).els && true then bif !beqB (ByteArray.mk (Array.mk (toBytes ((v16.getD v0.toNat PV.top).nl, (v16.getD v0.toNat PV.top).els).snd))) (ByteArray.mk (Array.mk (toBytes ((v32.getD v0.toNat PV.top).nl, (v32.getD v0.toNat PV.top).els).snd))) then k0 false else rc (IntKind.i64.wrap (v0 + 1)) v1 v2 v3 v4 v5 v6 v7 v8 v9 v10 v11 v12 v13 v14 v15 v16 v17 v18 v19 v20 v21 v22 v23 v24 v25 v26 v27 v28 v29 v30 v31 v32 else none else none else none else none else k1
noncomputable def lp39_0 (f : Nat) (k0 : Bool → Option Res) (k1 : Option Res) : Nat → Int → Int → Int → Int → Int → Int → Int → Int → Int → Int → Int → Int → Int → Int → Bool → Bool → List
  PV → Int → Int → Int → Int → Int → Int → Int → Int → Int → Int → Int → Int → Int → Bool → Bool → List PV → Option Res
  | 0, _, _, _, _, _, _, _, _, _, _, _, _, _, _, _, _, _, _, _, _, _, _, _, _, _, _, _, _, _, _, _, _, _ => none
  | n + 1, v0, v1, v2, v3, v4, v5, v6, v7, v8, v9, v10, v11, v12, v13, v14, v15, v16, v17, v18, v19, v20, v21, v22, v23, v24, v25, v26, v27, v28, v29, v30, v31, v32 => lpS39_0 f (lp39_0 f k0 k1 n) k0 k1 v0 v1 v2 v3 v4 v5 v6 v7 v8 v9 v10 v11 v12 v13 v14 v15 v16 v17 v18 v19 v20 v21 v22 v23 v24 v25 v26 v27 v28 v29 v30 v31 v32
theorem lpR39_0 (f : Nat) (k : Kont) (n : Nat) (v0 : Int) (v1 : Int) (v2 : Int) (v3 : Int) (v4 : Int) (v5 : Int) (v6 : Int) (v7 : Int) (v8 : Int) (v9 : Int) (v10 : Int) (v11 : Int) (v12 : Int) (v13 : Int) (v14 : Bool) (v15 : Bool) (v16 : List PV) (v17 : Int) (v18 : Int) (v19 : Int) (v20 : Int) (v21 : Int) (v22 : Int) (v23 : Int) (v24 : Int) (v25 : Int) (v26 : Int) (v27 : Int) (v28 : Int) (v29 : Int) (v30 : Bool) (v31 : Bool) (v32 : List PV) : evLoop tau 0 nm39_0 (fun s k => ev tau F39 0 0 c39_0 (x39_0 ) s k) (n + 1) (fillS nm39_0 N39 [.ptr 1664 [], .ptr 1665 [], .sc (.int .i64 v0)] [(1664, .box false 54 (PV.st 54 [.sc (.int .i64 v1), .sc (.int .i64 v2), .sc (.int .i64 v3), .st 34 [.sc (.int .i64 v4), .sc (.int .i64 v5)], .st 45 [.sc (.int .i64 v6), .sc (.int .i64 v7)], .sc (.int .i64 v8), .sc (.int .i64 v9), .st 45 [.sc (.int .i64 v10), .sc (.int .i64 v11)], .sc (.int .i64 v12), .sc (.int .i64 v13), .ro 29 v14 v15 v16])), (1665, .box false 54 (PV.st 54 [.sc (.int .i64 v17), .sc (.int .i64 v18), .sc (.int .i64 v19), .st 34 [.sc (.int .i64 v20), .sc (.int .i64 v21)], .st 45 [.sc (.int .i64 v22), .sc (.int .i64 v23)], .sc (.int .i64 v24), .sc (.int .i64 v25), .st 45 [.sc (.int .i64 v26), .sc (.int .i64 v27)], .sc (.int .i64 v28), .sc (.int .i64 v29), .ro 29 v30 v31 v32]))]) (kNorm tau 0 nx39_0 k) = lpS39_0 f (fun v0 v1 v2 v3 v4 v5 v6 v7 v8 v9 v10 v11 v12 v13 v14 v15 v16 v17 v18 v19 v20 v21 v22 v23 v24 v25 v26 v27 v28 v29 v30 v31 v32 => evLoop tau 0 nm39_0 (fun s k => ev tau F39 0 0 c39_0 (x39_0 ) s k) n (fillS nm39_0 N39 [.ptr 1664 [], .ptr 1665 [], .sc (.int .i64 v0)] [(1664, .box false 54 (PV.st 54 [.sc (.int .i64 v1), .sc (.int .i64 v2), .sc (.int .i64 v3), .st 34 [.sc (.int .i64 v4), .sc (.int .i64 v5)], .st 45 [.sc (.int .i64 v6), .sc (.int .i64 v7)], .sc (.int .i64 v8), .sc (.int .i64 v9), .st 45 [.sc (.int .i64 v10), .sc (.int .i64 v11)], .sc (.int .i64 v12), .sc (.int .i64 v13), .ro 29 v14 v15 v16])), (1665, .box false 54 (PV.st 54 [.sc (.int .i64 v17), .sc (.int .i64 v18), .sc (.int .i64 v19), .st 34 [.sc (.int .i64 v20), .sc (.int .i64 v21)], .st 45 [.sc (.int .i64 v22), .sc (.int .i64 v23)], .sc (.int .i64 v24), .sc (.int .i64 v25), .st 45 [.sc (.int .i64 v26), .sc (.int .i64 v27)], .sc (.int .i64 v28), .sc (.int .i64 v29), .ro 29 v30 v31 v32]))]) (kNorm tau 0 nx39_0 k)) (fun x0 => k Ex.ret (fillS nx39_0 N39 [.sc (.bool x0)] [])) (k (Ex.exit 0) (fillS nx39_0 N39 [PV.top] [])) v0 v1 v2 v3 v4 v5 v6 v7 v8 v9 v10 v11 v12 v13 v14 v15 v16 v17 v18 v19 v20 v21 v22 v23 v24 v25 v26 v27 v28 v29 v30 v31 v32 := by kernel_rfl
theorem lpE39_0 (f : Nat) (k : Kont) : ∀ (n : Nat) (v0 : Int) (v1 : Int) (v2 : Int) (v3 : Int) (v4 : Int) (v5 : Int) (v6 : Int) (v7 : Int) (v8 : Int) (v9 : Int) (v10 : Int) (v11 : Int) (v12 : Int) (v13 : Int) (v14 : Bool) (v15 : Bool) (v16 : List PV) (v17 : Int) (v18 : Int) (v19 : Int) (v20 : Int) (v21 : Int) (v22 : Int) (v23 : Int) (v24 : Int) (v25 : Int) (v26 : Int) (v27 : Int) (v28 : Int) (v29 : Int) (v30 : Bool) (v31 : Bool) (v32 : List PV), evLoop tau 0 nm39_0 (fun s k => ev tau F39 0 0 c39_0 (x39_0 ) s k) n (fillS nm39_0 N39 [.ptr 1664 [], .ptr 1665 [], .sc (.int .i64 v0)] [(1664, .box false 54 (PV.st 54 [.sc (.int .i64 v1), .sc (.int .i64 v2), .sc (.int .i64 v3), .st 34 [.sc (.int .i64 v4), .sc (.int .i64 v5)], .st 45 [.sc (.int .i64 v6), .sc (.int .i64 v7)], .sc (.int .i64 v8), .sc (.int .i64 v9), .st 45 [.sc (.int .i64 v10), .sc (.int .i64 v11)], .sc (.int .i64 v12), .sc (.int .i64 v13), .ro 29 v14 v15 v16])), (1665, .box false 54 (PV.st 54 [.sc (.int .i64 v17), .sc (.int .i64 v18), .sc (.int .i64 v19), .st 34 [.sc (.int .i64 v20), .sc (.int .i64 v21)], .st 45 [.sc (.int .i64 v22), .sc (.int .i64 v23)], .sc (.int .i64 v24), .sc (.int .i64 v25), .st 45 [.sc (.int .i64 v26), .sc (.int .i64 v27)], .sc (.int .i64 v28), .sc (.int .i64 v29), .ro 29 v30 v31 v32]))]) (kNorm tau 0 nx39_0 k) = lp39_0 f (fun x0 => k Ex.ret (fillS nx39_0 N39 [.sc (.bool x0)] [])) (k (Ex.exit 0) (fillS nx39_0 N39 [PV.top] [])) n v0 v1 v2 v3 v4 v5 v6 v7 v8 v9 v10 v11 v12 v13 v14 v15 v16 v17 v18 v19 v20 v21 v22 v23 v24 v25 v26 v27 v28 v29 v30 v31 v32 | 0, _, _, _, _, _, _, _, _, _, _, _, _, _, _, _, _, _, _, _, _, _, _, _, _, _, _, _, _, _, _, _, _, _ => rfl | n + 1, v0, v1, v2, v3, v4, v5, v6, v7, v8, v9, v10, v11, v12, v13, v14, v15, v16, v17, v18, v19, v20, v21, v22, v23, v24, v25, v26, v27, v28, v29, v30, v31, v32 => (lpR39_0 f k n v0 v1 v2 v3 v4 v5 v6 v7 v8 v9 v10 v11 v12 v13 v14 v15 v16 v17 v18 v19 v20 v21 v22 v23 v24 v25 v26 v27 v28 v29 v30 v31 v32).trans (congrArg (fun r => lpS39_0 f r (fun x0 => k Ex.ret (fillS nx39_0 N39 [.sc (.bool x0)] [])) (k (Ex.exit 0) (fillS nx39_0 N39 [PV.top] [])) v0 v1 v2 v3 v4 v5 v6 v7 v8 v9 v10 v11 v12 v13 v14 v15 v16 v17 v18 v19 v20 v21 v22 v23 v24 v25 v26 v27 v28 v29 v30 v31 v32) (by funext v0 v1 v2 v3 v4 v5 v6 v7 v8 v9 v10 v11 v12 v13 v14 v15 v16 v17 v18 v19 v20 v21 v22 v23 v24 v25 v26 v27 v28 v29 v30 v31 v32; exact lpE39_0 f k n v0 v1 v2 v3 v4 v5 v6 v7 v8 v9 v10 v11 v12 v13 v14 v15 v16 v17 v18 v19 v20 v21 v22 v23 v24 v25 v26 v27 v28 v29 v30 v31 v32))
noncomputable def r39_0 (f : Nat) : List PV → List (Nat × Ent) → Kont → Option Res
  | [.ptr 1664 [], .ptr 1665 [],
  PV.sc
    (Value.int IntKind.i64
      v0)], [(1664,
    Ent.box false 54
      (PV.st 54
        [.sc (.int .i64 v1), .sc (.int .i64 v2), .sc (.int .i64 v3), .st 34 [.sc (.int .i64 v4), .sc (.int .i64 v5)],
          PV.st 45 [.sc (.int .i64 v6), .sc (.int .i64 v7)], .sc (.int .i64 v8), .sc (.int .i64 v9),
          PV.st 45 [.sc (.int .i64 v10), .sc (.int .i64 v11)], .sc (.int .i64 v12), .sc (.int .i64 v13), .ro 29 v14 v15 v16])),
  (1665,
    Ent.box false 54
      (PV.st 54
        [.sc (.int .i64 v17), .sc (.int .i64 v18), .sc (.int .i64 v19), .st 34 [.sc (.int .i64 v20), .sc (.int .i64 v21)],
          PV.st 45 [.sc (.int .i64 v22), .sc (.int .i64 v23)], .sc (.int .i64 v24), .sc (.int .i64 v25),
          PV.st 45 [.sc (.int .i64 v26), .sc (.int .i64 v27)], .sc (.int .i64 v28), .sc (.int .i64 v29),
          PV.ro 29 v30 v31
            v32]))], k => lp39_0 f (fun x0 => k Ex.ret (fillS nx39_0 N39 [PV.sc
    (Value.bool x0)] [])) (k (Ex.exit 0) (fillS nx39_0 N39 [PV.top] [])) f v0 v1 v2 v3 v4 v5 v6 v7 v8 v9 v10 v11 v12 v13 v14 v15 v16 v17 v18 v19 v20 v21 v22 v23 v24 v25 v26 v27 v28 v29 v30 v31 v32
  | _, _, _ => none
theorem it39_0 (f : Nat) : items c39_0 x39_0 = [] := by kernel_rfl
theorem i39_0 (f : Nat) : (Item.l c39_0 nm39_0 N39 (r39_0 f)).Ok tau Try.prog 0 := loop_item tabOk F39_ok mixed (x := x39_0) (nm2 := nx39_0) (anOk_items _ _ (by rw [it39_0 f]; intro q hq; cases hq)) fun vs hp k res hr => by
  unfold r39_0 at hr
  split at hr
  · exact ⟨f, 0, (lpE39_0 f _ f _ _ _ _ _ _ _ _ _ _ _ _ _ _ _ _ _ _ _ _ _ _ _ _ _ _ _ _ _ _ _ _ _ ).trans hr⟩
  · cases hr
noncomputable def g39 (f : Nat) (a_Kind : Int) (a_From : Int) (a_To : Int) (a_W_Host : Int) (a_W_N : Int) (a_Creator_D : Int) (a_Creator_U : Int) (a_Version : Int) (a_Commit : Int) (a_Author_D : Int) (a_Author_U : Int) (a_Sub : Int) (a_Err : Int) (a_Body_z : Bool) (a_Body_f : Bool) (a_Body : List PV) (b_Kind : Int) (b_From : Int) (b_To : Int) (b_W_Host : Int) (b_W_N : Int) (b_Creator_D : Int) (b_Creator_U : Int) (b_Version : Int) (b_Commit : Int) (b_Author_D : Int) (b_Author_U : Int) (b_Sub : Int) (b_Err : Int) (b_Body_z : Bool) (b_Body_f : Bool) (b_Body : List PV) (k : Res → Option Res) : Option Res := bif a_Kind != b_Kind then k (Res.mk (.sc (.bool false)) [] []) else bif a_From != b_From then k (Res.mk (.sc (.bool false)) [] []) else bif a_To != b_To then k (Res.mk (.sc (.bool false)) [] []) else bif !(a_W_Host == b_W_Host && (a_W_N == b_W_N && true)) then k (Res.mk (.sc (.bool false)) [] []) else bif !(a_Creator_D == b_Creator_D && (a_Creator_U == b_Creator_U && true)) then k (Res.mk (.sc (.bool false)) [] []) else bif a_Version != b_Version then k (Res.mk (.sc (.bool false)) [] []) else bif a_Commit != b_Commit then k (Res.mk (.sc (.bool false)) [] []) else bif !(a_Author_D == b_Author_D && (a_Author_U == b_Author_U && true)) then k (Res.mk (.sc (.bool false)) [] []) else bif a_Sub != b_Sub then k (Res.mk (.sc (.bool false)) [] []) else bif a_Err != b_Err then k (Res.mk (.sc (.bool false)) [] []) else bif zi a_Body.length != zi b_Body.length then k (Res.mk (.sc (.bool false)) [] []) else lp39_0 f (fun x0_0 => k (Res.mk (.sc (.bool x0_0)) [] [])) (k (Res.mk (.sc (.bool true)) [] [])) f (0) a_Kind a_From a_To a_W_Host a_W_N a_Creator_D a_Creator_U a_Version a_Commit a_Author_D a_Author_U a_Sub a_Err a_Body_z a_Body_f a_Body b_Kind b_From b_To b_W_Host b_W_N b_Creator_D b_Creator_U b_Version b_Commit b_Author_D b_Author_U b_Sub b_Err b_Body_z b_Body_f b_Body
theorem e39 (f : Nat) (a_Kind : Int) (a_From : Int) (a_To : Int) (a_W_Host : Int) (a_W_N : Int) (a_Creator_D : Int) (a_Creator_U : Int) (a_Version : Int) (a_Commit : Int) (a_Author_D : Int) (a_Author_U : Int) (a_Sub : Int) (a_Err : Int) (a_Body_z : Bool) (a_Body_f : Bool) (a_Body : List PV) (b_Kind : Int) (b_From : Int) (b_To : Int) (b_W_Host : Int) (b_W_N : Int) (b_Creator_D : Int) (b_Creator_U : Int) (b_Version : Int) (b_Commit : Int) (b_Author_D : Int) (b_Author_U : Int) (b_Sub : Int) (b_Err : Int) (b_Body_z : Bool) (b_Body_f : Bool) (b_Body : List PV) (k : Res → Option Res) : evFn tau F39 Try.f39 (Try.f39.body.get!) (an39 (r39_0 f)) [.ro] 0 [.st 54 [.sc (.int .i64 a_Kind), .sc (.int .i64 a_From), .sc (.int .i64 a_To), .st 34 [.sc (.int .i64 a_W_Host), .sc (.int .i64 a_W_N)], .st 45 [.sc (.int .i64 a_Creator_D), .sc (.int .i64 a_Creator_U)], .sc (.int .i64 a_Version), .sc (.int .i64 a_Commit), .st 45 [.sc (.int .i64 a_Author_D), .sc (.int .i64 a_Author_U)], .sc (.int .i64 a_Sub), .sc (.int .i64 a_Err), .ro 29 a_Body_z a_Body_f a_Body], .st 54 [.sc (.int .i64 b_Kind), .sc (.int .i64 b_From), .sc (.int .i64 b_To), .st 34 [.sc (.int .i64 b_W_Host), .sc (.int .i64 b_W_N)], .st 45 [.sc (.int .i64 b_Creator_D), .sc (.int .i64 b_Creator_U)], .sc (.int .i64 b_Version), .sc (.int .i64 b_Commit), .st 45 [.sc (.int .i64 b_Author_D), .sc (.int .i64 b_Author_U)], .sc (.int .i64 b_Sub), .sc (.int .i64 b_Err), .ro 29 b_Body_z b_Body_f b_Body]] [] k = g39 f a_Kind a_From a_To a_W_Host a_W_N a_Creator_D a_Creator_U a_Version a_Commit a_Author_D a_Author_U a_Sub a_Err a_Body_z a_Body_f a_Body b_Kind b_From b_To b_W_Host b_W_N b_Creator_D b_Creator_U b_Version b_Commit b_Author_D b_Author_U b_Sub b_Err b_Body_z b_Body_f b_Body k := by kernel_rfl
theorem it39 (f : Nat) : items (Try.f39.body.get!) (an39 (r39_0 f)) = [.l c39_0 nm39_0 N39 (r39_0 f)] := by kernel_rfl
theorem ia39 (f : Nat) : ∀ q ∈ items (Try.f39.body.get!) (an39 (r39_0 f)), q.Ok tau Try.prog 0 := by
  rw [it39 f]; simp only [List.forall_mem_cons, List.not_mem_nil, false_implies, implies_true, and_true]; exact i39_0 f
theorem fo39 : Try.prog.funcs[39]? = some Try.f39 := by kernel_rfl
theorem bo39 : Try.f39.body = some (Try.f39.body.get!) := by kernel_rfl
theorem en39 : Enters Try.prog 39 := enters_of fo39 (by kernel_rfl) bo39
end Go.Proofs.Ytcklhipdldpkhaa.Rx

-- FN slices.EqualFunc[[][]byte,[][]byte,[]byte,[]byte] | ref16.Same
namespace Go.Proofs.Ytcklhipdldpkhaa.Rx
open Go
set_option linter.unusedVariables false
set_option linter.unusedSimpArgs false
set_option maxRecDepth 100000
set_option maxHeartbeats 1000000
def rOk0 (l : List PV) : Bool := l.all (PV.isRo 5) && (allInt .u8 (flat l) && (l.all (fun p => decide (p.els.length ≤ 65535)) && decide (l.length ≤ 1000)))
noncomputable def rOk : List PV → Bool := hid rOk0
theorem rOk_eq (l : List PV) : rOk l = rOk0 l := by rw [rOk, hid_eq]
theorem rOk_iff {l : List PV} : rOk l = true ↔ l.all (PV.isRo 5) = true ∧ allInt .u8 (flat l) = true ∧ (∀ p ∈ l, p.els.length ≤ 65535) ∧ l.length ≤ 1000 := by
  rw [rOk_eq]; unfold rOk0
  simp only [Bool.and_eq_true, List.all_eq_true, decide_eq_true_eq]
def txs (l : List PV) : List (List UInt8) := l.map fun p => toBytes p.els
theorem txs_length (l : List PV) : (txs l).length = l.length := by simp [txs]
theorem txs_get {l : List PV} {i : Nat} (h : i < l.length) : (txs l)[i]? = some (toBytes (l.getD i .top).els) := by
  simp [txs, List.getD_eq_getElem?_getD, h]
noncomputable def eqR : List PV → List PV → Bool := hid fun a b => decide (txs a = txs b)
theorem eqR_eq (a b : List PV) : eqR a b = decide (txs a = txs b) := by rw [eqR, hid_eq]
theorem flat_els {l : List PV} (h : allInt .u8 (flat l) = true) {i : Nat} (hi : i < l.length) : allInt .u8 (l.getD i .top).els = true := by
  induction l generalizing i with
  | nil => simp at hi
  | cons p ps ih =>
    rw [flat_cons, allInt_append, Bool.and_eq_true] at h
    cases i with
    | zero => exact h.1
    | succ i => simpa using ih h.2 (by simpa using hi)
theorem txs_ext {a b : List PV} (hl : a.length = b.length) (h : ∀ j, j < a.length → toBytes (a.getD j .top).els = toBytes (b.getD j .top).els) : txs a = txs b := by
  apply List.ext_getElem?
  intro j
  by_cases hj : j < a.length
  · rw [txs_get hj, txs_get (by omega), h j hj]
  · rw [List.getElem?_eq_none (by rw [txs_length]; omega), List.getElem?_eq_none (by rw [txs_length]; omega)]
theorem beqB_bytes (x y : List UInt8) : beqB (ByteArray.mk (Array.mk x)) (ByteArray.mk (Array.mk y)) = decide (x = y) := by
  rw [beqB_eq]; apply decide_eq_decide.2
  constructor
  · intro h; injection h with h; injection h
  · rintro rfl; rfl
theorem txs_ne {a b : List PV} {i : Nat} (ha : i < a.length) (hb : i < b.length) (h : toBytes (a.getD i .top).els ≠ toBytes (b.getD i .top).els) : txs a ≠ txs b := by
  intro he
  have := txs_get ha
  rw [he, txs_get hb] at this
  exact h (Option.some.inj this).symm
theorem l94_0 (a b : List PV) (ha : a.all (PV.isRo 5) = true) (ha2 : allInt .u8 (flat a) = true) (hb : b.all (PV.isRo 5) = true) (hb2 : allInt .u8 (flat b) = true) (hl : a.length = b.length) (h2 : a.length ≤ 1000) (f : Nat) (k0 : Bool → Option Res) (k1 : Option Res) (R : Option Res) (z1 f1 z2 f2 : Bool)
    (hk0 : txs a ≠ txs b → k0 false = R) (hk1 : txs a = txs b → k1 = R) : ∀ (d i n : Nat), i + d = a.length → d < n → (∀ j, j < i → toBytes (a.getD j .top).els = toBytes (b.getD j .top).els) → lp94_0 f k0 k1 n z2 f2 b z1 f1 a (zi a.length) (i : Int) = R
  | 0, i, n + 1, hi, hn, hp => by
      simp only [lp94_0, lpS94_0]
      exact (bif_f (by simp [zi]; omega)).trans (hk1 (txs_ext hl fun j hj => hp j (by omega)))
  | d + 1, i, n + 1, hi, hn, hp => by
      have g1 : ((i : Int)).toNat = i := by omega
      have w1 : IntKind.i64.wrap ((i : Int) + 1) = ((i + 1 : Nat) : Int) := by rw [wrap_i64 (by omega) (by omega)]; omega
      have hro : ∀ (l : List PV), l.all (PV.isRo 5) = true → i < l.length → (decide (0 ≤ (i : Int)) && decide ((i : Int) < zi l.length) && PV.isRo 5 (l.getD i .top) && true) = true := fun l h hl => by rw [isRo_getD h hl]; simp [zi]; omega
      have hal : ∀ (l : List PV), allInt .u8 (flat l) = true → i < l.length → (allInt .u8 (l.getD i .top).els && true) = true := fun l h hl => by rw [flat_els h hl]; rfl
      simp only [lp94_0, lpS94_0, g1, w1, beqB_bytes]
      refine (bif_t (by simp [zi]; omega)).trans ((bif_t (hro a ha (by omega))).trans ((bif_t (hro b hb (by omega))).trans ((bif_t (hal a ha2 (by omega))).trans ((bif_t (hal b hb2 (by omega))).trans ?_))))
      by_cases hc : toBytes (a.getD i .top).els = toBytes (b.getD i .top).els
      · refine (bif_f (by rw [decide_eq_true hc]; rfl)).trans ?_
        refine l94_0 a b ha ha2 hb hb2 hl h2 f k0 k1 R z1 f1 z2 f2 hk0 hk1 d (i + 1) n (by omega) (by omega) fun j hj => ?_
        rcases Nat.lt_or_ge j i with h | h
        · exact hp j h
        · obtain rfl : j = i := by omega
          exact hc
      · exact (bif_t (by simp only [Bool.not_eq_true', decide_eq_false_iff_not]; exact hc)).trans (hk0 (txs_ne (by omega) (by omega) hc))
noncomputable def run94' : List PV → List Ent → (Res → Option Res) → Option Res
  | [.ro 29 z1 f1 a, .ro 29 z2 f2 b, .fn (.func 95) [] []], [], k => bif rOk a && rOk b then k ⟨.sc (.bool (eqR a b)), [], []⟩ else none
  | _, _, _ => none
noncomputable def s94' : Sig := { own := [], run := run94' }
theorem g94_eq (z1 f1 z2 f2 : Bool) (a b : List PV) (ha : rOk a = true) (hb : rOk b = true) (k : Res → Option Res) : g94 1010 z1 f1 a z2 f2 b k = k ⟨.sc (.bool (eqR a b)), [], []⟩ := by
  obtain ⟨a1, a2, a3, a4⟩ := rOk_iff.1 ha
  obtain ⟨b1, b2, b3, b4⟩ := rOk_iff.1 hb
  rw [eqR_eq]
  unfold g94
  by_cases hl : a.length = b.length
  · refine (bif_f (by simp [zi, hl])).trans ?_
    refine l94_0 a b a1 a2 b1 b2 hl a4 1010 _ _ _ z1 f1 z2 f2 (fun h => ?_) (fun h => ?_) a.length 0 1010 (by omega) (by omega) (fun j hj => absurd hj (by omega))
    · rw [decide_eq_false h]
    · rw [decide_eq_true h]
  · refine (bif_t (by simp only [zi, bne_iff_ne, ne_eq]; omega)).trans ?_
    rw [decide_eq_false (fun h => hl (by rw [← txs_length a, h, txs_length]))]
theorem ok94' : CallOk tau Try.prog 94 s94' := CallOk.mk' fun xs es k res hl hr => by
  change run94' xs es k = some res at hr
  unfold run94' at hr
  split at hr
  · rename_i z1 f1 a z2 f2 b
    obtain ⟨hc, hr⟩ := of_bif hr
    rw [Bool.and_eq_true] at hc
    have hg := (g94_eq z1 f1 z2 f2 a b hc.1 hc.2 k).trans hr
    exact fn_at tabOk F94_ok mixed fo94 bo94 (an94 (r94_0 1010)) [.ro] 0 0 (ia94 1010) hl rfl ((e94 1010 z1 f1 a z2 f2 b k).trans hg)
  · cases hr
structure MS where
  (c : C13) (b : List PV)
def eqC (x y : C13) : Bool := (x.kd == y.kd) && (x.fr == y.fr) && (x.to == y.to) && (x.wh == y.wh) && (x.wn == y.wn) && (x.cd == y.cd) && (x.cu == y.cu) && (x.ve == y.ve) && (x.co == y.co) && (x.ad == y.ad) && (x.au == y.au) && (x.su == y.su) && (x.er == y.er)
theorem eqC_iff {x y : C13} : eqC x y = true ↔ x = y := by
  cases x; cases y
  simp only [eqC, Bool.and_eq_true, beq_iff_eq, C13.mk.injEq, and_assoc]
noncomputable def sameM : MS → MS → Bool := hid fun x y => eqC x.c y.c && eqR x.b y.b
theorem sameM_eq (x y : MS) : sameM x y = (eqC x.c y.c && eqR x.b y.b) := by rw [sameM, hid_eq]
theorem sameM_self (x : MS) : sameM x x = true := by rw [sameM_eq, eqC_iff.2 rfl, eqR_eq]; simp
theorem l39_0 (a b : List PV) (ha : a.all (PV.isRo 5) = true) (ha2 : allInt .u8 (flat a) = true) (hb : b.all (PV.isRo 5) = true) (hb2 : allInt .u8 (flat b) = true) (hl : a.length = b.length) (h2 : a.length ≤ 1000) (f : Nat) (k0 : Bool → Option Res) (k1 : Option Res) (R : Option Res) (kd1 fr1 to1 wh1 wn1 cd1 cu1 ve1 co1 ad1 au1 su1 er1 kd2 fr2 to2 wh2 wn2 cd2 cu2 ve2 co2 ad2 au2 su2 er2 : Int) (z1 f1 z2 f2 : Bool)
    (hk0 : txs a ≠ txs b → k0 false = R) (hk1 : txs a = txs b → k1 = R) : ∀ (d i n : Nat), i + d = a.length → d < n → (∀ j, j < i → toBytes (a.getD j .top).els = toBytes (b.getD j .top).els) → lp39_0 f k0 k1 n (i : Int) kd1 fr1 to1 wh1 wn1 cd1 cu1 ve1 co1 ad1 au1 su1 er1 z1 f1 a kd2 fr2 to2 wh2 wn2 cd2 cu2 ve2 co2 ad2 au2 su2 er2 z2 f2 b = R
  | 0, i, n + 1, hi, hn, hp => by
      simp only [lp39_0, lpS39_0]
      exact (bif_f (by simp [zi]; omega)).trans (hk1 (txs_ext hl fun j hj => hp j (by omega)))
  | d + 1, i, n + 1, hi, hn, hp => by
      have g1 : ((i : Int)).toNat = i := by omega
      have w1 : IntKind.i64.wrap ((i : Int) + 1) = ((i + 1 : Nat) : Int) := by rw [wrap_i64 (by omega) (by omega)]; omega
      have hro : ∀ (l : List PV), l.all (PV.isRo 5) = true → i < l.length → (decide (0 ≤ (i : Int)) && decide ((i : Int) < zi l.length) && PV.isRo 5 (l.getD i .top) && true) = true := fun l h hl => by rw [isRo_getD h hl]; simp [zi]; omega
      have hal : ∀ (l : List PV), allInt .u8 (flat l) = true → i < l.length → (allInt .u8 (l.getD i .top).els && true) = true := fun l h hl => by rw [flat_els h hl]; rfl
      simp only [lp39_0, lpS39_0, g1, w1, beqB_bytes]
      refine (bif_t (by simp [zi]; omega)).trans ((bif_t (hro a ha (by omega))).trans ((bif_t (hal a ha2 (by omega))).trans ((bif_t (hro b hb (by omega))).trans ((bif_t (hal b hb2 (by omega))).trans ?_))))
      by_cases hc : toBytes (a.getD i .top).els = toBytes (b.getD i .top).els
      · refine (bif_f (by rw [decide_eq_true hc]; rfl)).trans ?_
        refine l39_0 a b ha ha2 hb hb2 hl h2 f k0 k1 R kd1 fr1 to1 wh1 wn1 cd1 cu1 ve1 co1 ad1 au1 su1 er1 kd2 fr2 to2 wh2 wn2 cd2 cu2 ve2 co2 ad2 au2 su2 er2 z1 f1 z2 f2 hk0 hk1 d (i + 1) n (by omega) (by omega) fun j hj => ?_
        rcases Nat.lt_or_ge j i with h | h
        · exact hp j h
        · obtain rfl : j = i := by omega
          exact hc
      · exact (bif_t (by simp only [Bool.not_eq_true', decide_eq_false_iff_not]; exact hc)).trans (hk0 (txs_ne (by omega) (by omega) hc))
theorem g39_eq (kd1 fr1 to1 wh1 wn1 cd1 cu1 ve1 co1 ad1 au1 su1 er1 : Int) (z1 f1 : Bool) (a : List PV) (kd2 fr2 to2 wh2 wn2 cd2 cu2 ve2 co2 ad2 au2 su2 er2 : Int) (z2 f2 : Bool) (b : List PV) (ha : rOk a = true) (hb : rOk b = true) (k : Res → Option Res) : g39 1010 kd1 fr1 to1 wh1 wn1 cd1 cu1 ve1 co1 ad1 au1 su1 er1 z1 f1 a kd2 fr2 to2 wh2 wn2 cd2 cu2 ve2 co2 ad2 au2 su2 er2 z2 f2 b k = k ⟨.sc (.bool (sameM ⟨⟨kd1, fr1, to1, wh1, wn1, cd1, cu1, ve1, co1, ad1, au1, su1, er1⟩, a⟩ ⟨⟨kd2, fr2, to2, wh2, wn2, cd2, cu2, ve2, co2, ad2, au2, su2, er2⟩, b⟩)), [], []⟩ := by
  obtain ⟨a1, a2, a3, a4⟩ := rOk_iff.1 ha
  obtain ⟨b1, b2, b3, b4⟩ := rOk_iff.1 hb
  unfold g39
  have hsm : sameM ⟨⟨kd1, fr1, to1, wh1, wn1, cd1, cu1, ve1, co1, ad1, au1, su1, er1⟩, a⟩ ⟨⟨kd2, fr2, to2, wh2, wn2, cd2, cu2, ve2, co2, ad2, au2, su2, er2⟩, b⟩ = (eqC ⟨kd1, fr1, to1, wh1, wn1, cd1, cu1, ve1, co1, ad1, au1, su1, er1⟩ ⟨kd2, fr2, to2, wh2, wn2, cd2, cu2, ve2, co2, ad2, au2, su2, er2⟩ && eqR a b) := sameM_eq _ _
  have bad : eqC ⟨kd1, fr1, to1, wh1, wn1, cd1, cu1, ve1, co1, ad1, au1, su1, er1⟩ ⟨kd2, fr2, to2, wh2, wn2, cd2, cu2, ve2, co2, ad2, au2, su2, er2⟩ = false → k ⟨.sc (.bool false), [], []⟩ = k ⟨.sc (.bool (sameM ⟨⟨kd1, fr1, to1, wh1, wn1, cd1, cu1, ve1, co1, ad1, au1, su1, er1⟩, a⟩ ⟨⟨kd2, fr2, to2, wh2, wn2, cd2, cu2, ve2, co2, ad2, au2, su2, er2⟩, b⟩)), [], []⟩ := fun h => by rw [hsm, h]; rfl
  by_cases hkd : ¬ (kd1 = kd2)
  · exact (bif_t (by simpa using hkd)).trans (bad (by simp [eqC, hkd]))
  replace hkd := Decidable.not_not.1 hkd
  refine (bif_f (by simpa using hkd)).trans ?_
  by_cases hfr : ¬ (fr1 = fr2)
  · exact (bif_t (by simpa using hfr)).trans (bad (by simp [eqC, hfr]))
  replace hfr := Decidable.not_not.1 hfr
  refine (bif_f (by simpa using hfr)).trans ?_
  by_cases hto : ¬ (to1 = to2)
  · exact (bif_t (by simpa using hto)).trans (bad (by simp [eqC, hto]))
  replace hto := Decidable.not_not.1 hto
  refine (bif_f (by simpa using hto)).trans ?_
  by_cases hwhwn : ¬ (wh1 = wh2 ∧ wn1 = wn2)
  · refine (bif_t (by simp only [Bool.and_true, Bool.not_eq_true', Bool.and_eq_false_iff, beq_eq_false_iff_ne]; omega)).trans (bad ?_)
    have : (wh1 == wh2 && wn1 == wn2) = false := by simp only [Bool.and_eq_false_iff, beq_eq_false_iff_ne]; omega
    cases hq : eqC ⟨kd1, fr1, to1, wh1, wn1, cd1, cu1, ve1, co1, ad1, au1, su1, er1⟩ ⟨kd2, fr2, to2, wh2, wn2, cd2, cu2, ve2, co2, ad2, au2, su2, er2⟩ with
    | false => rfl
    | true => have := eqC_iff.1 hq; injection this; omega
  replace hwhwn := Decidable.not_not.1 hwhwn
  refine (bif_f (by simp [hwhwn])).trans ?_
  by_cases hcdcu : ¬ (cd1 = cd2 ∧ cu1 = cu2)
  · refine (bif_t (by simp only [Bool.and_true, Bool.not_eq_true', Bool.and_eq_false_iff, beq_eq_false_iff_ne]; omega)).trans (bad ?_)
    have : (cd1 == cd2 && cu1 == cu2) = false := by simp only [Bool.and_eq_false_iff, beq_eq_false_iff_ne]; omega
    cases hq : eqC ⟨kd1, fr1, to1, wh1, wn1, cd1, cu1, ve1, co1, ad1, au1, su1, er1⟩ ⟨kd2, fr2, to2, wh2, wn2, cd2, cu2, ve2, co2, ad2, au2, su2, er2⟩ with
    | false => rfl
    | true => have := eqC_iff.1 hq; injection this; omega
  replace hcdcu := Decidable.not_not.1 hcdcu
  refine (bif_f (by simp [hcdcu])).trans ?_
  by_cases hve : ¬ (ve1 = ve2)
  · exact (bif_t (by simpa using hve)).trans (bad (by simp [eqC, hve]))
  replace hve := Decidable.not_not.1 hve
  refine (bif_f (by simpa using hve)).trans ?_
  by_cases hco : ¬ (co1 = co2)
  · exact (bif_t (by simpa using hco)).trans (bad (by simp [eqC, hco]))
  replace hco := Decidable.not_not.1 hco
  refine (bif_f (by simpa using hco)).trans ?_
  by_cases hadau : ¬ (ad1 = ad2 ∧ au1 = au2)
  · refine (bif_t (by simp only [Bool.and_true, Bool.not_eq_true', Bool.and_eq_false_iff, beq_eq_false_iff_ne]; omega)).trans (bad ?_)
    have : (ad1 == ad2 && au1 == au2) = false := by simp only [Bool.and_eq_false_iff, beq_eq_false_iff_ne]; omega
    cases hq : eqC ⟨kd1, fr1, to1, wh1, wn1, cd1, cu1, ve1, co1, ad1, au1, su1, er1⟩ ⟨kd2, fr2, to2, wh2, wn2, cd2, cu2, ve2, co2, ad2, au2, su2, er2⟩ with
    | false => rfl
    | true => have := eqC_iff.1 hq; injection this; omega
  replace hadau := Decidable.not_not.1 hadau
  refine (bif_f (by simp [hadau])).trans ?_
  by_cases hsu : ¬ (su1 = su2)
  · exact (bif_t (by simpa using hsu)).trans (bad (by simp [eqC, hsu]))
  replace hsu := Decidable.not_not.1 hsu
  refine (bif_f (by simpa using hsu)).trans ?_
  by_cases her : ¬ (er1 = er2)
  · exact (bif_t (by simpa using her)).trans (bad (by simp [eqC, her]))
  replace her := Decidable.not_not.1 her
  refine (bif_f (by simpa using her)).trans ?_
  obtain rfl := hkd
  obtain rfl := hfr
  obtain rfl := hto
  obtain ⟨rfl, rfl⟩ := hwhwn
  obtain ⟨rfl, rfl⟩ := hcdcu
  obtain rfl := hve
  obtain rfl := hco
  obtain ⟨rfl, rfl⟩ := hadau
  obtain rfl := hsu
  obtain rfl := her
  have hcc : eqC ⟨kd1, fr1, to1, wh1, wn1, cd1, cu1, ve1, co1, ad1, au1, su1, er1⟩ ⟨kd1, fr1, to1, wh1, wn1, cd1, cu1, ve1, co1, ad1, au1, su1, er1⟩ = true := eqC_iff.2 rfl
  rw [hcc, Bool.true_and] at hsm
  rw [hsm, eqR_eq]
  by_cases hl : a.length = b.length
  · refine (bif_f (by simp [zi, hl])).trans ?_
    refine l39_0 a b a1 a2 b1 b2 hl a4 1010 _ _ _ kd1 fr1 to1 wh1 wn1 cd1 cu1 ve1 co1 ad1 au1 su1 er1 kd1 fr1 to1 wh1 wn1 cd1 cu1 ve1 co1 ad1 au1 su1 er1 z1 f1 z2 f2 (fun h => ?_) (fun h => ?_) a.length 0 1010 (by omega) (by omega) (fun j hj => absurd hj (by omega))
    · rw [decide_eq_false h]
    · rw [decide_eq_true h]
  · refine (bif_t (by simp only [zi, bne_iff_ne, ne_eq]; omega)).trans ?_
    rw [decide_eq_false (fun h => hl (by rw [← txs_length a, h, txs_length]))]
noncomputable def run39' : List PV → List Ent → (Res → Option Res) → Option Res
  | [.st 54 [.sc (.int .i64 kd1), .sc (.int .i64 fr1), .sc (.int .i64 to1), .st 34 [.sc (.int .i64 wh1), .sc (.int .i64 wn1)], .st 45 [.sc (.int .i64 cd1), .sc (.int .i64 cu1)], .sc (.int .i64 ve1), .sc (.int .i64 co1), .st 45 [.sc (.int .i64 ad1), .sc (.int .i64 au1)], .sc (.int .i64 su1), .sc (.int .i64 er1), .ro 29 z1 f1 a], .st 54 [.sc (.int .i64 kd2), .sc (.int .i64 fr2), .sc (.int .i64 to2), .st 34 [.sc (.int .i64 wh2), .sc (.int .i64 wn2)], .st 45 [.sc (.int .i64 cd2), .sc (.int .i64 cu2)], .sc (.int .i64 ve2), .sc (.int .i64 co2), .st 45 [.sc (.int .i64 ad2), .sc (.int .i64 au2)], .sc (.int .i64 su2), .sc (.int .i64 er2), .ro 29 z2 f2 b]], [], k => bif rOk a && rOk b then k ⟨.sc (.bool (sameM ⟨⟨kd1, fr1, to1, wh1, wn1, cd1, cu1, ve1, co1, ad1, au1, su1, er1⟩, a⟩ ⟨⟨kd2, fr2, to2, wh2, wn2, cd2, cu2, ve2, co2, ad2, au2, su2, er2⟩, b⟩)), [], []⟩ else none
  | _, _, _ => none
noncomputable def s39' : Sig := { own := [], run := run39' }
theorem ok39' : CallOk tau Try.prog 39 s39' := CallOk.mk' fun xs es k res hl hr => by
  change run39' xs es k = some res at hr
  unfold run39' at hr
  split at hr
  · rename_i kd1 fr1 to1 wh1 wn1 cd1 cu1 ve1 co1 ad1 au1 su1 er1 z1 f1 a kd2 fr2 to2 wh2 wn2 cd2 cu2 ve2 co2 ad2 au2 su2 er2 z2 f2 b
    obtain ⟨hc, hr⟩ := of_bif hr
    rw [Bool.and_eq_true] at hc
    have hg := (g39_eq kd1 fr1 to1 wh1 wn1 cd1 cu1 ve1 co1 ad1 au1 su1 er1 z1 f1 a kd2 fr2 to2 wh2 wn2 cd2 cu2 ve2 co2 ad2 au2 su2 er2 z2 f2 b hc.1 hc.2 k).trans hr
    exact fn_at tabOk F39_ok mixed fo39 bo39 (an39 (r39_0 1010)) [.ro] 0 0 (ia39 1010) hl rfl ((e39 1010 kd1 fr1 to1 wh1 wn1 cd1 cu1 ve1 co1 ad1 au1 su1 er1 z1 f1 a kd2 fr2 to2 wh2 wn2 cd2 cu2 ve2 co2 ad2 au2 su2 er2 z2 f2 b k).trans hg)
  · cases hr
end Go.Proofs.Ytcklhipdldpkhaa.Rx

-- FN wire.Bytes
namespace Go.Proofs.Ytcklhipdldpkhaa.Rx
open Go
set_option linter.unusedVariables false
set_option linter.unusedSimpArgs false
set_option maxRecDepth 100000
set_option maxHeartbeats 1000000
structure WM where
  (l : List PV) (c : C13) (b : List PV)
def numsOf (c : C13) : List Int := [c.fr, c.to, c.wh, c.wn, c.cd, c.cu, c.ve, c.co, c.ad, c.au, c.su, c.er]
def txB (p : PV) : ByteArray := ByteArray.mk (Array.mk (toBytes p.els))
theorem txB_size (p : PV) : (txB p).size = p.els.length := toBytes_len p.els
noncomputable def wB0 (w : WM) : List Int := msgB w.c.kd (numsOf w.c) (w.b.map txB)
noncomputable def wB : WM → List Int := hid fun w => wB0 w ++ macP (ints (keyF ⟨w.l, w.c.fr⟩)) (wB0 w)
theorem wB_eq (w : WM) : wB w = wB0 w ++ macP (ints (keyF ⟨w.l, w.c.fr⟩)) (wB0 w) := by rw [wB, hid_eq]
theorem textsB_len (m : Nat) : ∀ l : List ByteArray, (∀ t ∈ l, t.size ≤ m) → (textsB l).length ≤ l.length * (m + 2)
  | [], _ => by simp [textsB]
  | t :: l, h => by
      have h1 := h t List.mem_cons_self
      have h2 := textsB_len m l fun x hx => h x (List.mem_cons_of_mem _ hx)
      simp only [textsB, List.flatMap_cons, List.length_append, textB_length, List.length_cons, Nat.add_mul] at h2 ⊢
      omega
theorem wB0_length (w : WM) : (wB0 w).length = 98 + (textsB (w.b.map txB)).length := by
  simp only [wB0, msgB, List.length_append, List.length_cons, List.length_nil, numsB_length, numsOf]; omega
theorem txs_small {m : Nat} {b : List PV} (h : ∀ p ∈ b, p.els.length ≤ m) : ∀ t ∈ b.map txB, t.size ≤ m := by
  intro t ht
  obtain ⟨p, hp, rfl⟩ := List.mem_map.1 ht
  rw [txB_size]; exact h p hp
theorem wB0_small {w : WM} (h : rOk w.b = true) : (wB0 w).length ≤ 65537098 := by
  obtain ⟨_, _, h3, h4⟩ := rOk_iff.1 h
  have := textsB_len 65535 (w.b.map txB) (txs_small h3)
  rw [List.length_map] at this
  have h5 : w.b.length * 65537 ≤ 1000 * 65537 := Nat.mul_le_mul_right _ h4
  rw [wB0_length]; omega
theorem wB_length (w : WM) : (wB w).length = (wB0 w).length + 32 := by rw [wB_eq, List.length_append, macP_length]
theorem wB_by (w : WM) : ∀ x ∈ wB0 w, 0 ≤ x ∧ x < 256 := msgB_by _ _ _
theorem okZ_t {l : List PV} (h : l.length ≤ 1000000000) : okZ false l = true := by rw [okZ_eq]; exact slB_iff.2 ⟨fun h => (by cases h), h⟩
theorem l41_1 (f : Nat) (k0 : Nat → Bool → Bool → List PV → Bool → Bool → List PV → Bool → Bool → List PV → Int → Int → Int → Int → Int → Int → Int → Int → Int → Int → Int → Int → Int → Bool → Bool → List PV → List PV → Option Res) (b : List PV) (h1 : b.all (PV.isRo 5) = true) (h2 : allInt .u8 (flat b) = true) (h3 : ∀ p ∈ b, p.els.length ≤ 65535) (h4 : b.length ≤ 1000)
    {z fl za fa za1 fa1 za2 fa2 zb fb : Bool} {ka kc ke bb : List PV} {kd fr to wh wn cd cu ve co ad au su er : Int} : ∀ (d i n : Nat) (L : List PV), i + d = b.length → d < n → L.length ≤ 1000 + i * 65537 →
    lp41_1 f k0 n L.length z fl b (zi b.length) (i : Int) za fa ka za1 fa1 kc za2 fa2 ke kd fr to wh wn cd cu ve co ad au su er zb fb bb L = k0 (L ++ pu .u8 (textsB ((b.drop i).map txB))).length za fa ka za1 fa1 kc za2 fa2 ke kd fr to wh wn cd cu ve co ad au su er zb fb bb (L ++ pu .u8 (textsB ((b.drop i).map txB)))
  | 0, i, n + 1, L, hi, hn, hL => by
      rw [List.drop_of_length_le (by omega)]
      simp only [lp41_1, lpS41_1, List.map_nil, textsB, List.flatMap_nil, pu_nil, List.append_nil]
      exact bif_f (by simp [zi]; omega)
  | d + 1, i, n + 1, L, hi, hn, hL => by
      have g1 : ((i : Int)).toNat = i := by omega
      have w1 : IntKind.i64.wrap ((i : Int) + 1) = ((i + 1 : Nat) : Int) := by rw [wrap_i64 (by omega) (by omega)]; omega
      have hd : b.drop i = b.getD i .top :: b.drop (i + 1) := by
        rw [List.drop_eq_getElem_cons (by omega)]; simp [List.getD_eq_getElem?_getD, show i < b.length by omega]
      have hmem : b.getD i .top ∈ b := by rw [List.getD_eq_getElem?_getD, List.getElem?_eq_getElem (by omega)]; exact List.getElem_mem (by omega)
      have hsz := h3 _ hmem
      have hi2 : i * 65537 ≤ 999 * 65537 := Nat.mul_le_mul_right _ (by omega)
      have ht : ByteArray.mk (Array.mk (toBytes ((b.getD i .top).nl, (b.getD i .top).els).snd)) = txB (b.getD i .top) := rfl
      have hap : apT L (txB (b.getD i .top)) = L ++ pu .u8 (textB (txB (b.getD i .top))) := apT_eq _ _
      simp only [lp41_1, lpS41_1, g1, w1, ht, List.take_length]
      refine (bif_t (by simp [zi]; omega)).trans ((bif_t (by rw [isRo_getD h1 (by omega)]; simp [zi]; omega)).trans ((bif_t (by rw [flat_els h2 (by omega)]; rfl)).trans ((bif_t (by rw [okZ_t (by omega), txB_size, Bool.true_and, Nat.ble_eq]; exact hsz)).trans ?_)))
      have ih := l41_1 f k0 b h1 h2 h3 h4 (z := z) (fl := fl) (za := za) (fa := fa) (za1 := za1) (fa1 := fa1) (za2 := za2) (fa2 := fa2) (zb := zb) (fb := fb) (ka := ka) (kc := kc) (ke := ke) (bb := bb) (kd := kd) (fr := fr) (to := to) (wh := wh) (wn := wn) (cd := cd) (cu := cu) (ve := ve) (co := co) (ad := ad) (au := au) (su := su) (er := er) d (i + 1) n (apT L (txB (b.getD i .top))) (by omega) (by omega) (by rw [hap, List.length_append, pu_length, textB_length, txB_size]; omega)
      refine ih.trans ?_
      rw [hd, hap]
      simp only [List.map_cons, textsB, List.flatMap_cons, pu_append, List.append_assoc]
noncomputable def run41' : List PV → List Ent → (Res → Option Res) → Option Res
  | [.st 31 [.ro 5 z0 f0 k0, .ro 5 z1 f1 k1, .ro 5 z2 f2 k2], .st 54 [.sc (.int .i64 kd), .sc (.int .i64 fr), .sc (.int .i64 to), .st 34 [.sc (.int .i64 wh), .sc (.int .i64 wn)], .st 45 [.sc (.int .i64 cd), .sc (.int .i64 cu)], .sc (.int .i64 ve), .sc (.int .i64 co), .st 45 [.sc (.int .i64 ad), .sc (.int .i64 au)], .sc (.int .i64 su), .sc (.int .i64 er), .ro 29 z f b]], [], k => bif rOk b && (kOk k0 && (kOk k1 && kOk k2)) then k ⟨.ow 5 16 [] 0 (wB ⟨[.ro 5 z0 f0 k0, .ro 5 z1 f1 k1, .ro 5 z2 f2 k2], ⟨kd, fr, to, wh, wn, cd, cu, ve, co, ad, au, su, er⟩, b⟩).length none, [], [.vec false 5 false (pu .u8 (wB ⟨[.ro 5 z0 f0 k0, .ro 5 z1 f1 k1, .ro 5 z2 f2 k2], ⟨kd, fr, to, wh, wn, cd, cu, ve, co, ad, au, su, er⟩, b⟩))]⟩ else none
  | _, _, _ => none
noncomputable def s41' : Sig := { own := [], run := run41' }
theorem wB0_parts (w : WM) : pu .u8 (wB0 w) = apY (apI (apI (apI (apI (apI (apI (apI (apI (apI (apI (apI (apI (apY [] w.c.kd) w.c.fr) w.c.to) w.c.wh) w.c.wn) w.c.cd) w.c.cu) w.c.ve) w.c.co) w.c.ad) w.c.au) w.c.su) w.c.er) (zi w.b.length) ++ pu .u8 (textsB (w.b.map txB)) := by
  simp only [apI_eq, apY_eq, wB0, msgB, numsOf, numsB, List.flatMap_cons, List.flatMap_nil, List.append_nil, List.nil_append, pu_append, List.append_assoc, List.length_map, zi]
theorem g41_eq (z0 f0 z1 f1 z2 f2 z f : Bool) (k0 k1 k2 b : List PV) (kd fr to wh wn cd cu ve co ad au su er : Int) (hb : rOk b = true) (h0 : kOk k0 = true) (h1 : kOk k1 = true) (h2 : kOk k2 = true) (k : Res → Option Res) :
    g41 1010 z0 f0 k0 z1 f1 k1 z2 f2 k2 kd fr to wh wn cd cu ve co ad au su er z f b k = k ⟨.ow 5 16 [] 0 (wB ⟨[.ro 5 z0 f0 k0, .ro 5 z1 f1 k1, .ro 5 z2 f2 k2], ⟨kd, fr, to, wh, wn, cd, cu, ve, co, ad, au, su, er⟩, b⟩).length none, [], [.vec false 5 false (pu .u8 (wB ⟨[.ro 5 z0 f0 k0, .ro 5 z1 f1 k1, .ro 5 z2 f2 k2], ⟨kd, fr, to, wh, wn, cd, cu, ve, co, ad, au, su, er⟩, b⟩))]⟩ := by
  obtain ⟨b1, b2, b3, b4⟩ := rOk_iff.1 hb
  have hsm := wB0_small (w := ⟨[.ro 5 z0 f0 k0, .ro 5 z1 f1 k1, .ro 5 z2 f2 k2], ⟨kd, fr, to, wh, wn, cd, cu, ve, co, ad, au, su, er⟩, b⟩) hb
  have hp := wB0_parts ⟨[.ro 5 z0 f0 k0, .ro 5 z1 f1 k1, .ro 5 z2 f2 k2], ⟨kd, fr, to, wh, wn, cd, cu, ve, co, ad, au, su, er⟩, b⟩
  unfold g41
  simp only [List.take_length]
  refine (bif_t (by rw [okZ_eq]; rfl)).trans ?_
  have ly : ∀ (l : List PV) (n : Int), (apY l n).length = l.length + 1 := fun l n => by rw [apY_eq]; simp
  have li : ∀ (l : List PV) (n : Int), (apI l n).length = l.length + 8 := fun l n => by rw [apI_eq]; simp
  iterate 13 (refine (bif_t (okZ_t (by simp only [li, ly, List.length_nil]; omega))).trans ?_)
  refine (l41_1 1010 _ b b1 b2 b3 b4 b.length 0 1010 _ (by omega) (by omega) (by simp only [li, ly, List.length_nil]; omega)).trans ?_
  rw [List.drop_zero]
  rw [show (apY (apI (apI (apI (apI (apI (apI (apI (apI (apI (apI (apI (apI (apY [] kd) fr) to) wh) wn) cd) cu) ve) co) ad) au) su) er) (zi b.length)) ++ pu .u8 (textsB (b.map txB)) = pu .u8 (wB0 ⟨[.ro 5 z0 f0 k0, .ro 5 z1 f1 k1, .ro 5 z2 f2 k2], ⟨kd, fr, to, wh, wn, cd, cu, ve, co, ad, au, su, er⟩, b⟩) from hp.symm]
  have hkf := keyF_ok (z0 := z0) (f0 := f0) (z1 := z1) (f1 := f1) (z2 := z2) (f2 := f2) h0 h1 h2 fr
  unfold kOk at hkf
  rw [Bool.and_eq_true, decide_eq_true_eq] at hkf
  have e2 : List.take 32 (pu .u8 (macP (ints (keyF ⟨[.ro 5 z0 f0 k0, .ro 5 z1 f1 k1, .ro 5 z2 f2 k2], fr⟩)) (wB0 ⟨[.ro 5 z0 f0 k0, .ro 5 z1 f1 k1, .ro 5 z2 f2 k2], ⟨kd, fr, to, wh, wn, cd, cu, ve, co, ad, au, su, er⟩, b⟩))) = pu .u8 (macP (ints (keyF ⟨[.ro 5 z0 f0 k0, .ro 5 z1 f1 k1, .ro 5 z2 f2 k2], fr⟩)) (wB0 ⟨[.ro 5 z0 f0 k0, .ro 5 z1 f1 k1, .ro 5 z2 f2 k2], ⟨kd, fr, to, wh, wn, cd, cu, ve, co, ad, au, su, er⟩, b⟩)) := List.take_of_length_le (by rw [pu_length, macP_length]; exact Nat.le_refl _)
  have hL := wB_length ⟨[.ro 5 z0 f0 k0, .ro 5 z1 f1 k1, .ro 5 z2 f2 k2], ⟨kd, fr, to, wh, wn, cd, cu, ve, co, ad, au, su, er⟩, b⟩
  have htk : List.take (wB0 ⟨[.ro 5 z0 f0 k0, .ro 5 z1 f1 k1, .ro 5 z2 f2 k2], ⟨kd, fr, to, wh, wn, cd, cu, ve, co, ad, au, su, er⟩, b⟩).length (pu .u8 (wB0 ⟨[.ro 5 z0 f0 k0, .ro 5 z1 f1 k1, .ro 5 z2 f2 k2], ⟨kd, fr, to, wh, wn, cd, cu, ve, co, ad, au, su, er⟩, b⟩)) = pu .u8 (wB0 ⟨[.ro 5 z0 f0 k0, .ro 5 z1 f1 k1, .ro 5 z2 f2 k2], ⟨kd, fr, to, wh, wn, cd, cu, ve, co, ad, au, su, er⟩, b⟩) := List.take_of_length_le (by simp)
  simp only [htk, flat_one, ints_pu, allInt_pu, e2, pu_length, macP_length]
  refine (bif_t (by rw [hkf.1]; simp; omega)).trans ((bif_t (by simp only [roomy, Nat.mul_one, Bool.and_true, decide_eq_true_eq]; omega)).trans ?_)
  rw [hL, ← pu_append, ← wB_eq ⟨[.ro 5 z0 f0 k0, .ro 5 z1 f1 k1, .ro 5 z2 f2 k2], ⟨kd, fr, to, wh, wn, cd, cu, ve, co, ad, au, su, er⟩, b⟩]
theorem ok41' : CallOk tau Try.prog 41 s41' := CallOk.mk' fun xs es k res hl hr => by
  change run41' xs es k = some res at hr
  unfold run41' at hr
  split at hr
  · rename_i z0 f0 k0 z1 f1 k1 z2 f2 k2 kd fr to wh wn cd cu ve co ad au su er z f b
    obtain ⟨hc, hr⟩ := of_bif hr
    simp only [Bool.and_eq_true] at hc
    have hg := (g41_eq z0 f0 z1 f1 z2 f2 z f k0 k1 k2 b kd fr to wh wn cd cu ve co ad au su er hc.1 hc.2.1 hc.2.2.1 hc.2.2.2 k).trans hr
    exact fn_at tabOk F41_ok mixed fo41 bo41 (an41 (r41_1 1010)) [] 0 13 (ia41 1010) hl rfl ((e41 1010 z0 f0 k0 z1 f1 k1 z2 f2 k2 kd fr to wh wn cd cu ve co ad au su er z f b k).trans hg)
  · cases hr
end Go.Proofs.Ytcklhipdldpkhaa.Rx

-- FN ref16.body
namespace Go.Proofs.Ytcklhipdldpkhaa.Rx
open Go
set_option linter.unusedVariables false
set_option linter.unusedSimpArgs false
set_option maxRecDepth 100000
set_option maxHeartbeats 1000000
noncomputable def wM : WM → List Int := hid wB0
theorem wM_eq (w : WM) : wM w = wB0 w := by rw [wM, hid_eq]
theorem okL_t {l : List PV} (h : l.length ≤ 1000000000) : okL l.length l = true := by
  rw [okL_eq, Bool.and_eq_true, Nat.beq_eq, Nat.ble_eq]; exact ⟨rfl, h⟩
theorem l75_1 (f : Nat) (k0 : Nat → List PV → Option Res) (b : List PV) (h1 : b.all (PV.isRo 5) = true) (h2 : allInt .u8 (flat b) = true) (h3 : ∀ p ∈ b, p.els.length ≤ 65535) (h4 : b.length ≤ 1000)
    {z fl : Bool} {kd fr to wh wn cd cu ve co ad au su er : Int} : ∀ (d i n : Nat) (L : List PV), i + d = b.length → d < n → L.length ≤ 1000 + i * 65537 →
    lp75_1 f k0 n L.length (i : Int) kd fr to wh wn cd cu ve co ad au su er z fl b L = k0 (L ++ pu .u8 (textsB ((b.drop i).map txB))).length (L ++ pu .u8 (textsB ((b.drop i).map txB)))
  | 0, i, n + 1, L, hi, hn, hL => by
      rw [List.drop_of_length_le (by omega)]
      simp only [lp75_1, lpS75_1, List.map_nil, textsB, List.flatMap_nil, pu_nil, List.append_nil]
      exact bif_f (by simp [zi]; omega)
  | d + 1, i, n + 1, L, hi, hn, hL => by
      have g1 : ((i : Int)).toNat = i := by omega
      have w1 : IntKind.i64.wrap ((i : Int) + 1) = ((i + 1 : Nat) : Int) := by rw [wrap_i64 (by omega) (by omega)]; omega
      have hd : b.drop i = b.getD i .top :: b.drop (i + 1) := by
        rw [List.drop_eq_getElem_cons (by omega)]; simp [List.getD_eq_getElem?_getD, show i < b.length by omega]
      have hmem : b.getD i .top ∈ b := by rw [List.getD_eq_getElem?_getD, List.getElem?_eq_getElem (by omega)]; exact List.getElem_mem (by omega)
      have hsz := h3 _ hmem
      have hi2 : i * 65537 ≤ 999 * 65537 := Nat.mul_le_mul_right _ (by omega)
      have ht : ByteArray.mk (Array.mk (toBytes ((b.getD i .top).nl, (b.getD i .top).els).snd)) = txB (b.getD i .top) := rfl
      have hap : apT L (txB (b.getD i .top)) = L ++ pu .u8 (textB (txB (b.getD i .top))) := apT_eq _ _
      simp only [lp75_1, lpS75_1, g1, w1, ht]
      refine (bif_t (by simp [zi]; omega)).trans ((bif_t (by rw [isRo_getD h1 (by omega)]; simp [zi]; omega)).trans ((bif_t (by rw [flat_els h2 (by omega)]; rfl)).trans ((bif_t (by rw [okL_t (by omega), txB_size, Bool.true_and, Nat.ble_eq]; exact hsz)).trans ?_)))
      have ih := l75_1 f k0 b h1 h2 h3 h4 (z := z) (fl := fl) (kd := kd) (fr := fr) (to := to) (wh := wh) (wn := wn) (cd := cd) (cu := cu) (ve := ve) (co := co) (ad := ad) (au := au) (su := su) (er := er) d (i + 1) n (apT L (txB (b.getD i .top))) (by omega) (by omega) (by rw [hap, List.length_append, pu_length, textB_length, txB_size]; omega)
      refine ih.trans ?_
      rw [hd, hap]
      simp only [List.map_cons, textsB, List.flatMap_cons, pu_append, List.append_assoc]
noncomputable def run75' : List PV → List Ent → (Res → Option Res) → Option Res
  | [.st 54 [.sc (.int .i64 kd), .sc (.int .i64 fr), .sc (.int .i64 to), .st 34 [.sc (.int .i64 wh), .sc (.int .i64 wn)], .st 45 [.sc (.int .i64 cd), .sc (.int .i64 cu)], .sc (.int .i64 ve), .sc (.int .i64 co), .st 45 [.sc (.int .i64 ad), .sc (.int .i64 au)], .sc (.int .i64 su), .sc (.int .i64 er), .ro 29 z f b]], [], k => bif rOk b then k ⟨.ow 5 16 [] 0 (wM ⟨[], ⟨kd, fr, to, wh, wn, cd, cu, ve, co, ad, au, su, er⟩, b⟩).length none, [], [.vec false 5 false (pu .u8 (wM ⟨[], ⟨kd, fr, to, wh, wn, cd, cu, ve, co, ad, au, su, er⟩, b⟩))]⟩ else none
  | _, _, _ => none
noncomputable def s75' : Sig := { own := [], run := run75' }
theorem g75_eq (z f : Bool) (b : List PV) (kd fr to wh wn cd cu ve co ad au su er : Int) (hb : rOk b = true) (k : Res → Option Res) :
    g75 1010 kd fr to wh wn cd cu ve co ad au su er z f b k = k ⟨.ow 5 16 [] 0 (wM ⟨[], ⟨kd, fr, to, wh, wn, cd, cu, ve, co, ad, au, su, er⟩, b⟩).length none, [], [.vec false 5 false (pu .u8 (wM ⟨[], ⟨kd, fr, to, wh, wn, cd, cu, ve, co, ad, au, su, er⟩, b⟩))]⟩ := by
  obtain ⟨b1, b2, b3, b4⟩ := rOk_iff.1 hb
  have hp := wB0_parts ⟨[], ⟨kd, fr, to, wh, wn, cd, cu, ve, co, ad, au, su, er⟩, b⟩
  unfold g75
  have ly : ∀ (l : List PV) (n : Int), (apY l n).length = l.length + 1 := fun l n => by rw [apY_eq]; simp
  have li : ∀ (l : List PV) (n : Int), (apI l n).length = l.length + 8 := fun l n => by rw [apI_eq]; simp
  iterate 13 (refine (bif_t (okL_t (by simp only [li, ly, List.length_nil]; omega))).trans ?_)
  refine (l75_1 1010 _ b b1 b2 b3 b4 b.length 0 1010 _ (by omega) (by omega) (by simp only [li, ly, List.length_nil]; omega)).trans ?_
  rw [List.drop_zero]
  rw [show (apY (apI (apI (apI (apI (apI (apI (apI (apI (apI (apI (apI (apI (apY [] kd) fr) to) wh) wn) cd) cu) ve) co) ad) au) su) er) (zi b.length)) ++ pu .u8 (textsB (b.map txB)) = pu .u8 (wB0 ⟨[], ⟨kd, fr, to, wh, wn, cd, cu, ve, co, ad, au, su, er⟩, b⟩) from hp.symm]
  rw [pu_length, wM_eq]
theorem ok75' : CallOk tau Try.prog 75 s75' := CallOk.mk' fun xs es k res hl hr => by
  change run75' xs es k = some res at hr
  unfold run75' at hr
  split at hr
  · rename_i kd fr to wh wn cd cu ve co ad au su er z f b
    obtain ⟨hc, hr⟩ := of_bif hr
    have hg := (g75_eq z f b kd fr to wh wn cd cu ve co ad au su er hc k).trans hr
    exact fn_at tabOk F75_ok mixed fo75 bo75 (an75 (r75_1 1010)) [] 0 13 (ia75 1010) hl rfl ((e75 1010 kd fr to wh wn cd cu ve co ad au su er z f b k).trans hg)
  · cases hr
end Go.Proofs.Ytcklhipdldpkhaa.Rx

namespace Go.Proofs.Ytcklhipdldpkhaa.Rx
open Go
set_option linter.unusedVariables false
set_option maxRecDepth 100000
set_option maxHeartbeats 0
noncomputable def F34 : Fns := addF 75 s75' (addF 36 s36' (F0))
theorem F34_ok : FnsOk tau Try.prog F34 := ((F0_ok).add ok36' en36).add ok75' en75
def an34 : An := (.seq .leaf (.seq .leaf (.seq .leaf (.seq .leaf .leaf))))
noncomputable def g34 (f : Nat) (k0_z : Bool) (k0_f : Bool) (k0 : List PV) (k1_z : Bool) (k1_f : Bool) (k1 : List PV) (k2_z : Bool) (k2_f : Bool) (k2 : List PV) (m_Kind : Int) (m_From : Int) (m_To : Int) (m_W_Host : Int) (m_W_N : Int) (m_Creator_D : Int) (m_Creator_U : Int) (m_Version : Int) (m_Commit : Int) (m_Author_D : Int) (m_Author_U : Int) (m_Sub : Int) (m_Err : Int) (m_Body_z : Bool) (m_Body_f : Bool) (m_Body : List PV) (k : Res → Option Res) : Option Res := bif rOk m_Body then bif decide (0 ≤ m_From) && decide (m_From < zi 3) && true then bif PV.isRo 5 (getP (PV.st 31 [.ro 5 k0_z k0_f k0, .ro 5 k1_z k1_f k1, .ro 5 k2_z k2_f k2]) [m_From.toNat]) && true then bif allInt IntKind.u8 (getP (PV.st 31 [.ro 5 k0_z k0_f k0, .ro 5 k1_z k1_f k1, .ro 5 k2_z k2_f k2]) [m_From.toNat]).els && decide ((getP (PV.st 31 [.ro 5 k0_z k0_f k0, .ro 5 k1_z k1_f k1, .ro 5 k2_z k2_f k2]) [m_From.toNat]).els.length ≤ 1000000000) && (allInt IntKind.u8 (List.take (wM (WM.mk [] (C13.mk m_Kind m_From m_To m_W_Host m_W_N m_Creator_D m_Creator_U m_Version m_Commit m_Author_D m_Author_U m_Sub m_Err) m_Body)).length (pu IntKind.u8 (wM (WM.mk [] (C13.mk m_Kind m_From m_To m_W_Host m_W_N m_Creator_D m_Creator_U m_Version m_Commit m_Author_D m_Author_U m_Sub m_Err) m_Body)))) && decide ((List.take (wM (WM.mk [] (C13.mk m_Kind m_From m_To m_W_Host m_W_N m_Creator_D m_Creator_U m_Version m_Commit m_Author_D m_Author_U m_Sub m_Err) m_Body)).length (pu IntKind.u8 (wM (WM.mk [] (C13.mk m_Kind m_From m_To m_W_Host m_W_N m_Creator_D m_Creator_U m_Version m_Commit m_Author_D m_Author_U m_Sub m_Err) m_Body)))).length ≤ 1000000000)) then bif roomy ((wM (WM.mk [] (C13.mk m_Kind m_From m_To m_W_Host m_W_N m_Creator_D m_Creator_U m_Version m_Commit m_Author_D m_Author_U m_Sub m_Err) m_Body)).length + (List.take 32 (pu IntKind.u8 (macP (ints (getP (PV.st 31 [.ro 5 k0_z k0_f k0, .ro 5 k1_z k1_f k1, .ro 5 k2_z k2_f k2]) [m_From.toNat]).els) (ints (List.take (wM (WM.mk [] (C13.mk m_Kind m_From m_To m_W_Host m_W_N m_Creator_D m_Creator_U m_Version m_Commit m_Author_D m_Author_U m_Sub m_Err) m_Body)).length (pu IntKind.u8 (wM (WM.mk [] (C13.mk m_Kind m_From m_To m_W_Host m_W_N m_Creator_D m_Creator_U m_Version m_Commit m_Author_D m_Author_U m_Sub m_Err) m_Body)))))))).length) 1 && true then k (Res.mk (.ow 5 16 [] 0 ((wM (WM.mk [] (C13.mk m_Kind m_From m_To m_W_Host m_W_N m_Creator_D m_Creator_U m_Version m_Commit m_Author_D m_Author_U m_Sub m_Err) m_Body)).length + (List.take 32 (pu IntKind.u8 (macP (ints (getP (PV.st 31 [.ro 5 k0_z k0_f k0, .ro 5 k1_z k1_f k1, .ro 5 k2_z k2_f k2]) [m_From.toNat]).els) (ints (List.take (wM (WM.mk [] (C13.mk m_Kind m_From m_To m_W_Host m_W_N m_Creator_D m_Creator_U m_Version m_Commit m_Author_D m_Author_U m_Sub m_Err) m_Body)).length (pu IntKind.u8 (wM (WM.mk [] (C13.mk m_Kind m_From m_To m_W_Host m_W_N m_Creator_D m_Creator_U m_Version m_Commit m_Author_D m_Author_U m_Sub m_Err) m_Body)))))))).length) none) [] [.vec false 5 false (List.take (wM (WM.mk [] (C13.mk m_Kind m_From m_To m_W_Host m_W_N m_Creator_D m_Creator_U m_Version m_Commit m_Author_D m_Author_U m_Sub m_Err) m_Body)).length (pu IntKind.u8 (wM (WM.mk [] (C13.mk m_Kind m_From m_To m_W_Host m_W_N m_Creator_D m_Creator_U m_Version m_Commit m_Author_D m_Author_U m_Sub m_Err) m_Body))) ++ List.take 32 (pu IntKind.u8 (macP (ints (getP (PV.st 31 [.ro 5 k0_z k0_f k0, .ro 5 k1_z k1_f k1, .ro 5 k2_z k2_f k2]) [m_From.toNat]).els) (ints (List.take (wM (WM.mk [] (C13.mk m_Kind m_From m_To m_W_Host m_W_N m_Creator_D m_Creator_U m_Version m_Commit m_Author_D m_Author_U m_Sub m_Err) m_Body)).length (pu IntKind.u8 (wM (WM.mk [] (C13.mk m_Kind m_From m_To m_W_Host m_W_N m_Creator_D m_Creator_U m_Version m_Commit m_Author_D m_Author_U m_Sub m_Err) m_Body))))))))]) else none else none else none else none else none
theorem e34 (f : Nat) (k0_z : Bool) (k0_f : Bool) (k0 : List PV) (k1_z : Bool) (k1_f : Bool) (k1 : List PV) (k2_z : Bool) (k2_f : Bool) (k2 : List PV) (m_Kind : Int) (m_From : Int) (m_To : Int) (m_W_Host : Int) (m_W_N : Int) (m_Creator_D : Int) (m_Creator_U : Int) (m_Version : Int) (m_Commit : Int) (m_Author_D : Int) (m_Author_U : Int) (m_Sub : Int) (m_Err : Int) (m_Body_z : Bool) (m_Body_f : Bool) (m_Body : List PV) (k : Res → Option Res) : evFn tau F34 Try.f34 (Try.f34.body.get!) an34 [] 0 [.st 31 [.ro 5 k0_z k0_f k0, .ro 5 k1_z k1_f k1, .ro 5 k2_z k2_f k2], .st 54 [.sc (.int .i64 m_Kind), .sc (.int .i64 m_From), .sc (.int .i64 m_To), .st 34 [.sc (.int .i64 m_W_Host), .sc (.int .i64 m_W_N)], .st 45 [.sc (.int .i64 m_Creator_D), .sc (.int .i64 m_Creator_U)], .sc (.int .i64 m_Version), .sc (.int .i64 m_Commit), .st 45 [.sc (.int .i64 m_Author_D), .sc (.int .i64 m_Author_U)], .sc (.int .i64 m_Sub), .sc (.int .i64 m_Err), .ro 29 m_Body_z m_Body_f m_Body]] [] k = g34 f k0_z k0_f k0 k1_z k1_f k1 k2_z k2_f k2 m_Kind m_From m_To m_W_Host m_W_N m_Creator_D m_Creator_U m_Version m_Commit m_Author_D m_Author_U m_Sub m_Err m_Body_z m_Body_f m_Body k := by kernel_rfl
theorem it34 (f : Nat) : items (Try.f34.body.get!) an34 = [] := by kernel_rfl
theorem ia34 (f : Nat) : ∀ q ∈ items (Try.f34.body.get!) an34, q.Ok tau Try.prog 0 := by
  rw [it34 f]; intro q hq; cases hq
theorem fo34 : Try.prog.funcs[34]? = some Try.f34 := by kernel_rfl
theorem bo34 : Try.f34.body = some (Try.f34.body.get!) := by kernel_rfl
theorem en34 : Enters Try.prog 34 := enters_of fo34 (by kernel_rfl) bo34
end Go.Proofs.Ytcklhipdldpkhaa.Rx

namespace Go.Proofs.Ytcklhipdldpkhaa.Rx
open Go
set_option linter.unusedVariables false
set_option maxRecDepth 100000
set_option maxHeartbeats 0
noncomputable def F89 : Fns := F0
theorem F89_ok : FnsOk tau Try.prog F89 := F0_ok
def an89 : An := (.seq .leaf (.seq .leaf .leaf))
noncomputable def g89 (f : Nat) (n : Int) (k : Res → Option Res) : Option Res := bif decide (n ≥ 0) then k (Res.mk (.sc (.bool (decide (n < 3)))) [] []) else k (Res.mk (.sc (.bool false)) [] [])
theorem e89 (f : Nat) (n : Int) (k : Res → Option Res) : evFn tau F89 Try.f89 (Try.f89.body.get!) an89 [.ro] 0 [.sc (.int .i64 n)] [] k = g89 f n k := by kernel_rfl
theorem it89 (f : Nat) : items (Try.f89.body.get!) an89 = [] := by kernel_rfl
theorem ia89 (f : Nat) : ∀ q ∈ items (Try.f89.body.get!) an89, q.Ok tau Try.prog 0 := by
  rw [it89 f]; intro q hq; cases hq
theorem fo89 : Try.prog.funcs[89]? = some Try.f89 := by kernel_rfl
theorem bo89 : Try.f89.body = some (Try.f89.body.get!) := by kernel_rfl
theorem en89 : Enters Try.prog 89 := enters_of fo89 (by kernel_rfl) bo89
noncomputable def run89 : List PV → List Ent → (Res → Option Res) → Option Res
  | [.sc (.int .i64 n)], [], k => g89 0 n k
  | _, _, _ => none
noncomputable def s89 : Sig := { own := [], run := run89 }
theorem ok89 : CallOk tau Try.prog 89 s89 := fn_ok tabOk F89_ok mixed fo89 bo89 an89 [.ro] 0 [] run89 (ia89 0) fun xs es k res hr => by
  unfold run89 at hr
  split at hr
  · exact ⟨rfl, 0, (e89 0 _  _).trans hr⟩
  · cases hr
end Go.Proofs.Ytcklhipdldpkhaa.Rx

namespace Go.Proofs.Ytcklhipdldpkhaa.Rx
open Go
set_option linter.unusedVariables false
set_option maxRecDepth 100000
set_option maxHeartbeats 0
noncomputable def F90 : Fns := F0
theorem F90_ok : FnsOk tau Try.prog F90 := F0_ok
def an90 : An := (.seq .leaf (.seq .leaf .leaf))
noncomputable def g90 (f : Nat) (w_Host : Int) (w_N : Int) (k : Res → Option Res) : Option Res := bif decide (w_Host ≥ 0) then bif decide (w_Host < 3) then bif decide (w_N ≥ 0) then k (Res.mk (.sc (.bool (decide (w_N ≤ 99)))) [] []) else k (Res.mk (.sc (.bool false)) [] []) else k (Res.mk (.sc (.bool false)) [] []) else k (Res.mk (.sc (.bool false)) [] [])
theorem e90 (f : Nat) (w_Host : Int) (w_N : Int) (k : Res → Option Res) : evFn tau F90 Try.f90 (Try.f90.body.get!) an90 [.ro] 0 [.st 34 [.sc (.int .i64 w_Host), .sc (.int .i64 w_N)]] [] k = g90 f w_Host w_N k := by kernel_rfl
theorem it90 (f : Nat) : items (Try.f90.body.get!) an90 = [] := by kernel_rfl
theorem ia90 (f : Nat) : ∀ q ∈ items (Try.f90.body.get!) an90, q.Ok tau Try.prog 0 := by
  rw [it90 f]; intro q hq; cases hq
theorem fo90 : Try.prog.funcs[90]? = some Try.f90 := by kernel_rfl
theorem bo90 : Try.f90.body = some (Try.f90.body.get!) := by kernel_rfl
theorem en90 : Enters Try.prog 90 := enters_of fo90 (by kernel_rfl) bo90
noncomputable def run90 : List PV → List Ent → (Res → Option Res) → Option Res
  | [.st 34 [.sc (.int .i64 w_Host), .sc (.int .i64 w_N)]], [], k => g90 0 w_Host w_N k
  | _, _, _ => none
noncomputable def s90 : Sig := { own := [], run := run90 }
theorem ok90 : CallOk tau Try.prog 90 s90 := fn_ok tabOk F90_ok mixed fo90 bo90 an90 [.ro] 0 [] run90 (ia90 0) fun xs es k res hr => by
  unfold run90 at hr
  split at hr
  · exact ⟨rfl, 0, (e90 0 _ _  _).trans hr⟩
  · cases hr
end Go.Proofs.Ytcklhipdldpkhaa.Rx

namespace Go.Proofs.Ytcklhipdldpkhaa.Rx
open Go
set_option linter.unusedVariables false
set_option maxRecDepth 100000
set_option maxHeartbeats 0
noncomputable def F92 : Fns := F0
theorem F92_ok : FnsOk tau Try.prog F92 := F0_ok
def an92 : An := (.seq .leaf (.seq .leaf .leaf))
noncomputable def g92 (f : Nat) (n : Int) (top : Int) (k : Res → Option Res) : Option Res := bif decide (n ≥ 0) then k (Res.mk (.sc (.bool (decide (n ≤ top)))) [] []) else k (Res.mk (.sc (.bool false)) [] [])
theorem e92 (f : Nat) (n : Int) (top : Int) (k : Res → Option Res) : evFn tau F92 Try.f92 (Try.f92.body.get!) an92 [.ro] 0 [.sc (.int .i64 n), .sc (.int .i64 top)] [] k = g92 f n top k := by kernel_rfl
theorem it92 (f : Nat) : items (Try.f92.body.get!) an92 = [] := by kernel_rfl
theorem ia92 (f : Nat) : ∀ q ∈ items (Try.f92.body.get!) an92, q.Ok tau Try.prog 0 := by
  rw [it92 f]; intro q hq; cases hq
theorem fo92 : Try.prog.funcs[92]? = some Try.f92 := by kernel_rfl
theorem bo92 : Try.f92.body = some (Try.f92.body.get!) := by kernel_rfl
theorem en92 : Enters Try.prog 92 := enters_of fo92 (by kernel_rfl) bo92
noncomputable def run92 : List PV → List Ent → (Res → Option Res) → Option Res
  | [.sc (.int .i64 n), .sc (.int .i64 top)], [], k => g92 0 n top k
  | _, _, _ => none
noncomputable def s92 : Sig := { own := [], run := run92 }
theorem ok92 : CallOk tau Try.prog 92 s92 := fn_ok tabOk F92_ok mixed fo92 bo92 an92 [.ro] 0 [] run92 (ia92 0) fun xs es k res hr => by
  unfold run92 at hr
  split at hr
  · exact ⟨rfl, 0, (e92 0 _ _  _).trans hr⟩
  · cases hr
end Go.Proofs.Ytcklhipdldpkhaa.Rx

namespace Go.Proofs.Ytcklhipdldpkhaa.Rx
open Go
set_option linter.unusedVariables false
set_option maxRecDepth 100000
set_option maxHeartbeats 0
noncomputable def F91 : Fns := F0
theorem F91_ok : FnsOk tau Try.prog F91 := F0_ok
def an91 : An := (.seq .leaf (.seq .leaf .leaf))
noncomputable def g91 (f : Nat) (a_D : Int) (a_U : Int) (k : Res → Option Res) : Option Res := bif decide (a_D ≥ 0) then bif decide (a_D < 3) then bif decide (a_U ≥ 0) then k (Res.mk (.sc (.bool (decide (a_U < 8)))) [] []) else k (Res.mk (.sc (.bool false)) [] []) else k (Res.mk (.sc (.bool false)) [] []) else k (Res.mk (.sc (.bool false)) [] [])
theorem e91 (f : Nat) (a_D : Int) (a_U : Int) (k : Res → Option Res) : evFn tau F91 Try.f91 (Try.f91.body.get!) an91 [.ro] 0 [.st 45 [.sc (.int .i64 a_D), .sc (.int .i64 a_U)]] [] k = g91 f a_D a_U k := by kernel_rfl
theorem it91 (f : Nat) : items (Try.f91.body.get!) an91 = [] := by kernel_rfl
theorem ia91 (f : Nat) : ∀ q ∈ items (Try.f91.body.get!) an91, q.Ok tau Try.prog 0 := by
  rw [it91 f]; intro q hq; cases hq
theorem fo91 : Try.prog.funcs[91]? = some Try.f91 := by kernel_rfl
theorem bo91 : Try.f91.body = some (Try.f91.body.get!) := by kernel_rfl
theorem en91 : Enters Try.prog 91 := enters_of fo91 (by kernel_rfl) bo91
noncomputable def run91 : List PV → List Ent → (Res → Option Res) → Option Res
  | [.st 45 [.sc (.int .i64 a_D), .sc (.int .i64 a_U)]], [], k => g91 0 a_D a_U k
  | _, _, _ => none
noncomputable def s91 : Sig := { own := [], run := run91 }
theorem ok91 : CallOk tau Try.prog 91 s91 := fn_ok tabOk F91_ok mixed fo91 bo91 an91 [.ro] 0 [] run91 (ia91 0) fun xs es k res hr => by
  unfold run91 at hr
  split at hr
  · exact ⟨rfl, 0, (e91 0 _ _  _).trans hr⟩
  · cases hr
end Go.Proofs.Ytcklhipdldpkhaa.Rx

-- FN ref16.domain | ref16.Wave | ref16.number | ref8.User
namespace Go.Proofs.Ytcklhipdldpkhaa.Rx
open Go
set_option linter.unusedVariables false
set_option linter.unusedSimpArgs false
def inZ (x m : Int) : Bool := decide (x ≥ 0) && decide (x ≤ m)
def inA0 : List Int → Bool
  | x :: m :: r => inZ x m && inA0 r
  | _ => true
noncomputable def inA : List Int → Bool := hid inA0
theorem inA_eq (l : List Int) : inA l = inA0 l := by rw [inA, hid_eq]
theorem inA_1 (a b : Int) : inA [a, b] = inZ a b := by rw [inA_eq]; simp [inA0]
theorem inA_2 (a b c d : Int) : inA [a, b, c, d] = (inZ a b && inZ c d) := by rw [inA_eq]; simp [inA0]
noncomputable def run89' : List PV → List Ent → (Res → Option Res) → Option Res
  | [.sc (.int .i64 n)], [], k => k ⟨.sc (.bool (inA [n, 2])), [], []⟩
  | _, _, _ => none
noncomputable def s89' : Sig := { own := [], run := run89' }
theorem ok89' : CallOk tau Try.prog 89 s89' := ok89.of fun xs es k res hr => by
  change run89' xs es k = some res at hr
  unfold run89' at hr
  split at hr
  · rename_i n
    show g89 0 n k = some res
    rw [inA_1] at hr
    unfold g89
    unfold inZ at hr
    by_cases h1 : n ≥ 0 <;> by_cases h2 : n < 3 <;> simp [h1, h2, show (n ≤ 2) ↔ (n < 3) from by omega] at hr ⊢ <;> exact hr
  · cases hr
noncomputable def run90' : List PV → List Ent → (Res → Option Res) → Option Res
  | [.st 34 [.sc (.int .i64 a), .sc (.int .i64 b)]], [], k => k ⟨.sc (.bool (inA [a, 2, b, 99])), [], []⟩
  | _, _, _ => none
noncomputable def s90' : Sig := { own := [], run := run90' }
theorem ok90' : CallOk tau Try.prog 90 s90' := ok90.of fun xs es k res hr => by
  change run90' xs es k = some res at hr
  unfold run90' at hr
  split at hr
  · rename_i a b
    show g90 0 a b k = some res
    rw [inA_2] at hr
    unfold g90
    unfold inZ at hr
    by_cases h1 : a ≥ 0 <;> by_cases h2 : a < 3 <;> by_cases h3 : b ≥ 0 <;> by_cases h4 : b ≤ 99 <;> simp [h1, h2, h3, h4, show (a ≤ 2) ↔ (a < 3) from by omega] at hr ⊢ <;> exact hr
  · cases hr
noncomputable def run91' : List PV → List Ent → (Res → Option Res) → Option Res
  | [.st 45 [.sc (.int .i64 a), .sc (.int .i64 b)]], [], k => k ⟨.sc (.bool (inA [a, 2, b, 7])), [], []⟩
  | _, _, _ => none
noncomputable def s91' : Sig := { own := [], run := run91' }
theorem ok91' : CallOk tau Try.prog 91 s91' := ok91.of fun xs es k res hr => by
  change run91' xs es k = some res at hr
  unfold run91' at hr
  split at hr
  · rename_i a b
    show g91 0 a b k = some res
    rw [inA_2] at hr
    unfold g91
    unfold inZ at hr
    by_cases h1 : a ≥ 0 <;> by_cases h2 : a < 3 <;> by_cases h3 : b ≥ 0 <;> by_cases h4 : b < 8 <;> simp [h1, h2, h3, h4, show (a ≤ 2) ↔ (a < 3) from by omega, show (b ≤ 7) ↔ (b < 8) from by omega] at hr ⊢ <;> exact hr
  · cases hr
noncomputable def run92' : List PV → List Ent → (Res → Option Res) → Option Res
  | [.sc (.int .i64 a), .sc (.int .i64 b)], [], k => k ⟨.sc (.bool (inA [a, b])), [], []⟩
  | _, _, _ => none
noncomputable def s92' : Sig := { own := [], run := run92' }
theorem ok92' : CallOk tau Try.prog 92 s92' := ok92.of fun xs es k res hr => by
  change run92' xs es k = some res at hr
  unfold run92' at hr
  split at hr
  · rename_i a b
    show g92 0 a b k = some res
    rw [inA_1] at hr
    unfold g92
    unfold inZ at hr
    by_cases h1 : a ≥ 0 <;> by_cases h2 : a ≤ b <;> simp [h1, h2] at hr ⊢ <;> exact hr
  · cases hr
end Go.Proofs.Ytcklhipdldpkhaa.Rx

-- FN ref16.Bytes
namespace Go.Proofs.Ytcklhipdldpkhaa.Rx
open Go
set_option linter.unusedVariables false
set_option linter.unusedSimpArgs false
set_option maxRecDepth 100000
set_option maxHeartbeats 1000000
noncomputable def run34' : List PV → List Ent → (Res → Option Res) → Option Res
  | [.st 31 [.ro 5 z0 f0 k0, .ro 5 z1 f1 k1, .ro 5 z2 f2 k2], .st 54 [.sc (.int .i64 kd), .sc (.int .i64 fr), .sc (.int .i64 to), .st 34 [.sc (.int .i64 wh), .sc (.int .i64 wn)], .st 45 [.sc (.int .i64 cd), .sc (.int .i64 cu)], .sc (.int .i64 ve), .sc (.int .i64 co), .st 45 [.sc (.int .i64 ad), .sc (.int .i64 au)], .sc (.int .i64 su), .sc (.int .i64 er), .ro 29 z f b]], [], k => bif inA [fr, 2] && (rOk b && (kOk k0 && (kOk k1 && kOk k2))) then k ⟨.ow 5 16 [] 0 (wB ⟨[.ro 5 z0 f0 k0, .ro 5 z1 f1 k1, .ro 5 z2 f2 k2], ⟨kd, fr, to, wh, wn, cd, cu, ve, co, ad, au, su, er⟩, b⟩).length none, [], [.vec false 5 false (pu .u8 (wB ⟨[.ro 5 z0 f0 k0, .ro 5 z1 f1 k1, .ro 5 z2 f2 k2], ⟨kd, fr, to, wh, wn, cd, cu, ve, co, ad, au, su, er⟩, b⟩))]⟩ else none
  | _, _, _ => none
noncomputable def s34' : Sig := { own := [], run := run34' }
theorem g34_eq (z0 f0 z1 f1 z2 f2 z f : Bool) (k0 k1 k2 b : List PV) (kd fr to wh wn cd cu ve co ad au su er : Int) (hfr : inA [fr, 2] = true) (hb : rOk b = true) (h0 : kOk k0 = true) (h1 : kOk k1 = true) (h2 : kOk k2 = true) (k : Res → Option Res) :
    g34 0 z0 f0 k0 z1 f1 k1 z2 f2 k2 kd fr to wh wn cd cu ve co ad au su er z f b k = k ⟨.ow 5 16 [] 0 (wB ⟨[.ro 5 z0 f0 k0, .ro 5 z1 f1 k1, .ro 5 z2 f2 k2], ⟨kd, fr, to, wh, wn, cd, cu, ve, co, ad, au, su, er⟩, b⟩).length none, [], [.vec false 5 false (pu .u8 (wB ⟨[.ro 5 z0 f0 k0, .ro 5 z1 f1 k1, .ro 5 z2 f2 k2], ⟨kd, fr, to, wh, wn, cd, cu, ve, co, ad, au, su, er⟩, b⟩))]⟩ := by
  have hsm := wB0_small (w := ⟨[], ⟨kd, fr, to, wh, wn, cd, cu, ve, co, ad, au, su, er⟩, b⟩) hb
  have hw0 : wM ⟨[], ⟨kd, fr, to, wh, wn, cd, cu, ve, co, ad, au, su, er⟩, b⟩ = wB0 ⟨[.ro 5 z0 f0 k0, .ro 5 z1 f1 k1, .ro 5 z2 f2 k2], ⟨kd, fr, to, wh, wn, cd, cu, ve, co, ad, au, su, er⟩, b⟩ := wM_eq _
  have hs2 : wB0 ⟨[], ⟨kd, fr, to, wh, wn, cd, cu, ve, co, ad, au, su, er⟩, b⟩ = wB0 ⟨[.ro 5 z0 f0 k0, .ro 5 z1 f1 k1, .ro 5 z2 f2 k2], ⟨kd, fr, to, wh, wn, cd, cu, ve, co, ad, au, su, er⟩, b⟩ := rfl
  rw [hs2] at hsm
  rw [inA_1] at hfr
  have hfr' : 0 ≤ fr ∧ fr ≤ 2 := by simpa [inZ] using hfr
  have hin : innB fr 2 = true := hfr
  have hK : ∃ zz ff kk, getP (PV.st 31 [.ro 5 z0 f0 k0, .ro 5 z1 f1 k1, .ro 5 z2 f2 k2]) [fr.toNat] = .ro 5 zz ff kk ∧ kOk kk = true ∧ keyF ⟨[.ro 5 z0 f0 k0, .ro 5 z1 f1 k1, .ro 5 z2 f2 k2], fr⟩ = kk := by
    have hkf : keyF ⟨[.ro 5 z0 f0 k0, .ro 5 z1 f1 k1, .ro 5 z2 f2 k2], fr⟩ = (getP (PV.st 31 [.ro 5 z0 f0 k0, .ro 5 z1 f1 k1, .ro 5 z2 f2 k2]) [fr.toNat]).els := by rw [keyF_eq, keyF0, hin]; rfl
    have : fr = 0 ∨ fr = 1 ∨ fr = 2 := by omega
    rcases this with h | h | h <;> subst h
    · exact ⟨z0, f0, k0, rfl, h0, hkf⟩
    · exact ⟨z1, f1, k1, rfl, h1, hkf⟩
    · exact ⟨z2, f2, k2, rfl, h2, hkf⟩
  obtain ⟨zz, ff, kk, hK, hkk, hkf⟩ := hK
  unfold kOk at hkk
  rw [Bool.and_eq_true, decide_eq_true_eq] at hkk
  have hL := wB_length ⟨[.ro 5 z0 f0 k0, .ro 5 z1 f1 k1, .ro 5 z2 f2 k2], ⟨kd, fr, to, wh, wn, cd, cu, ve, co, ad, au, su, er⟩, b⟩
  have hwB := wB_eq ⟨[.ro 5 z0 f0 k0, .ro 5 z1 f1 k1, .ro 5 z2 f2 k2], ⟨kd, fr, to, wh, wn, cd, cu, ve, co, ad, au, su, er⟩, b⟩
  simp only [] at hwB
  rw [hkf] at hwB
  unfold g34
  rw [hw0]
  generalize wB0 ⟨[.ro 5 z0 f0 k0, .ro 5 z1 f1 k1, .ro 5 z2 f2 k2], ⟨kd, fr, to, wh, wn, cd, cu, ve, co, ad, au, su, er⟩, b⟩ = W at *
  have e2 : List.take 32 (pu .u8 (macP (ints kk) W)) = pu .u8 (macP (ints kk) W) := List.take_of_length_le (by rw [pu_length, macP_length]; exact Nat.le_refl _)
  have htk : List.take W.length (pu .u8 W) = pu .u8 W := List.take_of_length_le (by simp)
  simp only [hK, PV.els, PV.isRo, htk, ints_pu, allInt_pu, e2, pu_length, macP_length]
  refine (bif_t hb).trans ((bif_t (by simp [zi]; omega)).trans ((bif_t (by simp)).trans ((bif_t (by rw [hkk.1]; simp; omega)).trans ((bif_t (by simp only [roomy, Nat.mul_one, Bool.and_true, decide_eq_true_eq]; omega)).trans ?_))))
  rw [hL, ← pu_append, ← hwB]
theorem ok34' : CallOk tau Try.prog 34 s34' := CallOk.mk' fun xs es k res hl hr => by
  change run34' xs es k = some res at hr
  unfold run34' at hr
  split at hr
  · rename_i z0 f0 k0 z1 f1 k1 z2 f2 k2 kd fr to wh wn cd cu ve co ad au su er z f b
    obtain ⟨hc, hr⟩ := of_bif hr
    simp only [Bool.and_eq_true] at hc
    have hg := (g34_eq z0 f0 z1 f1 z2 f2 z f k0 k1 k2 b kd fr to wh wn cd cu ve co ad au su er hc.1 hc.2.1 hc.2.2.1 hc.2.2.2.1 hc.2.2.2.2 k).trans hr
    exact fn_at tabOk F34_ok mixed fo34 bo34 an34 [] 0 0 (ia34 0) hl rfl ((e34 0 z0 f0 k0 z1 f1 k1 z2 f2 k2 kd fr to wh wn cd cu ve co ad au su er z f b k).trans hg)
  · cases hr
end Go.Proofs.Ytcklhipdldpkhaa.Rx

namespace Go.Proofs.Ytcklhipdldpkhaa.Rx
open Go
set_option linter.unusedVariables false
set_option maxRecDepth 100000
set_option maxHeartbeats 0
noncomputable def F82 : Fns := F0
theorem F82_ok : FnsOk tau Try.prog F82 := F0_ok
def an82 : An := (.seq .leaf (.seq .leaf .leaf))
noncomputable def g82 (f : Nat) (b_z : Bool) (b_f : Bool) (b : List PV) (k : Res → Option Res) : Option Res := k (Res.mk (.ptr 16 []) [] [.box false 138 (PV.st 138 [.ro 5 b_z b_f b, .sc (.int .i64 0), .sc (.int .i64 0)])])
theorem e82 (f : Nat) (b_z : Bool) (b_f : Bool) (b : List PV) (k : Res → Option Res) : evFn tau F82 Try.f82 (Try.f82.body.get!) an82 [.any] 0 [.ro 5 b_z b_f b] [] k = g82 f b_z b_f b k := by kernel_rfl
theorem it82 (f : Nat) : items (Try.f82.body.get!) an82 = [] := by kernel_rfl
theorem ia82 (f : Nat) : ∀ q ∈ items (Try.f82.body.get!) an82, q.Ok tau Try.prog 0 := by
  rw [it82 f]; intro q hq; cases hq
theorem fo82 : Try.prog.funcs[82]? = some Try.f82 := by kernel_rfl
theorem bo82 : Try.f82.body = some (Try.f82.body.get!) := by kernel_rfl
theorem en82 : Enters Try.prog 82 := enters_of fo82 (by kernel_rfl) bo82
noncomputable def run82 : List PV → List Ent → (Res → Option Res) → Option Res
  | [.ro 5 b_z b_f b], [], k => g82 0 b_z b_f b k
  | _, _, _ => none
noncomputable def s82 : Sig := { own := [], run := run82 }
theorem ok82 : CallOk tau Try.prog 82 s82 := fn_ok tabOk F82_ok mixed fo82 bo82 an82 [.any] 0 [] run82 (ia82 0) fun xs es k res hr => by
  unfold run82 at hr
  split at hr
  · exact ⟨rfl, 0, (e82 0 _ _ _  _).trans hr⟩
  · cases hr
end Go.Proofs.Ytcklhipdldpkhaa.Rx

namespace Go.Proofs.Ytcklhipdldpkhaa.Rx
open Go
set_option linter.unusedVariables false
set_option maxRecDepth 100000
set_option maxHeartbeats 0
noncomputable def F85 : Fns := F0
theorem F85_ok : FnsOk tau Try.prog F85 := F0_ok
def an85 : An := (.seq .leaf (.cond .leaf .leaf))
noncomputable def g85 (f : Nat) (r_B_z : Bool) (r_B_f : Bool) (r_B : List PV) (r_P : Int) (r_Err : Int) (e : Int) (k : Res → Option Res) : Option Res := bif r_Err == 0 then k (Res.mk (.tup []) [.box false 138 (PV.st 138 [.ro 5 r_B_z r_B_f r_B, .sc (.int .i64 r_P), .sc (.int .i64 e)])] []) else k (Res.mk (.tup []) [.box false 138 (PV.st 138 [.ro 5 r_B_z r_B_f r_B, .sc (.int .i64 r_P), .sc (.int .i64 r_Err)])] [])
theorem e85 (f : Nat) (r_B_z : Bool) (r_B_f : Bool) (r_B : List PV) (r_P : Int) (r_Err : Int) (e : Int) (k : Res → Option Res) : evFn tau F85 Try.f85 (Try.f85.body.get!) an85 [] 0 [.ptr 0 [], .sc (.int .i64 e)] [.box false 138 (.st 138 [.ro 5 r_B_z r_B_f r_B, .sc (.int .i64 r_P), .sc (.int .i64 r_Err)])] k = g85 f r_B_z r_B_f r_B r_P r_Err e k := by kernel_rfl
theorem it85 (f : Nat) : items (Try.f85.body.get!) an85 = [] := by kernel_rfl
theorem ia85 (f : Nat) : ∀ q ∈ items (Try.f85.body.get!) an85, q.Ok tau Try.prog 1 := by
  rw [it85 f]; intro q hq; cases hq
theorem fo85 : Try.prog.funcs[85]? = some Try.f85 := by kernel_rfl
theorem bo85 : Try.f85.body = some (Try.f85.body.get!) := by kernel_rfl
theorem en85 : Enters Try.prog 85 := enters_of fo85 (by kernel_rfl) bo85
noncomputable def run85 : List PV → List Ent → (Res → Option Res) → Option Res
  | [.ptr 0 [], .sc (.int .i64 e)], [.box false 138 (.st 138 [.ro 5 r_B_z r_B_f r_B, .sc (.int .i64 r_P), .sc (.int .i64 r_Err)])], k => g85 0 r_B_z r_B_f r_B r_P r_Err e k
  | _, _, _ => none
noncomputable def s85 : Sig := { own := [], run := run85 }
theorem ok85 : CallOk tau Try.prog 85 s85 := fn_ok tabOk F85_ok mixed fo85 bo85 an85 [] 1 [] run85 (ia85 0) fun xs es k res hr => by
  unfold run85 at hr
  split at hr
  · exact ⟨rfl, 0, (e85 0 _ _ _ _ _ _  _).trans hr⟩
  · cases hr
end Go.Proofs.Ytcklhipdldpkhaa.Rx

namespace Go.Proofs.Ytcklhipdldpkhaa.Rx
open Go
set_option linter.unusedVariables false
set_option maxRecDepth 100000
set_option maxHeartbeats 0
noncomputable def F88 : Fns := F0
theorem F88_ok : FnsOk tau Try.prog F88 := F0_ok
def an88 : An := (.seq .leaf (.seq (.seq .leaf (.cond (.seq .leaf .leaf) .leaf)) (.seq .leaf .leaf)))
noncomputable def g88 (f : Nat) (r_B_z : Bool) (r_B_f : Bool) (r_B : List PV) (r_P : Int) (r_Err : Int) (k : Res → Option Res) : Option Res := bif r_Err == 0 then bif decide (r_P < zi r_B.length) then k (Res.mk (.sc (.int .i64 9)) [.box false 138 (PV.st 138 [.ro 5 r_B_z r_B_f r_B, .sc (.int .i64 r_P), .sc (.int .i64 r_Err)])] []) else k (Res.mk (.sc (.int .i64 r_Err)) [.box false 138 (PV.st 138 [.ro 5 r_B_z r_B_f r_B, .sc (.int .i64 r_P), .sc (.int .i64 r_Err)])] []) else k (Res.mk (.sc (.int .i64 r_Err)) [.box false 138 (PV.st 138 [.ro 5 r_B_z r_B_f r_B, .sc (.int .i64 r_P), .sc (.int .i64 r_Err)])] [])
theorem e88 (f : Nat) (r_B_z : Bool) (r_B_f : Bool) (r_B : List PV) (r_P : Int) (r_Err : Int) (k : Res → Option Res) : evFn tau F88 Try.f88 (Try.f88.body.get!) an88 [.ro] 0 [.ptr 0 []] [.box false 138 (.st 138 [.ro 5 r_B_z r_B_f r_B, .sc (.int .i64 r_P), .sc (.int .i64 r_Err)])] k = g88 f r_B_z r_B_f r_B r_P r_Err k := by kernel_rfl
theorem it88 (f : Nat) : items (Try.f88.body.get!) an88 = [] := by kernel_rfl
theorem ia88 (f : Nat) : ∀ q ∈ items (Try.f88.body.get!) an88, q.Ok tau Try.prog 1 := by
  rw [it88 f]; intro q hq; cases hq
theorem fo88 : Try.prog.funcs[88]? = some Try.f88 := by kernel_rfl
theorem bo88 : Try.f88.body = some (Try.f88.body.get!) := by kernel_rfl
theorem en88 : Enters Try.prog 88 := enters_of fo88 (by kernel_rfl) bo88
noncomputable def run88 : List PV → List Ent → (Res → Option Res) → Option Res
  | [.ptr 0 []], [.box false 138 (.st 138 [.ro 5 r_B_z r_B_f r_B, .sc (.int .i64 r_P), .sc (.int .i64 r_Err)])], k => g88 0 r_B_z r_B_f r_B r_P r_Err k
  | _, _, _ => none
noncomputable def s88 : Sig := { own := [], run := run88 }
theorem ok88 : CallOk tau Try.prog 88 s88 := fn_ok tabOk F88_ok mixed fo88 bo88 an88 [.ro] 1 [] run88 (ia88 0) fun xs es k res hr => by
  unfold run88 at hr
  split at hr
  · exact ⟨rfl, 0, (e88 0 _ _ _ _ _  _).trans hr⟩
  · cases hr
end Go.Proofs.Ytcklhipdldpkhaa.Rx

namespace Go.Proofs.Ytcklhipdldpkhaa.Rx
open Go
set_option linter.unusedVariables false
set_option maxRecDepth 100000
set_option maxHeartbeats 0
def N38 : Nat := 180
noncomputable def F38 : Fns := addF 92 s92' (addF 91 s91' (addF 90 s90' (addF 89 s89' (addF 88 s88 (addF 87 s87' (addF 86 s86' (addF 85 s85 (addF 84 s84' (addF 83 s83' (addF 82 s82 (addF 36 s36' (F0))))))))))))
theorem F38_ok : FnsOk tau Try.prog F38 := ((((((((((((F0_ok).add ok36' en36).add ok82 en82).add ok83' en83).add ok84' en84).add ok85 en85).add ok86' en86).add ok87' en87).add ok88 en88).add ok89' en89).add ok90' en90).add ok91' en91).add ok92' en92
noncomputable def c38_0 : Code := subC (Try.f38.body.get!) [1, 1, 1, 1, 1, 1, 1, 1, 1, 1, 1, 1, 1, 1, 1, 1, 1, 1, 0, 1, 0, 0]
def nm38_0 : Nm := [(1, .any), (2, .any), (4, .any), (6, .any), (7, .bx (.st [.any, .any, .any, .any, .any, .any, .any, .any, .any, .any, .own])), (8, .any), (9, .any)]
def nx38_0 : Nm := [(1, .any), (2, .any), (4, .any), (6, .any), (7, .any)]
def x38_0 : An := (.seq (.seq .leaf (.cond .leaf .leaf)) (.seq (.block none .leaf) .leaf))
def an38 (r0 : RunL) : An := (.seq .leaf (.seq (.seq .leaf (.cond (.seq .leaf .leaf) .leaf)) (.seq .leaf (.seq .leaf (.seq .leaf (.seq .leaf (.seq .leaf (.seq .leaf (.seq .leaf (.seq .leaf (.seq .leaf (.seq .leaf (.seq .leaf (.seq .leaf (.seq .leaf (.seq .leaf (.seq .leaf (.seq (.seq .leaf (.cond .leaf .leaf)) (.seq (.seq .leaf (.block none (.sum nm38_0 N38 r0))) (.seq .leaf (.seq .leaf (.seq (.seq .leaf (.cond (.seq .leaf .leaf) .leaf)) (.seq (.seq .leaf (.cond (.seq .leaf .leaf) .leaf)) (.seq (.seq .leaf (.cond (.seq .leaf .leaf) .leaf)) (.seq (.seq .leaf (.cond (.seq .leaf .leaf) .leaf)) (.seq .leaf .leaf))))))))))))))))))))))))))
noncomputable def lpS38_0 (f : Nat) (rc : Bool → Bool → List PV → Int → Int → Bool → Bool → List PV → Bool → Bool → List PV → Bool → Bool → List PV → Int → Int → Int → Int → Int → Int → Int → Int → Int → Int → Int → Int → Int → List PV → Bool → Bool → List PV → Int → Int → Int → Int → Int → Int → Int → Int → Int → Int → Int → Int → Int → Int → Int → Nat → Bool → List PV → Option Res) (k0 : Bool → Bool → List PV → Bool → Bool → List PV → Bool → Bool → List PV → Bool → Bool → List PV → Int → Int → Int → Int → Int → Int → Int → Int → Int → Int → Int → Int → Int → List PV → Bool → Bool → List PV → Int → Int → Int → Int → Int → Int → Int → Int → Int → Int → Int → Int → Int → Int → Int → Nat → Bool → List PV → Option Res) (v0 : Bool) (v1 : Bool) (v2 : List PV) (v3 : Int) (v4 : Int) (v5 : Bool) (v6 : Bool) (v7 : List PV) (v8 : Bool) (v9 : Bool) (v10 : List PV) (v11 : Bool) (v12 : Bool) (v13 : List PV) (v14 : Int) (v15 : Int) (v16 : Int) (v17 : Int) (v18 : Int) (v19 : Int) (v20 : Int) (v21 : Int) (v22 : Int) (v23 : Int) (v24 : Int) (v25 : Int) (v26 : Int) (v27 : List PV) (v28 : Bool) (v29 : Bool) (v30 : List PV) (v31 : Int) (v32 : Int) (v33 : Int) (v34 : Int) (v35 : Int) (v36 : Int) (v37 : Int) (v38 : Int) (v39 : Int) (v40 : Int) (v41 : Int) (v42 : Int) (v43 : Int) (v44 : Int) (v45 : Int) (v46 : Nat) (v47 : Bool) (v48 : List PV) : Option Res := bif decide (v4 < v3) then bif v32 == 0 then bif okT (RT.mk v30 v31 v32) then bif roomy (txtVT (RT.mk v30 v31 v32)).size 1 && true then bif roomy (v46 + 1) 24 && true then rc v0 v1 v2 v3 (IntKind.i64.wrap (v4 + 1)) v5 v6 v7 v8 v9 v10 v11 v12 v13 v14 v15 v16 v17 v18 v19 v20 v21 v22 v23 v24 v25 v26 v27 v28 v29 ((txtT (RT.mk v30 v31 v32)).B) ((txtT (RT.mk v30 v31 v32)).P) ((txtT (RT.mk v30 v31 v32)).e) v33 v34 v35 v36 v37 v38 v39 v40 v41 v42 v43 v44 v45 (v46 + 1) (v47 && false) (List.take v46 v48 ++ [.ro 5 false false (List.take (txtVT (RT.mk v30 v31 v32)).size (ofBytes (txtVT (RT.mk v30 v31 v32))))]) else none else none else none else k0 v0 v1 v2 v5 v6 v7 v8 v9 v10 v11 v12 v13 v14 v15 v16 v17 v18 v19 v20 v21 v22 v23 v24 v25 v26 v27 v28 v29 v30 v31 v32 v33 v34 v35 v36 v37 v38 v39 v40 v41 v42 v43 v44 v45 v46 v47 v48 else k0 v0 v1 v2 v5 v6 v7 v8 v9 v10 v11 v12 v13 v14 v15 v16 v17 v18 v19 v20 v21 v22 v23 v24 v25 v26 v27 v28 v29 v30 v31 v32 v33 v34 v35 v36 v37 v38 v39 v40 v41 v42 v43 v44 v45 v46 v47 v48
noncomputable def lp38_0 (f : Nat) (k0 : Bool → Bool → List
  PV → Bool → Bool → List
  PV → Bool → Bool → List
  PV → Bool → Bool → List
  PV → Int → Int → Int → Int → Int → Int → Int → Int → Int → Int → Int → Int → Int → List
  PV → Bool → Bool → List
  PV → Int → Int → Int → Int → Int → Int → Int → Int → Int → Int → Int → Int → Int → Int → Int → Nat → Bool → List
  PV → Option Res) : Nat → Bool → Bool → List
  PV → Int → Int → Bool → Bool → List
  PV → Bool → Bool → List
  PV → Bool → Bool → List
  PV → Int → Int → Int → Int → Int → Int → Int → Int → Int → Int → Int → Int → Int → List
  PV → Bool → Bool → List PV → Int → Int → Int → Int → Int → Int → Int → Int → Int → Int → Int → Int → Int → Int → Int → Nat → Bool → List PV → Option Res
  | 0, _, _, _, _, _, _, _, _, _, _, _, _, _, _, _, _, _, _, _, _, _, _, _, _, _, _, _, _, _, _, _, _, _, _, _, _, _, _, _, _, _, _, _, _, _, _, _, _, _ => none
  | n + 1, v0, v1, v2, v3, v4, v5, v6, v7, v8, v9, v10, v11, v12, v13, v14, v15, v16, v17, v18, v19, v20, v21, v22, v23, v24, v25, v26, v27, v28, v29, v30, v31, v32, v33, v34, v35, v36, v37, v38, v39, v40, v41, v42, v43, v44, v45, v46, v47, v48 => lpS38_0 f (lp38_0 f k0 n) k0 v0 v1 v2 v3 v4 v5 v6 v7 v8 v9 v10 v11 v12 v13 v14 v15 v16 v17 v18 v19 v20 v21 v22 v23 v24 v25 v26 v27 v28 v29 v30 v31 v32 v33 v34 v35 v36 v37 v38 v39 v40 v41 v42 v43 v44 v45 v46 v47 v48
theorem lpR38_0 (f : Nat) (k : Kont) (n : Nat) (v0 : Bool) (v1 : Bool) (v2 : List PV) (v3 : Int) (v4 : Int) (v5 : Bool) (v6 : Bool) (v7 : List PV) (v8 : Bool) (v9 : Bool) (v10 : List PV) (v11 : Bool) (v12 : Bool) (v13 : List PV) (v14 : Int) (v15 : Int) (v16 : Int) (v17 : Int) (v18 : Int) (v19 : Int) (v20 : Int) (v21 : Int) (v22 : Int) (v23 : Int) (v24 : Int) (v25 : Int) (v26 : Int) (v27 : List PV) (v28 : Bool) (v29 : Bool) (v30 : List PV) (v31 : Int) (v32 : Int) (v33 : Int) (v34 : Int) (v35 : Int) (v36 : Int) (v37 : Int) (v38 : Int) (v39 : Int) (v40 : Int) (v41 : Int) (v42 : Int) (v43 : Int) (v44 : Int) (v45 : Int) (v46 : Nat) (v47 : Bool) (v48 : List PV) : evLoop tau 0 nm38_0 (fun s k => ev tau F38 0 0 c38_0 (x38_0 ) s k) (n + 1) (fillS nm38_0 N38 [.ro 5 v0 v1 v2, .ptr 2896 [], .ptr 2897 [], .ptr 2898 [], .ptr 2899 [], .sc (.int .i64 v3), .sc (.int .i64 v4)] [(2896, .box false 31 (PV.st 31 [.ro 5 v5 v6 v7, .ro 5 v8 v9 v10, .ro 5 v11 v12 v13])), (2897, .box false 54 (PV.st 54 [.sc (.int .i64 v14), .sc (.int .i64 v15), .sc (.int .i64 v16), .st 34 [.sc (.int .i64 v17), .sc (.int .i64 v18)], .st 45 [.sc (.int .i64 v19), .sc (.int .i64 v20)], .sc (.int .i64 v21), .sc (.int .i64 v22), .st 45 [.sc (.int .i64 v23), .sc (.int .i64 v24)], .sc (.int .i64 v25), .sc (.int .i64 v26), .ro 29 true true v27])), (2898, .box false 138 (PV.st 138 [.ro 5 v28 v29 v30, .sc (.int .i64 v31), .sc (.int .i64 v32)])), (2899, .box false 54 (PV.st 54 [.sc (.int .i64 v33), .sc (.int .i64 v34), .sc (.int .i64 v35), .st 34 [.sc (.int .i64 v36), .sc (.int .i64 v37)], .st 45 [.sc (.int .i64 v38), .sc (.int .i64 v39)], .sc (.int .i64 v40), .sc (.int .i64 v41), .st 45 [.sc (.int .i64 v42), .sc (.int .i64 v43)], .sc (.int .i64 v44), .sc (.int .i64 v45), .ow 29 2900 [] 0 v46 none])), (2900, .vec false 29 v47 v48)]) (kNorm tau 0 nx38_0 k) = lpS38_0 f (fun v0 v1 v2 v3 v4 v5 v6 v7 v8 v9 v10 v11 v12 v13 v14 v15 v16 v17 v18 v19 v20 v21 v22 v23 v24 v25 v26 v27 v28 v29 v30 v31 v32 v33 v34 v35 v36 v37 v38 v39 v40 v41 v42 v43 v44 v45 v46 v47 v48 => evLoop tau 0 nm38_0 (fun s k => ev tau F38 0 0 c38_0 (x38_0 ) s k) n (fillS nm38_0 N38 [.ro 5 v0 v1 v2, .ptr 2896 [], .ptr 2897 [], .ptr 2898 [], .ptr 2899 [], .sc (.int .i64 v3), .sc (.int .i64 v4)] [(2896, .box false 31 (PV.st 31 [.ro 5 v5 v6 v7, .ro 5 v8 v9 v10, .ro 5 v11 v12 v13])), (2897, .box false 54 (PV.st 54 [.sc (.int .i64 v14), .sc (.int .i64 v15), .sc (.int .i64 v16), .st 34 [.sc (.int .i64 v17), .sc (.int .i64 v18)], .st 45 [.sc (.int .i64 v19), .sc (.int .i64 v20)], .sc (.int .i64 v21), .sc (.int .i64 v22), .st 45 [.sc (.int .i64 v23), .sc (.int .i64 v24)], .sc (.int .i64 v25), .sc (.int .i64 v26), .ro 29 true true v27])), (2898, .box false 138 (PV.st 138 [.ro 5 v28 v29 v30, .sc (.int .i64 v31), .sc (.int .i64 v32)])), (2899, .box false 54 (PV.st 54 [.sc (.int .i64 v33), .sc (.int .i64 v34), .sc (.int .i64 v35), .st 34 [.sc (.int .i64 v36), .sc (.int .i64 v37)], .st 45 [.sc (.int .i64 v38), .sc (.int .i64 v39)], .sc (.int .i64 v40), .sc (.int .i64 v41), .st 45 [.sc (.int .i64 v42), .sc (.int .i64 v43)], .sc (.int .i64 v44), .sc (.int .i64 v45), .ow 29 2900 [] 0 v46 none])), (2900, .vec false 29 v47 v48)]) (kNorm tau 0 nx38_0 k)) (fun x0 x1 x2 x3 x4 x5 x6 x7 x8 x9 x10 x11 x12 x13 x14 x15 x16 x17 x18 x19 x20 x21 x22 x23 x24 x25 x26 x27 x28 x29 x30 x31 x32 x33 x34 x35 x36 x37 x38 x39 x40 x41 x42 x43 x44 x45 x46 => k (Ex.exit 0) (fillS nx38_0 N38 [.ro 5 x0 x1 x2, .ptr 2896 [], .ptr 2897 [], .ptr 2898 [], .ptr 2899 []] [(2896, .box false 31 (PV.st 31 [.ro 5 x3 x4 x5, .ro 5 x6 x7 x8, .ro 5 x9 x10 x11])), (2897, .box false 54 (PV.st 54 [.sc (.int .i64 x12), .sc (.int .i64 x13), .sc (.int .i64 x14), .st 34 [.sc (.int .i64 x15), .sc (.int .i64 x16)], .st 45 [.sc (.int .i64 x17), .sc (.int .i64 x18)], .sc (.int .i64 x19), .sc (.int .i64 x20), .st 45 [.sc (.int .i64 x21), .sc (.int .i64 x22)], .sc (.int .i64 x23), .sc (.int .i64 x24), .ro 29 true true x25])), (2898, .box false 138 (PV.st 138 [.ro 5 x26 x27 x28, .sc (.int .i64 x29), .sc (.int .i64 x30)])), (2899, .box false 54 (PV.st 54 [.sc (.int .i64 x31), .sc (.int .i64 x32), .sc (.int .i64 x33), .st 34 [.sc (.int .i64 x34), .sc (.int .i64 x35)], .st 45 [.sc (.int .i64 x36), .sc (.int .i64 x37)], .sc (.int .i64 x38), .sc (.int .i64 x39), .st 45 [.sc (.int .i64 x40), .sc (.int .i64 x41)], .sc (.int .i64 x42), .sc (.int .i64 x43), .ow 29 2900 [] 0 x44 none])), (2900, .vec false 29 x45 x46)])) v0 v1 v2 v3 v4 v5 v6 v7 v8 v9 v10 v11 v12 v13 v14 v15 v16 v17 v18 v19 v20 v21 v22 v23 v24 v25 v26 v27 v28 v29 v30 v31 v32 v33 v34 v35 v36 v37 v38 v39 v40 v41 v42 v43 v44 v45 v46 v47 v48 := by kernel_rfl
theorem lpE38_0 (f : Nat) (k : Kont) : ∀ (n : Nat) (v0 : Bool) (v1 : Bool) (v2 : List PV) (v3 : Int) (v4 : Int) (v5 : Bool) (v6 : Bool) (v7 : List PV) (v8 : Bool) (v9 : Bool) (v10 : List PV) (v11 : Bool) (v12 : Bool) (v13 : List PV) (v14 : Int) (v15 : Int) (v16 : Int) (v17 : Int) (v18 : Int) (v19 : Int) (v20 : Int) (v21 : Int) (v22 : Int) (v23 : Int) (v24 : Int) (v25 : Int) (v26 : Int) (v27 : List PV) (v28 : Bool) (v29 : Bool) (v30 : List PV) (v31 : Int) (v32 : Int) (v33 : Int) (v34 : Int) (v35 : Int) (v36 : Int) (v37 : Int) (v38 : Int) (v39 : Int) (v40 : Int) (v41 : Int) (v42 : Int) (v43 : Int) (v44 : Int) (v45 : Int) (v46 : Nat) (v47 : Bool) (v48 : List PV), evLoop tau 0 nm38_0 (fun s k => ev tau F38 0 0 c38_0 (x38_0 ) s k) n (fillS nm38_0 N38 [.ro 5 v0 v1 v2, .ptr 2896 [], .ptr 2897 [], .ptr 2898 [], .ptr 2899 [], .sc (.int .i64 v3), .sc (.int .i64 v4)] [(2896, .box false 31 (PV.st 31 [.ro 5 v5 v6 v7, .ro 5 v8 v9 v10, .ro 5 v11 v12 v13])), (2897, .box false 54 (PV.st 54 [.sc (.int .i64 v14), .sc (.int .i64 v15), .sc (.int .i64 v16), .st 34 [.sc (.int .i64 v17), .sc (.int .i64 v18)], .st 45 [.sc (.int .i64 v19), .sc (.int .i64 v20)], .sc (.int .i64 v21), .sc (.int .i64 v22), .st 45 [.sc (.int .i64 v23), .sc (.int .i64 v24)], .sc (.int .i64 v25), .sc (.int .i64 v26), .ro 29 true true v27])), (2898, .box false 138 (PV.st 138 [.ro 5 v28 v29 v30, .sc (.int .i64 v31), .sc (.int .i64 v32)])), (2899, .box false 54 (PV.st 54 [.sc (.int .i64 v33), .sc (.int .i64 v34), .sc (.int .i64 v35), .st 34 [.sc (.int .i64 v36), .sc (.int .i64 v37)], .st 45 [.sc (.int .i64 v38), .sc (.int .i64 v39)], .sc (.int .i64 v40), .sc (.int .i64 v41), .st 45 [.sc (.int .i64 v42), .sc (.int .i64 v43)], .sc (.int .i64 v44), .sc (.int .i64 v45), .ow 29 2900 [] 0 v46 none])), (2900, .vec false 29 v47 v48)]) (kNorm tau 0 nx38_0 k) = lp38_0 f (fun x0 x1 x2 x3 x4 x5 x6 x7 x8 x9 x10 x11 x12 x13 x14 x15 x16 x17 x18 x19 x20 x21 x22 x23 x24 x25 x26 x27 x28 x29 x30 x31 x32 x33 x34 x35 x36 x37 x38 x39 x40 x41 x42 x43 x44 x45 x46 => k (Ex.exit 0) (fillS nx38_0 N38 [.ro 5 x0 x1 x2, .ptr 2896 [], .ptr 2897 [], .ptr 2898 [], .ptr 2899 []] [(2896, .box false 31 (PV.st 31 [.ro 5 x3 x4 x5, .ro 5 x6 x7 x8, .ro 5 x9 x10 x11])), (2897, .box false 54 (PV.st 54 [.sc (.int .i64 x12), .sc (.int .i64 x13), .sc (.int .i64 x14), .st 34 [.sc (.int .i64 x15), .sc (.int .i64 x16)], .st 45 [.sc (.int .i64 x17), .sc (.int .i64 x18)], .sc (.int .i64 x19), .sc (.int .i64 x20), .st 45 [.sc (.int .i64 x21), .sc (.int .i64 x22)], .sc (.int .i64 x23), .sc (.int .i64 x24), .ro 29 true true x25])), (2898, .box false 138 (PV.st 138 [.ro 5 x26 x27 x28, .sc (.int .i64 x29), .sc (.int .i64 x30)])), (2899, .box false 54 (PV.st 54 [.sc (.int .i64 x31), .sc (.int .i64 x32), .sc (.int .i64 x33), .st 34 [.sc (.int .i64 x34), .sc (.int .i64 x35)], .st 45 [.sc (.int .i64 x36), .sc (.int .i64 x37)], .sc (.int .i64 x38), .sc (.int .i64 x39), .st 45 [.sc (.int .i64 x40), .sc (.int .i64 x41)], .sc (.int .i64 x42), .sc (.int .i64 x43), .ow 29 2900 [] 0 x44 none])), (2900, .vec false 29 x45 x46)])) n v0 v1 v2 v3 v4 v5 v6 v7 v8 v9 v10 v11 v12 v13 v14 v15 v16 v17 v18 v19 v20 v21 v22 v23 v24 v25 v26 v27 v28 v29 v30 v31 v32 v33 v34 v35 v36 v37 v38 v39 v40 v41 v42 v43 v44 v45 v46 v47 v48 | 0, _, _, _, _, _, _, _, _, _, _, _, _, _, _, _, _, _, _, _, _, _, _, _, _, _, _, _, _, _, _, _, _, _, _, _, _, _, _, _, _, _, _, _, _, _, _, _, _, _ => rfl | n + 1, v0, v1, v2, v3, v4, v5, v6, v7, v8, v9, v10, v11, v12, v13, v14, v15, v16, v17, v18, v19, v20, v21, v22, v23, v24, v25, v26, v27, v28, v29, v30, v31, v32, v33, v34, v35, v36, v37, v38, v39, v40, v41, v42, v43, v44, v45, v46, v47, v48 => (lpR38_0 f k n v0 v1 v2 v3 v4 v5 v6 v7 v8 v9 v10 v11 v12 v13 v14 v15 v16 v17 v18 v19 v20 v21 v22 v23 v24 v25 v26 v27 v28 v29 v30 v31 v32 v33 v34 v35 v36 v37 v38 v39 v40 v41 v42 v43 v44 v45 v46 v47 v48).trans (congrArg (fun r => lpS38_0 f r (fun x0 x1 x2 x3 x4 x5 x6 x7 x8 x9 x10 x11 x12 x13 x14 x15 x16 x17 x18 x19 x20 x21 x22 x23 x24 x25 x26 x27 x28 x29 x30 x31 x32 x33 x34 x35 x36 x37 x38 x39 x40 x41 x42 x43 x44 x45 x46 => k (Ex.exit 0) (fillS nx38_0 N38 [.ro 5 x0 x1 x2, .ptr 2896 [], .ptr 2897 [], .ptr 2898 [], .ptr 2899 []] [(2896, .box false 31 (PV.st 31 [.ro 5 x3 x4 x5, .ro 5 x6 x7 x8, .ro 5 x9 x10 x11])), (2897, .box false 54 (PV.st 54 [.sc (.int .i64 x12), .sc (.int .i64 x13), .sc (.int .i64 x14), .st 34 [.sc (.int .i64 x15), .sc (.int .i64 x16)], .st 45 [.sc (.int .i64 x17), .sc (.int .i64 x18)], .sc (.int .i64 x19), .sc (.int .i64 x20), .st 45 [.sc (.int .i64 x21), .sc (.int .i64 x22)], .sc (.int .i64 x23), .sc (.int .i64 x24), .ro 29 true true x25])), (2898, .box false 138 (PV.st 138 [.ro 5 x26 x27 x28, .sc (.int .i64 x29), .sc (.int .i64 x30)])), (2899, .box false 54 (PV.st 54 [.sc (.int .i64 x31), .sc (.int .i64 x32), .sc (.int .i64 x33), .st 34 [.sc (.int .i64 x34), .sc (.int .i64 x35)], .st 45 [.sc (.int .i64 x36), .sc (.int .i64 x37)], .sc (.int .i64 x38), .sc (.int .i64 x39), .st 45 [.sc (.int .i64 x40), .sc (.int .i64 x41)], .sc (.int .i64 x42), .sc (.int .i64 x43), .ow 29 2900 [] 0 x44 none])), (2900, .vec false 29 x45 x46)])) v0 v1 v2 v3 v4 v5 v6 v7 v8 v9 v10 v11 v12 v13 v14 v15 v16 v17 v18 v19 v20 v21 v22 v23 v24 v25 v26 v27 v28 v29 v30 v31 v32 v33 v34 v35 v36 v37 v38 v39 v40 v41 v42 v43 v44 v45 v46 v47 v48) (by funext v0 v1 v2 v3 v4 v5 v6 v7 v8 v9 v10 v11 v12 v13 v14 v15 v16 v17 v18 v19 v20 v21 v22 v23 v24 v25 v26 v27 v28 v29 v30 v31 v32 v33 v34 v35 v36 v37 v38 v39 v40 v41 v42 v43 v44 v45 v46 v47 v48; exact lpE38_0 f k n v0 v1 v2 v3 v4 v5 v6 v7 v8 v9 v10 v11 v12 v13 v14 v15 v16 v17 v18 v19 v20 v21 v22 v23 v24 v25 v26 v27 v28 v29 v30 v31 v32 v33 v34 v35 v36 v37 v38 v39 v40 v41 v42 v43 v44 v45 v46 v47 v48))
noncomputable def r38_0 (f : Nat) : List PV → List (Nat × Ent) → Kont → Option Res
  | [.ro 5 v0 v1 v2, .ptr 2896 [], .ptr 2897 [], .ptr 2898 [], .ptr 2899 [], .sc (.int .i64 v3),
  PV.sc
    (Value.int IntKind.i64
      v4)], [(2896, .box false 31 (PV.st 31 [.ro 5 v5 v6 v7, .ro 5 v8 v9 v10, .ro 5 v11 v12 v13])),
  (2897,
    Ent.box false 54
      (PV.st 54
        [.sc (.int .i64 v14), .sc (.int .i64 v15), .sc (.int .i64 v16), .st 34 [.sc (.int .i64 v17), .sc (.int .i64 v18)],
          PV.st 45 [.sc (.int .i64 v19), .sc (.int .i64 v20)], .sc (.int .i64 v21), .sc (.int .i64 v22),
          PV.st 45 [.sc (.int .i64 v23), .sc (.int .i64 v24)], .sc (.int .i64 v25), .sc (.int .i64 v26), .ro 29 true true v27])),
  (2898, .box false 138 (PV.st 138 [.ro 5 v28 v29 v30, .sc (.int .i64 v31), .sc (.int .i64 v32)])),
  (2899,
    Ent.box false 54
      (PV.st 54
        [.sc (.int .i64 v33), .sc (.int .i64 v34), .sc (.int .i64 v35), .st 34 [.sc (.int .i64 v36), .sc (.int .i64 v37)],
          PV.st 45 [.sc (.int .i64 v38), .sc (.int .i64 v39)], .sc (.int .i64 v40), .sc (.int .i64 v41),
          PV.st 45 [.sc (.int .i64 v42), .sc (.int .i64 v43)], .sc (.int .i64 v44), .sc (.int .i64 v45), .ow 29 2900 [] 0 v46 none])),
  (2900,
    Ent.vec false 29 v47
      v48)], k => lp38_0 f (fun x0 x1 x2 x3 x4 x5 x6 x7 x8 x9 x10 x11 x12 x13 x14 x15 x16 x17 x18 x19 x20 x21 x22 x23 x24 x25 x26 x27 x28 x29 x30 x31 x32 x33 x34 x35 x36 x37 x38 x39 x40 x41 x42 x43 x44 x45 x46 => k (Ex.exit
  0) (fillS nx38_0 N38 [.ro 5 x0 x1 x2, .ptr 2896 [], .ptr 2897 [], .ptr 2898 [],
  PV.ptr 2899
    []] [(2896, .box false 31 (PV.st 31 [.ro 5 x3 x4 x5, .ro 5 x6 x7 x8, .ro 5 x9 x10 x11])),
  (2897,
    Ent.box false 54
      (PV.st 54
        [.sc (.int .i64 x12), .sc (.int .i64 x13), .sc (.int .i64 x14), .st 34 [.sc (.int .i64 x15), .sc (.int .i64 x16)],
          PV.st 45 [.sc (.int .i64 x17), .sc (.int .i64 x18)], .sc (.int .i64 x19), .sc (.int .i64 x20),
          PV.st 45 [.sc (.int .i64 x21), .sc (.int .i64 x22)], .sc (.int .i64 x23), .sc (.int .i64 x24), .ro 29 true true x25])),
  (2898, .box false 138 (PV.st 138 [.ro 5 x26 x27 x28, .sc (.int .i64 x29), .sc (.int .i64 x30)])),
  (2899,
    Ent.box false 54
      (PV.st 54
        [.sc (.int .i64 x31), .sc (.int .i64 x32), .sc (.int .i64 x33), .st 34 [.sc (.int .i64 x34), .sc (.int .i64 x35)],
          PV.st 45 [.sc (.int .i64 x36), .sc (.int .i64 x37)], .sc (.int .i64 x38), .sc (.int .i64 x39),
          PV.st 45 [.sc (.int .i64 x40), .sc (.int .i64 x41)], .sc (.int .i64 x42), .sc (.int .i64 x43), .ow 29 2900 [] 0 x44 none])),
  (2900,
    Ent.vec false 29 x45
      x46)])) f v0 v1 v2 v3 v4 v5 v6 v7 v8 v9 v10 v11 v12 v13 v14 v15 v16 v17 v18 v19 v20 v21 v22 v23 v24 v25 v26 v27 v28 v29 v30 v31 v32 v33 v34 v35 v36 v37 v38 v39 v40 v41 v42 v43 v44 v45 v46 v47 v48
  | _, _, _ => none
theorem it38_0 (f : Nat) : items c38_0 x38_0 = [] := by kernel_rfl
theorem i38_0 (f : Nat) : (Item.l c38_0 nm38_0 N38 (r38_0 f)).Ok tau Try.prog 0 := loop_item tabOk F38_ok mixed (x := x38_0) (nm2 := nx38_0) (anOk_items _ _ (by rw [it38_0 f]; intro q hq; cases hq)) fun vs hp k res hr => by
  unfold r38_0 at hr
  split at hr
  · exact ⟨f, 0, (lpE38_0 f _ f _ _ _ _ _ _ _ _ _ _ _ _ _ _ _ _ _ _ _ _ _ _ _ _ _ _ _ _ _ _ _ _ _ _ _ _ _ _ _ _ _ _ _ _ _ _ _ _ _ ).trans hr⟩
  · cases hr
noncomputable def tl38 (k : Res → Option Res) : Bool → Bool → List PV → Bool → Bool → List PV → Bool → Bool → List PV → Bool → Bool → List PV → Int → Int → Int → Int → Int → Int → Int → Int → Int → Int → Int → Int → Int → List PV → Bool → Bool → List PV → Int → Int → Int → Int → Int → Int → Int → Int → Int → Int → Int → Int → Int → Int → Int → Nat → Bool → List PV → Option Res := fun x0 x1 x2 x3 x4 x5 x6 x7 x8 x9 x10 x11 x12 x13 x14 x15 x16 x17 x18 x19 x20 x21 x22 x23 x24 x25 x26 x27 x28 x29 x30 x31 x32 x33 x34 x35 x36 x37 x38 x39 x40 x41 x42 x43 x44 x45 x46 => bif okT (RT.mk x28 x29 x30) then bif (hashT (RT.mk x28 x29 x30)).e == 0 then bif decide ((hashT (RT.mk x28 x29 x30)).P < zi (hashT (RT.mk x28 x29 x30)).B.length) then k (Res.mk (.tup [.st 54 [.sc (.int .i64 0), .sc (.int .i64 0), .sc (.int .i64 0), .st 34 [.sc (.int .i64 0), .sc (.int .i64 0)], .st 45 [.sc (.int .i64 0), .sc (.int .i64 0)], .sc (.int .i64 0), .sc (.int .i64 0), .st 45 [.sc (.int .i64 0), .sc (.int .i64 0)], .sc (.int .i64 0), .sc (.int .i64 0), .ro 29 true true []], .sc (.int .i64 9)]) [] []) else bif (hashT (RT.mk x28 x29 x30)).e != 0 then k (Res.mk (.tup [.st 54 [.sc (.int .i64 0), .sc (.int .i64 0), .sc (.int .i64 0), .st 34 [.sc (.int .i64 0), .sc (.int .i64 0)], .st 45 [.sc (.int .i64 0), .sc (.int .i64 0)], .sc (.int .i64 0), .sc (.int .i64 0), .st 45 [.sc (.int .i64 0), .sc (.int .i64 0)], .sc (.int .i64 0), .sc (.int .i64 0), .ro 29 true true []], .sc (.int .i64 (hashT (RT.mk x28 x29 x30)).e)]) [] []) else bif decide (x31 < 1) then k (Res.mk (.tup [.st 54 [.sc (.int .i64 0), .sc (.int .i64 0), .sc (.int .i64 0), .st 34 [.sc (.int .i64 0), .sc (.int .i64 0)], .st 45 [.sc (.int .i64 0), .sc (.int .i64 0)], .sc (.int .i64 0), .sc (.int .i64 0), .st 45 [.sc (.int .i64 0), .sc (.int .i64 0)], .sc (.int .i64 0), .sc (.int .i64 0), .ro 29 true true []], .sc (.int .i64 3)]) [] []) else bif decide (x31 > 5) then k (Res.mk (.tup [.st 54 [.sc (.int .i64 0), .sc (.int .i64 0), .sc (.int .i64 0), .st 34 [.sc (.int .i64 0), .sc (.int .i64 0)], .st 45 [.sc (.int .i64 0), .sc (.int .i64 0)], .sc (.int .i64 0), .sc (.int .i64 0), .st 45 [.sc (.int .i64 0), .sc (.int .i64 0)], .sc (.int .i64 0), .sc (.int .i64 0), .ro 29 true true []], .sc (.int .i64 3)]) [] []) else bif !inA [x32, 2] then k (Res.mk (.tup [.st 54 [.sc (.int .i64 0), .sc (.int .i64 0), .sc (.int .i64 0), .st 34 [.sc (.int .i64 0), .sc (.int .i64 0)], .st 45 [.sc (.int .i64 0), .sc (.int .i64 0)], .sc (.int .i64 0), .sc (.int .i64 0), .st 45 [.sc (.int .i64 0), .sc (.int .i64 0)], .sc (.int .i64 0), .sc (.int .i64 0), .ro 29 true true []], .sc (.int .i64 1)]) [] []) else bif !inA [x33, 2] then k (Res.mk (.tup [.st 54 [.sc (.int .i64 0), .sc (.int .i64 0), .sc (.int .i64 0), .st 34 [.sc (.int .i64 0), .sc (.int .i64 0)], .st 45 [.sc (.int .i64 0), .sc (.int .i64 0)], .sc (.int .i64 0), .sc (.int .i64 0), .st 45 [.sc (.int .i64 0), .sc (.int .i64 0)], .sc (.int .i64 0), .sc (.int .i64 0), .ro 29 true true []], .sc (.int .i64 1)]) [] []) else bif x32 == x33 then k (Res.mk (.tup [.st 54 [.sc (.int .i64 0), .sc (.int .i64 0), .sc (.int .i64 0), .st 34 [.sc (.int .i64 0), .sc (.int .i64 0)], .st 45 [.sc (.int .i64 0), .sc (.int .i64 0)], .sc (.int .i64 0), .sc (.int .i64 0), .st 45 [.sc (.int .i64 0), .sc (.int .i64 0)], .sc (.int .i64 0), .sc (.int .i64 0), .ro 29 true true []], .sc (.int .i64 1)]) [] []) else bif !inA [x34, 2, x35, 99] then k (Res.mk (.tup [.st 54 [.sc (.int .i64 0), .sc (.int .i64 0), .sc (.int .i64 0), .st 34 [.sc (.int .i64 0), .sc (.int .i64 0)], .st 45 [.sc (.int .i64 0), .sc (.int .i64 0)], .sc (.int .i64 0), .sc (.int .i64 0), .st 45 [.sc (.int .i64 0), .sc (.int .i64 0)], .sc (.int .i64 0), .sc (.int .i64 0), .ro 29 true true []], .sc (.int .i64 1)]) [] []) else bif !inA [x36, 2, x37, 7] then k (Res.mk (.tup [.st 54 [.sc (.int .i64 0), .sc (.int .i64 0), .sc (.int .i64 0), .st 34 [.sc (.int .i64 0), .sc (.int .i64 0)], .st 45 [.sc (.int .i64 0), .sc (.int .i64 0)], .sc (.int .i64 0), .sc (.int .i64 0), .st 45 [.sc (.int .i64 0), .sc (.int .i64 0)], .sc (.int .i64 0), .sc (.int .i64 0), .ro 29 true true []], .sc (.int .i64 1)]) [] []) else bif !inA [x40, 2, x41, 7] then k (Res.mk (.tup [.st 54 [.sc (.int .i64 0), .sc (.int .i64 0), .sc (.int .i64 0), .st 34 [.sc (.int .i64 0), .sc (.int .i64 0)], .st 45 [.sc (.int .i64 0), .sc (.int .i64 0)], .sc (.int .i64 0), .sc (.int .i64 0), .st 45 [.sc (.int .i64 0), .sc (.int .i64 0)], .sc (.int .i64 0), .sc (.int .i64 0), .ro 29 true true []], .sc (.int .i64 1)]) [] []) else bif !inA [x38, 1073741824] then k (Res.mk (.tup [.st 54 [.sc (.int .i64 0), .sc (.int .i64 0), .sc (.int .i64 0), .st 34 [.sc (.int .i64 0), .sc (.int .i64 0)], .st 45 [.sc (.int .i64 0), .sc (.int .i64 0)], .sc (.int .i64 0), .sc (.int .i64 0), .st 45 [.sc (.int .i64 0), .sc (.int .i64 0)], .sc (.int .i64 0), .sc (.int .i64 0), .ro 29 true true []], .sc (.int .i64 1)]) [] []) else bif !inA [x39, 1073741824] then k (Res.mk (.tup [.st 54 [.sc (.int .i64 0), .sc (.int .i64 0), .sc (.int .i64 0), .st 34 [.sc (.int .i64 0), .sc (.int .i64 0)], .st 45 [.sc (.int .i64 0), .sc (.int .i64 0)], .sc (.int .i64 0), .sc (.int .i64 0), .st 45 [.sc (.int .i64 0), .sc (.int .i64 0)], .sc (.int .i64 0), .sc (.int .i64 0), .ro 29 true true []], .sc (.int .i64 1)]) [] []) else bif !inA [x42, 1073741824] then k (Res.mk (.tup [.st 54 [.sc (.int .i64 0), .sc (.int .i64 0), .sc (.int .i64 0), .st 34 [.sc (.int .i64 0), .sc (.int .i64 0)], .st 45 [.sc (.int .i64 0), .sc (.int .i64 0)], .sc (.int .i64 0), .sc (.int .i64 0), .st 45 [.sc (.int .i64 0), .sc (.int .i64 0)], .sc (.int .i64 0), .sc (.int .i64 0), .ro 29 true true []], .sc (.int .i64 1)]) [] []) else bif !inA [x43, 255] then k (Res.mk (.tup [.st 54 [.sc (.int .i64 0), .sc (.int .i64 0), .sc (.int .i64 0), .st 34 [.sc (.int .i64 0), .sc (.int .i64 0)], .st 45 [.sc (.int .i64 0), .sc (.int .i64 0)], .sc (.int .i64 0), .sc (.int .i64 0), .st 45 [.sc (.int .i64 0), .sc (.int .i64 0)], .sc (.int .i64 0), .sc (.int .i64 0), .ro 29 true true []], .sc (.int .i64 1)]) [] []) else bif decide (0 ≤ x32) && decide (x32 < zi 3) && true then bif PV.isRo 5 (getP (PV.st 31 [.ro 5 x3 x4 x5, .ro 5 x6 x7 x8, .ro 5 x9 x10 x11]) [x32.toNat]) && true then bif decide (0 ≤ IntKind.i64.wrap (zi x2.length - 32)) && true && decide ((IntKind.i64.wrap (zi x2.length - 32)).toNat ≤ x2.length) && true then bif allInt IntKind.u8 (getP (PV.st 31 [.ro 5 x3 x4 x5, .ro 5 x6 x7 x8, .ro 5 x9 x10 x11]) [x32.toNat]).els && decide ((getP (PV.st 31 [.ro 5 x3 x4 x5, .ro 5 x6 x7 x8, .ro 5 x9 x10 x11]) [x32.toNat]).els.length ≤ 1000000000) && (allInt IntKind.u8 (List.take (IntKind.i64.wrap (zi x2.length - 32)).toNat x2) && decide ((List.take (IntKind.i64.wrap (zi x2.length - 32)).toNat x2).length ≤ 1000000000)) then bif decide ((pu IntKind.u8 (hashVT (RT.mk x28 x29 x30))).length = 32) && decide ((pu IntKind.u8 (macP (ints (getP (PV.st 31 [.ro 5 x3 x4 x5, .ro 5 x6 x7 x8, .ro 5 x9 x10 x11]) [x32.toNat]).els) (ints (List.take (IntKind.i64.wrap (zi x2.length - 32)).toNat x2)))).length = 32) && allInt IntKind.u8 (pu IntKind.u8 (hashVT (RT.mk x28 x29 x30))) && allInt IntKind.u8 (pu IntKind.u8 (macP (ints (getP (PV.st 31 [.ro 5 x3 x4 x5, .ro 5 x6 x7 x8, .ro 5 x9 x10 x11]) [x32.toNat]).els) (ints (List.take (IntKind.i64.wrap (zi x2.length - 32)).toNat x2)))) && true then bif !eqInts (pu IntKind.u8 (hashVT (RT.mk x28 x29 x30))) (pu IntKind.u8 (macP (ints (getP (PV.st 31 [.ro 5 x3 x4 x5, .ro 5 x6 x7 x8, .ro 5 x9 x10 x11]) [x32.toNat]).els) (ints (List.take (IntKind.i64.wrap (zi x2.length - 32)).toNat x2)))) then k (Res.mk (.tup [.st 54 [.sc (.int .i64 0), .sc (.int .i64 0), .sc (.int .i64 0), .st 34 [.sc (.int .i64 0), .sc (.int .i64 0)], .st 45 [.sc (.int .i64 0), .sc (.int .i64 0)], .sc (.int .i64 0), .sc (.int .i64 0), .st 45 [.sc (.int .i64 0), .sc (.int .i64 0)], .sc (.int .i64 0), .sc (.int .i64 0), .ro 29 true true []], .sc (.int .i64 14)]) [] []) else k (Res.mk (.tup [.st 54 [.sc (.int .i64 x31), .sc (.int .i64 x32), .sc (.int .i64 x33), .st 34 [.sc (.int .i64 x34), .sc (.int .i64 x35)], .st 45 [.sc (.int .i64 x36), .sc (.int .i64 x37)], .sc (.int .i64 x38), .sc (.int .i64 x39), .st 45 [.sc (.int .i64 x40), .sc (.int .i64 x41)], .sc (.int .i64 x42), .sc (.int .i64 x43), .ro 29 (Ent.vec false 29 x45 x46).nil false (List.take x44 x46)], .sc (.int .i64 0)]) [] []) else none else none else none else none else none else bif (hashT (RT.mk x28 x29 x30)).e != 0 then k (Res.mk (.tup [.st 54 [.sc (.int .i64 0), .sc (.int .i64 0), .sc (.int .i64 0), .st 34 [.sc (.int .i64 0), .sc (.int .i64 0)], .st 45 [.sc (.int .i64 0), .sc (.int .i64 0)], .sc (.int .i64 0), .sc (.int .i64 0), .st 45 [.sc (.int .i64 0), .sc (.int .i64 0)], .sc (.int .i64 0), .sc (.int .i64 0), .ro 29 true true []], .sc (.int .i64 (hashT (RT.mk x28 x29 x30)).e)]) [] []) else bif decide (x31 < 1) then k (Res.mk (.tup [.st 54 [.sc (.int .i64 0), .sc (.int .i64 0), .sc (.int .i64 0), .st 34 [.sc (.int .i64 0), .sc (.int .i64 0)], .st 45 [.sc (.int .i64 0), .sc (.int .i64 0)], .sc (.int .i64 0), .sc (.int .i64 0), .st 45 [.sc (.int .i64 0), .sc (.int .i64 0)], .sc (.int .i64 0), .sc (.int .i64 0), .ro 29 true true []], .sc (.int .i64 3)]) [] []) else bif decide (x31 > 5) then k (Res.mk (.tup [.st 54 [.sc (.int .i64 0), .sc (.int .i64 0), .sc (.int .i64 0), .st 34 [.sc (.int .i64 0), .sc (.int .i64 0)], .st 45 [.sc (.int .i64 0), .sc (.int .i64 0)], .sc (.int .i64 0), .sc (.int .i64 0), .st 45 [.sc (.int .i64 0), .sc (.int .i64 0)], .sc (.int .i64 0), .sc (.int .i64 0), .ro 29 true true []], .sc (.int .i64 3)]) [] []) else bif !inA [x32, 2] then k (Res.mk (.tup [.st 54 [.sc (.int .i64 0), .sc (.int .i64 0), .sc (.int .i64 0), .st 34 [.sc (.int .i64 0), .sc (.int .i64 0)], .st 45 [.sc (.int .i64 0), .sc (.int .i64 0)], .sc (.int .i64 0), .sc (.int .i64 0), .st 45 [.sc (.int .i64 0), .sc (.int .i64 0)], .sc (.int .i64 0), .sc (.int .i64 0), .ro 29 true true []], .sc (.int .i64 1)]) [] []) else bif !inA [x33, 2] then k (Res.mk (.tup [.st 54 [.sc (.int .i64 0), .sc (.int .i64 0), .sc (.int .i64 0), .st 34 [.sc (.int .i64 0), .sc (.int .i64 0)], .st 45 [.sc (.int .i64 0), .sc (.int .i64 0)], .sc (.int .i64 0), .sc (.int .i64 0), .st 45 [.sc (.int .i64 0), .sc (.int .i64 0)], .sc (.int .i64 0), .sc (.int .i64 0), .ro 29 true true []], .sc (.int .i64 1)]) [] []) else bif x32 == x33 then k (Res.mk (.tup [.st 54 [.sc (.int .i64 0), .sc (.int .i64 0), .sc (.int .i64 0), .st 34 [.sc (.int .i64 0), .sc (.int .i64 0)], .st 45 [.sc (.int .i64 0), .sc (.int .i64 0)], .sc (.int .i64 0), .sc (.int .i64 0), .st 45 [.sc (.int .i64 0), .sc (.int .i64 0)], .sc (.int .i64 0), .sc (.int .i64 0), .ro 29 true true []], .sc (.int .i64 1)]) [] []) else bif !inA [x34, 2, x35, 99] then k (Res.mk (.tup [.st 54 [.sc (.int .i64 0), .sc (.int .i64 0), .sc (.int .i64 0), .st 34 [.sc (.int .i64 0), .sc (.int .i64 0)], .st 45 [.sc (.int .i64 0), .sc (.int .i64 0)], .sc (.int .i64 0), .sc (.int .i64 0), .st 45 [.sc (.int .i64 0), .sc (.int .i64 0)], .sc (.int .i64 0), .sc (.int .i64 0), .ro 29 true true []], .sc (.int .i64 1)]) [] []) else bif !inA [x36, 2, x37, 7] then k (Res.mk (.tup [.st 54 [.sc (.int .i64 0), .sc (.int .i64 0), .sc (.int .i64 0), .st 34 [.sc (.int .i64 0), .sc (.int .i64 0)], .st 45 [.sc (.int .i64 0), .sc (.int .i64 0)], .sc (.int .i64 0), .sc (.int .i64 0), .st 45 [.sc (.int .i64 0), .sc (.int .i64 0)], .sc (.int .i64 0), .sc (.int .i64 0), .ro 29 true true []], .sc (.int .i64 1)]) [] []) else bif !inA [x40, 2, x41, 7] then k (Res.mk (.tup [.st 54 [.sc (.int .i64 0), .sc (.int .i64 0), .sc (.int .i64 0), .st 34 [.sc (.int .i64 0), .sc (.int .i64 0)], .st 45 [.sc (.int .i64 0), .sc (.int .i64 0)], .sc (.int .i64 0), .sc (.int .i64 0), .st 45 [.sc (.int .i64 0), .sc (.int .i64 0)], .sc (.int .i64 0), .sc (.int .i64 0), .ro 29 true true []], .sc (.int .i64 1)]) [] []) else bif !inA [x38, 1073741824] then k (Res.mk (.tup [.st 54 [.sc (.int .i64 0), .sc (.int .i64 0), .sc (.int .i64 0), .st 34 [.sc (.int .i64 0), .sc (.int .i64 0)], .st 45 [.sc (.int .i64 0), .sc (.int .i64 0)], .sc (.int .i64 0), .sc (.int .i64 0), .st 45 [.sc (.int .i64 0), .sc (.int .i64 0)], .sc (.int .i64 0), .sc (.int .i64 0), .ro 29 true true []], .sc (.int .i64 1)]) [] []) else bif !inA [x39, 1073741824] then k (Res.mk (.tup [.st 54 [.sc (.int .i64 0), .sc (.int .i64 0), .sc (.int .i64 0), .st 34 [.sc (.int .i64 0), .sc (.int .i64 0)], .st 45 [.sc (.int .i64 0), .sc (.int .i64 0)], .sc (.int .i64 0), .sc (.int .i64 0), .st 45 [.sc (.int .i64 0), .sc (.int .i64 0)], .sc (.int .i64 0), .sc (.int .i64 0), .ro 29 true true []], .sc (.int .i64 1)]) [] []) else bif !inA [x42, 1073741824] then k (Res.mk (.tup [.st 54 [.sc (.int .i64 0), .sc (.int .i64 0), .sc (.int .i64 0), .st 34 [.sc (.int .i64 0), .sc (.int .i64 0)], .st 45 [.sc (.int .i64 0), .sc (.int .i64 0)], .sc (.int .i64 0), .sc (.int .i64 0), .st 45 [.sc (.int .i64 0), .sc (.int .i64 0)], .sc (.int .i64 0), .sc (.int .i64 0), .ro 29 true true []], .sc (.int .i64 1)]) [] []) else bif !inA [x43, 255] then k (Res.mk (.tup [.st 54 [.sc (.int .i64 0), .sc (.int .i64 0), .sc (.int .i64 0), .st 34 [.sc (.int .i64 0), .sc (.int .i64 0)], .st 45 [.sc (.int .i64 0), .sc (.int .i64 0)], .sc (.int .i64 0), .sc (.int .i64 0), .st 45 [.sc (.int .i64 0), .sc (.int .i64 0)], .sc (.int .i64 0), .sc (.int .i64 0), .ro 29 true true []], .sc (.int .i64 1)]) [] []) else bif decide (0 ≤ x32) && decide (x32 < zi 3) && true then bif PV.isRo 5 (getP (PV.st 31 [.ro 5 x3 x4 x5, .ro 5 x6 x7 x8, .ro 5 x9 x10 x11]) [x32.toNat]) && true then bif decide (0 ≤ IntKind.i64.wrap (zi x2.length - 32)) && true && decide ((IntKind.i64.wrap (zi x2.length - 32)).toNat ≤ x2.length) && true then bif allInt IntKind.u8 (getP (PV.st 31 [.ro 5 x3 x4 x5, .ro 5 x6 x7 x8, .ro 5 x9 x10 x11]) [x32.toNat]).els && decide ((getP (PV.st 31 [.ro 5 x3 x4 x5, .ro 5 x6 x7 x8, .ro 5 x9 x10 x11]) [x32.toNat]).els.length ≤ 1000000000) && (allInt IntKind.u8 (List.take (IntKind.i64.wrap (zi x2.length - 32)).toNat x2) && decide ((List.take (IntKind.i64.wrap (zi x2.length - 32)).toNat x2).length ≤ 1000000000)) then bif decide ((pu IntKind.u8 (hashVT (RT.mk x28 x29 x30))).length = 32) && decide ((pu IntKind.u8 (macP (ints (getP (PV.st 31 [.ro 5 x3 x4 x5, .ro 5 x6 x7 x8, .ro 5 x9 x10 x11]) [x32.toNat]).els) (ints (List.take (IntKind.i64.wrap (zi x2.length - 32)).toNat x2)))).length = 32) && allInt IntKind.u8 (pu IntKind.u8 (hashVT (RT.mk x28 x29 x30))) && allInt IntKind.u8 (pu IntKind.u8 (macP (ints (getP (PV.st 31 [.ro 5 x3 x4 x5, .ro 5 x6 x7 x8, .ro 5 x9 x10 x11]) [x32.toNat]).els) (ints (List.take (IntKind.i64.wrap (zi x2.length - 32)).toNat x2)))) && true then bif !eqInts (pu IntKind.u8 (hashVT (RT.mk x28 x29 x30))) (pu IntKind.u8 (macP (ints (getP (PV.st 31 [.ro 5 x3 x4 x5, .ro 5 x6 x7 x8, .ro 5 x9 x10 x11]) [x32.toNat]).els) (ints (List.take (IntKind.i64.wrap (zi x2.length - 32)).toNat x2)))) then k (Res.mk (.tup [.st 54 [.sc (.int .i64 0), .sc (.int .i64 0), .sc (.int .i64 0), .st 34 [.sc (.int .i64 0), .sc (.int .i64 0)], .st 45 [.sc (.int .i64 0), .sc (.int .i64 0)], .sc (.int .i64 0), .sc (.int .i64 0), .st 45 [.sc (.int .i64 0), .sc (.int .i64 0)], .sc (.int .i64 0), .sc (.int .i64 0), .ro 29 true true []], .sc (.int .i64 14)]) [] []) else k (Res.mk (.tup [.st 54 [.sc (.int .i64 x31), .sc (.int .i64 x32), .sc (.int .i64 x33), .st 34 [.sc (.int .i64 x34), .sc (.int .i64 x35)], .st 45 [.sc (.int .i64 x36), .sc (.int .i64 x37)], .sc (.int .i64 x38), .sc (.int .i64 x39), .st 45 [.sc (.int .i64 x40), .sc (.int .i64 x41)], .sc (.int .i64 x42), .sc (.int .i64 x43), .ro 29 (Ent.vec false 29 x45 x46).nil false (List.take x44 x46)], .sc (.int .i64 0)]) [] []) else none else none else none else none else none else none
noncomputable def g38 (f : Nat) (k0_z : Bool) (k0_f : Bool) (k0 : List PV) (k1_z : Bool) (k1_f : Bool) (k1 : List PV) (k2_z : Bool) (k2_f : Bool) (k2 : List PV) (b_z : Bool) (b_f : Bool) (b : List PV) (k : Res → Option Res) : Option Res := bif decide (zi b.length > 8192) then k (Res.mk (.tup [.st 54 [.sc (.int .i64 0), .sc (.int .i64 0), .sc (.int .i64 0), .st 34 [.sc (.int .i64 0), .sc (.int .i64 0)], .st 45 [.sc (.int .i64 0), .sc (.int .i64 0)], .sc (.int .i64 0), .sc (.int .i64 0), .st 45 [.sc (.int .i64 0), .sc (.int .i64 0)], .sc (.int .i64 0), .sc (.int .i64 0), .ro 29 true true []], .sc (.int .i64 5)]) [] []) else bif okT (RT.mk b 0 0) then bif okT (stepT 1 (RT.mk b 0 0)) then bif okT (stepT 8 (stepT 1 (RT.mk b 0 0))) then bif okT (stepT 8 (stepT 8 (stepT 1 (RT.mk b 0 0)))) then bif okT (stepT 8 (stepT 8 (stepT 8 (stepT 1 (RT.mk b 0 0))))) then bif okT (stepT 8 (stepT 8 (stepT 8 (stepT 8 (stepT 1 (RT.mk b 0 0)))))) then bif okT (stepT 8 (stepT 8 (stepT 8 (stepT 8 (stepT 8 (stepT 1 (RT.mk b 0 0))))))) then bif okT (stepT 8 (stepT 8 (stepT 8 (stepT 8 (stepT 8 (stepT 8 (stepT 1 (RT.mk b 0 0)))))))) then bif okT (stepT 8 (stepT 8 (stepT 8 (stepT 8 (stepT 8 (stepT 8 (stepT 8 (stepT 1 (RT.mk b 0 0))))))))) then bif okT (stepT 8 (stepT 8 (stepT 8 (stepT 8 (stepT 8 (stepT 8 (stepT 8 (stepT 8 (stepT 1 (RT.mk b 0 0)))))))))) then bif okT (stepT 8 (stepT 8 (stepT 8 (stepT 8 (stepT 8 (stepT 8 (stepT 8 (stepT 8 (stepT 8 (stepT 1 (RT.mk b 0 0))))))))))) then bif okT (stepT 8 (stepT 8 (stepT 8 (stepT 8 (stepT 8 (stepT 8 (stepT 8 (stepT 8 (stepT 8 (stepT 8 (stepT 1 (RT.mk b 0 0)))))))))))) then bif okT (stepT 8 (stepT 8 (stepT 8 (stepT 8 (stepT 8 (stepT 8 (stepT 8 (stepT 8 (stepT 8 (stepT 8 (stepT 8 (stepT 1 (RT.mk b 0 0))))))))))))) then bif okT (stepT 8 (stepT 8 (stepT 8 (stepT 8 (stepT 8 (stepT 8 (stepT 8 (stepT 8 (stepT 8 (stepT 8 (stepT 8 (stepT 8 (stepT 1 (RT.mk b 0 0)))))))))))))) then bif decide (numT 1 (stepT 8 (stepT 8 (stepT 8 (stepT 8 (stepT 8 (stepT 8 (stepT 8 (stepT 8 (stepT 8 (stepT 8 (stepT 8 (stepT 8 (stepT 1 (RT.mk b 0 0)))))))))))))) > 4) then bif (stepT 1 (stepT 8 (stepT 8 (stepT 8 (stepT 8 (stepT 8 (stepT 8 (stepT 8 (stepT 8 (stepT 8 (stepT 8 (stepT 8 (stepT 8 (stepT 1 (RT.mk b 0 0))))))))))))))).e == 0 then lp38_0 f (tl38 k) f b_z b_f b (numT 1 (stepT 8 (stepT 8 (stepT 8 (stepT 8 (stepT 8 (stepT 8 (stepT 8 (stepT 8 (stepT 8 (stepT 8 (stepT 8 (stepT 8 (stepT 1 (RT.mk b 0 0))))))))))))))) (0) k0_z k0_f k0 k1_z k1_f k1 k2_z k2_f k2 (0) (0) (0) (0) (0) (0) (0) (0) (0) (0) (0) (0) (0) ([]) b_z b_f ((stepT 1 (stepT 8 (stepT 8 (stepT 8 (stepT 8 (stepT 8 (stepT 8 (stepT 8 (stepT 8 (stepT 8 (stepT 8 (stepT 8 (stepT 8 (stepT 1 (RT.mk b 0 0))))))))))))))).B) ((stepT 1 (stepT 8 (stepT 8 (stepT 8 (stepT 8 (stepT 8 (stepT 8 (stepT 8 (stepT 8 (stepT 8 (stepT 8 (stepT 8 (stepT 8 (stepT 1 (RT.mk b 0 0))))))))))))))).P) (4) (numT 1 (RT.mk b 0 0)) (numT 8 (stepT 1 (RT.mk b 0 0))) (numT 8 (stepT 8 (stepT 1 (RT.mk b 0 0)))) (numT 8 (stepT 8 (stepT 8 (stepT 1 (RT.mk b 0 0))))) (numT 8 (stepT 8 (stepT 8 (stepT 8 (stepT 1 (RT.mk b 0 0)))))) (numT 8 (stepT 8 (stepT 8 (stepT 8 (stepT 8 (stepT 1 (RT.mk b 0 0))))))) (numT 8 (stepT 8 (stepT 8 (stepT 8 (stepT 8 (stepT 8 (stepT 1 (RT.mk b 0 0)))))))) (numT 8 (stepT 8 (stepT 8 (stepT 8 (stepT 8 (stepT 8 (stepT 8 (stepT 1 (RT.mk b 0 0))))))))) (numT 8 (stepT 8 (stepT 8 (stepT 8 (stepT 8 (stepT 8 (stepT 8 (stepT 8 (stepT 1 (RT.mk b 0 0)))))))))) (numT 8 (stepT 8 (stepT 8 (stepT 8 (stepT 8 (stepT 8 (stepT 8 (stepT 8 (stepT 8 (stepT 1 (RT.mk b 0 0))))))))))) (numT 8 (stepT 8 (stepT 8 (stepT 8 (stepT 8 (stepT 8 (stepT 8 (stepT 8 (stepT 8 (stepT 8 (stepT 1 (RT.mk b 0 0)))))))))))) (numT 8 (stepT 8 (stepT 8 (stepT 8 (stepT 8 (stepT 8 (stepT 8 (stepT 8 (stepT 8 (stepT 8 (stepT 8 (stepT 1 (RT.mk b 0 0))))))))))))) (numT 8 (stepT 8 (stepT 8 (stepT 8 (stepT 8 (stepT 8 (stepT 8 (stepT 8 (stepT 8 (stepT 8 (stepT 8 (stepT 8 (stepT 1 (RT.mk b 0 0)))))))))))))) (0) true ([]) else lp38_0 f (tl38 k) f b_z b_f b (numT 1 (stepT 8 (stepT 8 (stepT 8 (stepT 8 (stepT 8 (stepT 8 (stepT 8 (stepT 8 (stepT 8 (stepT 8 (stepT 8 (stepT 8 (stepT 1 (RT.mk b 0 0))))))))))))))) (0) k0_z k0_f k0 k1_z k1_f k1 k2_z k2_f k2 (0) (0) (0) (0) (0) (0) (0) (0) (0) (0) (0) (0) (0) ([]) b_z b_f ((stepT 1 (stepT 8 (stepT 8 (stepT 8 (stepT 8 (stepT 8 (stepT 8 (stepT 8 (stepT 8 (stepT 8 (stepT 8 (stepT 8 (stepT 8 (stepT 1 (RT.mk b 0 0))))))))))))))).B) ((stepT 1 (stepT 8 (stepT 8 (stepT 8 (stepT 8 (stepT 8 (stepT 8 (stepT 8 (stepT 8 (stepT 8 (stepT 8 (stepT 8 (stepT 8 (stepT 1 (RT.mk b 0 0))))))))))))))).P) ((stepT 1 (stepT 8 (stepT 8 (stepT 8 (stepT 8 (stepT 8 (stepT 8 (stepT 8 (stepT 8 (stepT 8 (stepT 8 (stepT 8 (stepT 8 (stepT 1 (RT.mk b 0 0))))))))))))))).e) (numT 1 (RT.mk b 0 0)) (numT 8 (stepT 1 (RT.mk b 0 0))) (numT 8 (stepT 8 (stepT 1 (RT.mk b 0 0)))) (numT 8 (stepT 8 (stepT 8 (stepT 1 (RT.mk b 0 0))))) (numT 8 (stepT 8 (stepT 8 (stepT 8 (stepT 1 (RT.mk b 0 0)))))) (numT 8 (stepT 8 (stepT 8 (stepT 8 (stepT 8 (stepT 1 (RT.mk b 0 0))))))) (numT 8 (stepT 8 (stepT 8 (stepT 8 (stepT 8 (stepT 8 (stepT 1 (RT.mk b 0 0)))))))) (numT 8 (stepT 8 (stepT 8 (stepT 8 (stepT 8 (stepT 8 (stepT 8 (stepT 1 (RT.mk b 0 0))))))))) (numT 8 (stepT 8 (stepT 8 (stepT 8 (stepT 8 (stepT 8 (stepT 8 (stepT 8 (stepT 1 (RT.mk b 0 0)))))))))) (numT 8 (stepT 8 (stepT 8 (stepT 8 (stepT 8 (stepT 8 (stepT 8 (stepT 8 (stepT 8 (stepT 1 (RT.mk b 0 0))))))))))) (numT 8 (stepT 8 (stepT 8 (stepT 8 (stepT 8 (stepT 8 (stepT 8 (stepT 8 (stepT 8 (stepT 8 (stepT 1 (RT.mk b 0 0)))))))))))) (numT 8 (stepT 8 (stepT 8 (stepT 8 (stepT 8 (stepT 8 (stepT 8 (stepT 8 (stepT 8 (stepT 8 (stepT 8 (stepT 1 (RT.mk b 0 0))))))))))))) (numT 8 (stepT 8 (stepT 8 (stepT 8 (stepT 8 (stepT 8 (stepT 8 (stepT 8 (stepT 8 (stepT 8 (stepT 8 (stepT 8 (stepT 1 (RT.mk b 0 0)))))))))))))) (0) true ([]) else lp38_0 f (tl38 k) f b_z b_f b (numT 1 (stepT 8 (stepT 8 (stepT 8 (stepT 8 (stepT 8 (stepT 8 (stepT 8 (stepT 8 (stepT 8 (stepT 8 (stepT 8 (stepT 8 (stepT 1 (RT.mk b 0 0))))))))))))))) (0) k0_z k0_f k0 k1_z k1_f k1 k2_z k2_f k2 (0) (0) (0) (0) (0) (0) (0) (0) (0) (0) (0) (0) (0) ([]) b_z b_f ((stepT 1 (stepT 8 (stepT 8 (stepT 8 (stepT 8 (stepT 8 (stepT 8 (stepT 8 (stepT 8 (stepT 8 (stepT 8 (stepT 8 (stepT 8 (stepT 1 (RT.mk b 0 0))))))))))))))).B) ((stepT 1 (stepT 8 (stepT 8 (stepT 8 (stepT 8 (stepT 8 (stepT 8 (stepT 8 (stepT 8 (stepT 8 (stepT 8 (stepT 8 (stepT 8 (stepT 1 (RT.mk b 0 0))))))))))))))).P) ((stepT 1 (stepT 8 (stepT 8 (stepT 8 (stepT 8 (stepT 8 (stepT 8 (stepT 8 (stepT 8 (stepT 8 (stepT 8 (stepT 8 (stepT 8 (stepT 1 (RT.mk b 0 0))))))))))))))).e) (numT 1 (RT.mk b 0 0)) (numT 8 (stepT 1 (RT.mk b 0 0))) (numT 8 (stepT 8 (stepT 1 (RT.mk b 0 0)))) (numT 8 (stepT 8 (stepT 8 (stepT 1 (RT.mk b 0 0))))) (numT 8 (stepT 8 (stepT 8 (stepT 8 (stepT 1 (RT.mk b 0 0)))))) (numT 8 (stepT 8 (stepT 8 (stepT 8 (stepT 8 (stepT 1 (RT.mk b 0 0))))))) (numT 8 (stepT 8 (stepT 8 (stepT 8 (stepT 8 (stepT 8 (stepT 1 (RT.mk b 0 0)))))))) (numT 8 (stepT 8 (stepT 8 (stepT 8 (stepT 8 (stepT 8 (stepT 8 (stepT 1 (RT.mk b 0 0))))))))) (numT 8 (stepT 8 (stepT 8 (stepT 8 (stepT 8 (stepT 8 (stepT 8 (stepT 8 (stepT 1 (RT.mk b 0 0)))))))))) (numT 8 (stepT 8 (stepT 8 (stepT 8 (stepT 8 (stepT 8 (stepT 8 (stepT 8 (stepT 8 (stepT 1 (RT.mk b 0 0))))))))))) (numT 8 (stepT 8 (stepT 8 (stepT 8 (stepT 8 (stepT 8 (stepT 8 (stepT 8 (stepT 8 (stepT 8 (stepT 1 (RT.mk b 0 0)))))))))))) (numT 8 (stepT 8 (stepT 8 (stepT 8 (stepT 8 (stepT 8 (stepT 8 (stepT 8 (stepT 8 (stepT 8 (stepT 8 (stepT 1 (RT.mk b 0 0))))))))))))) (numT 8 (stepT 8 (stepT 8 (stepT 8 (stepT 8 (stepT 8 (stepT 8 (stepT 8 (stepT 8 (stepT 8 (stepT 8 (stepT 8 (stepT 1 (RT.mk b 0 0)))))))))))))) (0) true ([]) else none else none else none else none else none else none else none else none else none else none else none else none else none else none
theorem e38 (f : Nat) (k0_z : Bool) (k0_f : Bool) (k0 : List PV) (k1_z : Bool) (k1_f : Bool) (k1 : List PV) (k2_z : Bool) (k2_f : Bool) (k2 : List PV) (b_z : Bool) (b_f : Bool) (b : List PV) (k : Res → Option Res) : evFn tau F38 Try.f38 (Try.f38.body.get!) (an38 (r38_0 f)) [.ro, .ro] 0 [.st 31 [.ro 5 k0_z k0_f k0, .ro 5 k1_z k1_f k1, .ro 5 k2_z k2_f k2], .ro 5 b_z b_f b] [] k = g38 f k0_z k0_f k0 k1_z k1_f k1 k2_z k2_f k2 b_z b_f b k := by kernel_rfl
theorem it38 (f : Nat) : items (Try.f38.body.get!) (an38 (r38_0 f)) = [.l c38_0 nm38_0 N38 (r38_0 f)] := by kernel_rfl
theorem ia38 (f : Nat) : ∀ q ∈ items (Try.f38.body.get!) (an38 (r38_0 f)), q.Ok tau Try.prog 0 := by
  rw [it38 f]; simp only [List.forall_mem_cons, List.not_mem_nil, false_implies, implies_true, and_true]; exact i38_0 f
theorem fo38 : Try.prog.funcs[38]? = some Try.f38 := by kernel_rfl
theorem bo38 : Try.f38.body = some (Try.f38.body.get!) := by kernel_rfl
theorem en38 : Enters Try.prog 38 := enters_of fo38 (by kernel_rfl) bo38
end Go.Proofs.Ytcklhipdldpkhaa.Rx

-- FN ref16.Parse
namespace Go.Proofs.Ytcklhipdldpkhaa.Rx
open Go
set_option linter.unusedVariables false
set_option linter.unusedSimpArgs false
set_option maxRecDepth 100000
set_option maxHeartbeats 4000000
theorem inZ_eq (x m : Int) : inZ x m = innB x m := rfl
theorem txtS_err {s : RS} (h : s.e ≠ 0) : txtS s = s := by
  rw [txtS_eq]; unfold txtS0; rw [step_err h 2, step_err h]
theorem txR_err : ∀ (n : Nat) {s : RS}, s.e ≠ 0 → txR n s = s
  | 0, _, _ => rfl
  | n + 1, s, h => by show txR n (txtS s) = s; rw [txtS_err h, txR_err n h]
theorem okT_by {t : RT} (h : okT t = true) : byB t.view.b = true := by
  simp only [okT, Bool.and_eq_true] at h
  exact byB_drop h.2.2.1 _
theorem l38_e (f : Nat) (k0 : Bool → Bool → List PV → Bool → Bool → List PV → Bool → Bool → List PV → Bool → Bool → List PV → Int → Int → Int → Int → Int → Int → Int → Int → Int → Int → Int → Int → Int → List PV → Bool → Bool → List PV → Int → Int → Int → Int → Int → Int → Int → Int → Int → Int → Int → Int → Int → Int → Int → Nat → Bool → List PV → Option Res) (n : Nat) {z fl : Bool} {b : List PV} (v3 v4 : Int) {x5 x6 : Bool} {x7 : List PV} {x8 x9 : Bool} {x10 : List PV} {x11 x12 : Bool} {x13 : List PV} {x14 x15 x16 x17 x18 x19 x20 x21 x22 x23 x24 x25 x26 : Int} {x27 : List PV} {z2 f2 : Bool} {y33 y34 y35 y36 y37 y38 y39 y40 y41 y42 y43 y44 y45 : Int} {B : List PV} {P e : Int} (he : (e == 0) = false) {m : Nat} {nl : Bool} {L : List PV} :
    lp38_0 f k0 (n + 1) z fl b v3 v4 x5 x6 x7 x8 x9 x10 x11 x12 x13 x14 x15 x16 x17 x18 x19 x20 x21 x22 x23 x24 x25 x26 x27 z2 f2 B P e y33 y34 y35 y36 y37 y38 y39 y40 y41 y42 y43 y44 y45 m nl L = k0 z fl b x5 x6 x7 x8 x9 x10 x11 x12 x13 x14 x15 x16 x17 x18 x19 x20 x21 x22 x23 x24 x25 x26 x27 z2 f2 B P e y33 y34 y35 y36 y37 y38 y39 y40 y41 y42 y43 y44 y45 m nl L := by
  simp only [lp38_0, lpS38_0, he, cond_false]
  cases decide (v4 < v3) <;> rfl
theorem l38_0 (f : Nat) (k0 : Bool → Bool → List PV → Bool → Bool → List PV → Bool → Bool → List PV → Bool → Bool → List PV → Int → Int → Int → Int → Int → Int → Int → Int → Int → Int → Int → Int → Int → List PV → Bool → Bool → List PV → Int → Int → Int → Int → Int → Int → Int → Int → Int → Int → Int → Int → Int → Int → Int → Nat → Bool → List PV → Option Res) (R : Option Res) {z fl : Bool} {b : List PV} (N : Nat) (hN : N ≤ 4) {x5 x6 : Bool} {x7 : List PV} {x8 x9 : Bool} {x10 : List PV} {x11 x12 : Bool} {x13 : List PV} {x14 x15 x16 x17 x18 x19 x20 x21 x22 x23 x24 x25 x26 : Int} {x27 : List PV} {z2 f2 : Bool} {y33 y34 y35 y36 y37 y38 y39 y40 y41 y42 y43 y44 y45 : Int} :
    ∀ (d i n : Nat) (t : RT) (nl : Bool) (L : List PV), i + d = N → d < n → okT t = true → L.length ≤ i →
    (∀ (t' : RT) (nl' : Bool) (L' : List PV), okT t' = true → t'.view = txR d t.view → L'.length ≤ 4 → (t'.view.e = 0 → L' = L ++ txL d t.view ∧ nl' = (nl && (txL d t.view).isEmpty)) → k0 z fl b x5 x6 x7 x8 x9 x10 x11 x12 x13 x14 x15 x16 x17 x18 x19 x20 x21 x22 x23 x24 x25 x26 x27 z2 f2 t'.B t'.P t'.e y33 y34 y35 y36 y37 y38 y39 y40 y41 y42 y43 y44 y45 L'.length nl' L' = R) →
    lp38_0 f k0 n z fl b (N : Int) (i : Int) x5 x6 x7 x8 x9 x10 x11 x12 x13 x14 x15 x16 x17 x18 x19 x20 x21 x22 x23 x24 x25 x26 x27 z2 f2 t.B t.P t.e y33 y34 y35 y36 y37 y38 y39 y40 y41 y42 y43 y44 y45 L.length nl L = R
  | 0, i, n + 1, t, nl, L, h, hn, ht, hL, hk => by
      simp only [lp38_0, lpS38_0]
      exact (bif_f (by simp; omega)).trans (hk t nl L ht rfl (by omega) fun _ => by simp [txL])
  | d + 1, i, n + 1, t, nl, L, h, hn, ht, hL, hk => by
      cases he : (t.e == 0) with
      | false =>
        have he' : t.view.e ≠ 0 := by simpa [RT.view] using he
        rw [l38_e f k0 n _ _ he]
        exact hk t nl L ht (txR_err _ he').symm (by omega) fun h0 => absurd h0 he'
      | true =>
        have w : IntKind.i64.wrap ((i : Int) + 1) = ((i + 1 : Nat) : Int) := by rw [wrap_i64 (by omega) (by omega)]; omega
        have hm : RT.mk t.B t.P t.e = t := rfl
        have hs := txtV_size (okT_by ht)
        have htk : List.take (txtV t.view).size (ofBytes (txtV t.view)) = ofBytes (txtV t.view) := List.take_of_length_le (by rw [ofBytes_len]; exact Nat.le_refl _)
        simp only [lp38_0, lpS38_0, w, hm, txtVT_txt, htk, List.take_length, he]
        refine (bif_t (by simp; omega)).trans ((bif_t rfl).trans ((bif_t ht).trans ((bif_t (by simp [roomy]; omega)).trans ((bif_t (by simp [roomy]; omega)).trans ?_))))
        have := l38_0 f k0 R (z := z) (fl := fl) (b := b) N hN d (i + 1) n (txtT t) (nl && false) (L ++ [bodyP (txtV t.view)]) (by omega) (by omega) (okT_txtT ht) (by simp; omega) fun t' nl' L' h1 h2 h3 h4 => hk t' nl' L' h1 (by rw [h2, txtT_view]; rfl) h3 fun h0 => by
          obtain ⟨q1, q2⟩ := h4 h0
          rw [txtT_view] at q1 q2
          exact ⟨by rw [q1]; simp [txL], by rw [q2]; simp [txL]⟩
        rw [List.length_append] at this
        exact this
theorem bne_0 (x : Int) : (x != 0) = !(x == 0) := rfl
noncomputable def pflR : PA → Bool := hid fun p => !(parE0 p == 0)
theorem pflR_eq (p : PA) : pflR p = !(parE0 p == 0) := by rw [pflR, hid_eq]
noncomputable def parR (p : PA) : PV := .tup [.st 54 [.sc (.int .i64 (pfld 0 p)), .sc (.int .i64 (pfld 1 p)), .sc (.int .i64 (pfld 2 p)), .st 34 [.sc (.int .i64 (pfld 3 p)), .sc (.int .i64 (pfld 4 p))], .st 45 [.sc (.int .i64 (pfld 5 p)), .sc (.int .i64 (pfld 6 p))], .sc (.int .i64 (pfld 7 p)), .sc (.int .i64 (pfld 8 p)), .st 45 [.sc (.int .i64 (pfld 9 p)), .sc (.int .i64 (pfld 10 p))], .sc (.int .i64 (pfld 11 p)), .sc (.int .i64 (pfld 12 p)), .ro 29 (pbod p).isEmpty (pflR p) (pbod p)], .sc (.int .i64 (parE p))]
theorem parR_bad {p : PA} {e : Int} (h : parE0 p = e) (h0 : (e == 0) = false) : parR p = zeroM e := by
  unfold parR zeroM
  simp only [pfld_eq, pbod_eq, parE_eq, pflR_eq, h, h0, cond_false, List.isEmpty_nil, Bool.not_false]
theorem parR_ok {p : PA} (h : parE0 p = 0) : parR p = .tup [.st 54 [.sc (.int .i64 (fld 0 ⟨p.b, 0⟩)), .sc (.int .i64 (fld 1 ⟨p.b, 0⟩)), .sc (.int .i64 (fld 2 ⟨p.b, 0⟩)), .st 34 [.sc (.int .i64 (fld 3 ⟨p.b, 0⟩)), .sc (.int .i64 (fld 4 ⟨p.b, 0⟩))], .st 45 [.sc (.int .i64 (fld 5 ⟨p.b, 0⟩)), .sc (.int .i64 (fld 6 ⟨p.b, 0⟩))], .sc (.int .i64 (fld 7 ⟨p.b, 0⟩)), .sc (.int .i64 (fld 8 ⟨p.b, 0⟩)), .st 45 [.sc (.int .i64 (fld 9 ⟨p.b, 0⟩)), .sc (.int .i64 (fld 10 ⟨p.b, 0⟩))], .sc (.int .i64 (fld 11 ⟨p.b, 0⟩)), .sc (.int .i64 (fld 12 ⟨p.b, 0⟩)), .ro 29 (bodL ⟨p.b, 0⟩).isEmpty false (bodL ⟨p.b, 0⟩)], .sc (.int .i64 0)] := by
  unfold parR
  simp only [pfld_eq, pbod_eq, parE_eq, pflR_eq, h, beq_self_eq_true, cond_true, Bool.not_true]
theorem tl38_eq {z0 f0 z1 f1 z2 f2 z f : Bool} {k0 k1 k2 b : List PV} (hb : byB b = true) (h0 : kOk k0 = true) (h1 : kOk k1 = true) (h2 : kOk k2 = true) (k : Res → Option Res) (c1 : ¬ b.length > 8192)
    (hkd : 0 ≤ fld 0 ⟨b, 0⟩ ∧ fld 0 ⟨b, 0⟩ < 65536) {t' : RT} {nl' : Bool} {L' : List PV} (ht : okT t' = true) (hV : t'.view = txR (msgN ⟨b, 0⟩) (msgS ⟨b, 0⟩)) (hL4 : L'.length ≤ 4) (hBd : t'.view.e = 0 → L' = bodL ⟨b, 0⟩ ∧ nl' = (bodL ⟨b, 0⟩).isEmpty)
    {u0 u1 u2 u3 u4 u5 u6 u7 u8 u9 u10 u11 u12 : Int} {ul : List PV} {za fa : Bool} :
    tl38 k z f b z0 f0 k0 z1 f1 k1 z2 f2 k2 u0 u1 u2 u3 u4 u5 u6 u7 u8 u9 u10 u11 u12 ul za fa t'.B t'.P t'.e (fld 0 ⟨b, 0⟩) (fld 1 ⟨b, 0⟩) (fld 2 ⟨b, 0⟩) (fld 3 ⟨b, 0⟩) (fld 4 ⟨b, 0⟩) (fld 5 ⟨b, 0⟩) (fld 6 ⟨b, 0⟩) (fld 7 ⟨b, 0⟩) (fld 8 ⟨b, 0⟩) (fld 9 ⟨b, 0⟩) (fld 10 ⟨b, 0⟩) (fld 11 ⟨b, 0⟩) (fld 12 ⟨b, 0⟩) L'.length nl' L' = k ⟨parR ⟨[.ro 5 z0 f0 k0, .ro 5 z1 f1 k1, .ro 5 z2 f2 k2], b⟩, [], []⟩ := by
  generalize hp : PA.mk [.ro 5 z0 f0 k0, .ro 5 z1 f1 k1, .ro 5 z2 f2 k2] b = p
  have hpb : p.b = b := by rw [← hp]
  have hpl : p.l = [.ro 5 z0 f0 k0, .ro 5 z1 f1 k1, .ro 5 z2 f2 k2] := by rw [← hp]
  have hE : parE0 p = parE0 p := rfl
  conv at hE => rhs; unfold parE0
  rw [hpb] at hE
  rw [show decide (b.length > 8192) = false by simpa using c1, cond_false] at hE
  have hm : RT.mk t'.B t'.P t'.e = t' := rfl
  simp only [tl38, hm]
  refine (bif_t ht).trans ?_
  have hokh : okT (hashT t') = true := okT_hash ht
  have hv : (hashT t').view = msgE ⟨b, 0⟩ := by rw [hashT_view, hV, msgE_eq]
  have hve : (hashT t').e = (msgE ⟨b, 0⟩).e := by rw [← hv]; rfl
  have hvP : decide ((hashT t').P < zi (hashT t').B.length) = decide ((msgE ⟨b, 0⟩).b.length > 0) := by
    rw [← hv]
    show decide _ = decide ((List.drop _ _).length > 0)
    rw [List.length_drop]
    simp only [okT, Bool.and_eq_true, decide_eq_true_eq] at hokh
    apply decide_eq_decide.2
    simp only [zi]; omega
  have hH : hashVT t' = msgH ⟨b, 0⟩ := by rw [hashVT_val, hV, msgH_eq]
  simp only [hve, hvP, bne_0, inA_1, inA_2, inZ_eq, hH]
  have hC : parC ⟨b, 0⟩ = bif innB (IntKind.i64.wrap (fld 0 ⟨b, 0⟩ - 1)) 4 then (bif chkB (fld 1 ⟨b, 0⟩) (fld 2 ⟨b, 0⟩) (fld 3 ⟨b, 0⟩) (fld 4 ⟨b, 0⟩) (fld 5 ⟨b, 0⟩) (fld 6 ⟨b, 0⟩) (fld 7 ⟨b, 0⟩) (fld 8 ⟨b, 0⟩) (fld 9 ⟨b, 0⟩) (fld 10 ⟨b, 0⟩) (fld 11 ⟨b, 0⟩) (fld 12 ⟨b, 0⟩) then 0 else 1) else 3 := by unfold parC; rw [chk_eq]; rfl
  have hwk : IntKind.i64.wrap (fld 0 ⟨b, 0⟩ - 1) = fld 0 ⟨b, 0⟩ - 1 := wrap_i64 (by omega) (by omega)
  rw [hwk] at hC
  cases ce : ((msgE ⟨b, 0⟩).e == 0) with
  | false =>
    rw [ce, cond_false] at hE
    rw [cond_false, parR_bad hE ce]
    exact bif_t rfl
  | true =>
    rw [ce, cond_true] at hE
    rw [cond_true]
    cases c2 : decide ((msgE ⟨b, 0⟩).b.length > 0) with
    | true =>
      rw [c2, cond_true] at hE
      rw [cond_true, parR_bad hE (by decide)]
      rfl
    | false =>
      rw [c2, cond_false] at hE
      rw [cond_false]
      refine (bif_f rfl).trans ?_
      have bad3 : innB (fld 0 ⟨b, 0⟩ - 1) 4 = false → k ⟨zeroM 3, [], []⟩ = k ⟨parR p, [], []⟩ := by
        intro h
        rw [h, cond_false] at hC
        rw [hC] at hE
        rw [parR_bad (show parE0 p = 3 from hE) (by decide)]
      by_cases d1 : fld 0 ⟨b, 0⟩ < 1
      · exact (bif_t (by simpa using d1)).trans (bad3 (by simp [innB]; omega))
      refine (bif_f (by simpa using d1)).trans ?_
      by_cases d2 : fld 0 ⟨b, 0⟩ > 5
      · exact (bif_t (by simpa using d2)).trans (bad3 (by simp [innB]; omega))
      refine (bif_f (by simpa using d2)).trans ?_
      have hkin : innB (fld 0 ⟨b, 0⟩ - 1) 4 = true := by simp [innB]; omega
      rw [hkin, cond_true] at hC
      have bad1 : chkB (fld 1 ⟨b, 0⟩) (fld 2 ⟨b, 0⟩) (fld 3 ⟨b, 0⟩) (fld 4 ⟨b, 0⟩) (fld 5 ⟨b, 0⟩) (fld 6 ⟨b, 0⟩) (fld 7 ⟨b, 0⟩) (fld 8 ⟨b, 0⟩) (fld 9 ⟨b, 0⟩) (fld 10 ⟨b, 0⟩) (fld 11 ⟨b, 0⟩) (fld 12 ⟨b, 0⟩) = false → k ⟨zeroM 1, [], []⟩ = k ⟨parR p, [], []⟩ := by
        intro h
        rw [h, cond_false] at hC
        rw [hC] at hE
        rw [parR_bad (show parE0 p = 1 from hE) (by decide)]
      cases c0 : innB (fld 1 ⟨b, 0⟩) 2 with
      | false => exact (bif_t rfl).trans (bad1 (by simp [chkB, c0]))
      | true =>
      refine (bif_f rfl).trans ?_
      cases q1 : innB (fld 2 ⟨b, 0⟩) 2 with
      | false => exact (bif_t rfl).trans (bad1 (by simp [chkB, q1]))
      | true =>
      refine (bif_f rfl).trans ?_
      cases c2' : (fld 1 ⟨b, 0⟩ == fld 2 ⟨b, 0⟩) with
      | true => exact (bif_t rfl).trans (bad1 (by simp [chkB, c2']))
      | false =>
      refine (bif_f rfl).trans ?_
      cases c3 : (innB (fld 3 ⟨b, 0⟩) 2 && innB (fld 4 ⟨b, 0⟩) 99) with
      | false => exact (bif_t rfl).trans (bad1 (by have := c3; simp only [Bool.and_eq_false_iff] at this; rcases this with h | h <;> simp [chkB, h]))
      | true =>
      refine (bif_f rfl).trans ?_
      cases c4 : (innB (fld 5 ⟨b, 0⟩) 2 && innB (fld 6 ⟨b, 0⟩) 7) with
      | false => exact (bif_t rfl).trans (bad1 (by have := c4; simp only [Bool.and_eq_false_iff] at this; rcases this with h | h <;> simp [chkB, h]))
      | true =>
      refine (bif_f rfl).trans ?_
      cases c5 : (innB (fld 9 ⟨b, 0⟩) 2 && innB (fld 10 ⟨b, 0⟩) 7) with
      | false => exact (bif_t rfl).trans (bad1 (by have := c5; simp only [Bool.and_eq_false_iff] at this; rcases this with h | h <;> simp [chkB, h]))
      | true =>
      refine (bif_f rfl).trans ?_
      cases c6 : innB (fld 7 ⟨b, 0⟩) 1073741824 with
      | false => exact (bif_t rfl).trans (bad1 (by simp [chkB, c6]))
      | true =>
      refine (bif_f rfl).trans ?_
      cases c7 : innB (fld 8 ⟨b, 0⟩) 1073741824 with
      | false => exact (bif_t rfl).trans (bad1 (by simp [chkB, c7]))
      | true =>
      refine (bif_f rfl).trans ?_
      cases c8 : innB (fld 11 ⟨b, 0⟩) 1073741824 with
      | false => exact (bif_t rfl).trans (bad1 (by simp [chkB, c8]))
      | true =>
      refine (bif_f rfl).trans ?_
      cases c9 : innB (fld 12 ⟨b, 0⟩) 255 with
      | false => exact (bif_t rfl).trans (bad1 (by simp [chkB, c9]))
      | true =>
      refine (bif_f rfl).trans ?_
      have hcb : chkB (fld 1 ⟨b, 0⟩) (fld 2 ⟨b, 0⟩) (fld 3 ⟨b, 0⟩) (fld 4 ⟨b, 0⟩) (fld 5 ⟨b, 0⟩) (fld 6 ⟨b, 0⟩) (fld 7 ⟨b, 0⟩) (fld 8 ⟨b, 0⟩) (fld 9 ⟨b, 0⟩) (fld 10 ⟨b, 0⟩) (fld 11 ⟨b, 0⟩) (fld 12 ⟨b, 0⟩) = true := by
        simp only [Bool.and_eq_true] at c3 c4 c5
        simp [chkB, c0, q1, c2', c3, c4, c5, c6, c7, c8, c9]
      rw [hcb, cond_true] at hC
      rw [hC] at hE
      replace hE : parE0 p = bif parM p == msgH ⟨b, 0⟩ then 0 else 14 := hE
      have hfr : 0 ≤ fld 1 ⟨b, 0⟩ ∧ fld 1 ⟨b, 0⟩ ≤ 2 := by simpa [innB] using c0
      have hK : ∃ zz ff kk, getP (PV.st 31 [.ro 5 z0 f0 k0, .ro 5 z1 f1 k1, .ro 5 z2 f2 k2]) [(fld 1 ⟨b, 0⟩).toNat] = .ro 5 zz ff kk ∧ kOk kk = true ∧ keyF ⟨[.ro 5 z0 f0 k0, .ro 5 z1 f1 k1, .ro 5 z2 f2 k2], fld 1 ⟨b, 0⟩⟩ = kk := by
        have hkf : keyF ⟨[.ro 5 z0 f0 k0, .ro 5 z1 f1 k1, .ro 5 z2 f2 k2], fld 1 ⟨b, 0⟩⟩ = (getP (PV.st 31 [.ro 5 z0 f0 k0, .ro 5 z1 f1 k1, .ro 5 z2 f2 k2]) [(fld 1 ⟨b, 0⟩).toNat]).els := by rw [keyF_eq, keyF0, c0]; rfl
        have : fld 1 ⟨b, 0⟩ = 0 ∨ fld 1 ⟨b, 0⟩ = 1 ∨ fld 1 ⟨b, 0⟩ = 2 := by omega
        rcases this with h | h | h <;> rw [h] at hkf ⊢
        · exact ⟨z0, f0, k0, rfl, h0, hkf⟩
        · exact ⟨z1, f1, k1, rfl, h1, hkf⟩
        · exact ⟨z2, f2, k2, rfl, h2, hkf⟩
      obtain ⟨zz, ff, kk, hK, hkk, hkf⟩ := hK
      have hM : parM p = macP (ints kk) (ints (b.take (b.length - 32))) := by unfold parM; rw [hpb, hpl, hkf]
      have hMl : (parM p).length = 32 := by rw [hM]; exact macP_length _ _
      have hr := msg_room (b := b) (e := 0) (by simpa using ce)
      have hw : IntKind.i64.wrap (zi b.length - 32) = ((b.length - 32 : Nat) : Int) := by simp only [zi]; rw [wrap_i64 (by omega) (by omega)]; omega
      have hat : allInt .u8 (b.take (b.length - 32)) = true := (byB_iff.1 (byB_take hb (b.length - 32))).1
      unfold kOk at hkk
      rw [Bool.and_eq_true, decide_eq_true_eq] at hkk
      simp only [hK, hw, Int.toNat_natCast, PV.els, PV.isRo, eqInts_pu, ← hM]
      refine (bif_t (by simp [zi]; omega)).trans ((bif_t (by simp)).trans ((bif_t (by simp)).trans ((bif_t (by rw [hkk.1, hat]; simp; omega)).trans ((bif_t (by simp [hMl, msgH_length])).trans ?_))))
      have hcm : (parM p == msgH ⟨b, 0⟩) = (msgH ⟨b, 0⟩ == parM p) := BEq.comm
      rw [hcm] at hE
      cases cm : (msgH ⟨b, 0⟩ == parM p) with
      | false =>
        rw [cm, cond_false] at hE
        refine (bif_t rfl).trans ?_
        rw [parR_bad hE (by decide)]
        rfl
      | true =>
        rw [cm, cond_true] at hE
        refine (bif_f rfl).trans ?_
        have hte : t'.view.e = 0 := by
          have he0 : (msgE ⟨b, 0⟩).e = 0 := by simpa using ce
          rw [← hv, hashT_view, hashS_eq] at he0
          exact Classical.byContradiction fun h => runB_err 32 h he0
        obtain ⟨w1, w2⟩ := hBd hte
        rw [parR_ok hE, hpb, List.take_length, w1, w2]
        rfl
theorem g38_eq (z0 f0 z1 f1 z2 f2 z f : Bool) (k0 k1 k2 b : List PV) (hb : byB b = true) (h0 : kOk k0 = true) (h1 : kOk k1 = true) (h2 : kOk k2 = true) (k : Res → Option Res) :
    g38 10 z0 f0 k0 z1 f1 k1 z2 f2 k2 z f b k = k ⟨parR ⟨[.ro 5 z0 f0 k0, .ro 5 z1 f1 k1, .ro 5 z2 f2 k2], b⟩, [], []⟩ := by
  generalize hp : PA.mk [.ro 5 z0 f0 k0, .ro 5 z1 f1 k1, .ro 5 z2 f2 k2] b = p
  have hpb : p.b = b := by rw [← hp]
  have hpl : p.l = [.ro 5 z0 f0 k0, .ro 5 z1 f1 k1, .ro 5 z2 f2 k2] := by rw [← hp]
  have hE : parE0 p = parE0 p := rfl
  conv at hE => rhs; unfold parE0
  rw [hpb] at hE
  unfold g38
  by_cases c1 : b.length > 8192
  · refine (bif_t (by simp [zi]; omega)).trans ?_
    rw [show decide (b.length > 8192) = true by simpa using c1, cond_true] at hE
    rw [parR_bad hE (by decide)]
    rfl
  refine (bif_f (by simp [zi]; omega)).trans ?_
  rw [show decide (b.length > 8192) = false by simpa using c1, cond_false] at hE
  have hok0 : okT (RT.mk b 0 0) = true := by simp [okT, hb]; omega
  have hv0 : (RT.mk b 0 0).view = RS.mk b 0 := rfl
  subst hp
  refine (bif_t hok0).trans ?_
  have a1 := okT_stepT hok0 1
  refine (bif_t a1).trans ?_
  have a2 := okT_stepT a1 8
  refine (bif_t a2).trans ?_
  have a3 := okT_stepT a2 8
  refine (bif_t a3).trans ?_
  have a4 := okT_stepT a3 8
  refine (bif_t a4).trans ?_
  have a5 := okT_stepT a4 8
  refine (bif_t a5).trans ?_
  have a6 := okT_stepT a5 8
  refine (bif_t a6).trans ?_
  have a7 := okT_stepT a6 8
  refine (bif_t a7).trans ?_
  have a8 := okT_stepT a7 8
  refine (bif_t a8).trans ?_
  have a9 := okT_stepT a8 8
  refine (bif_t a9).trans ?_
  have a10 := okT_stepT a9 8
  refine (bif_t a10).trans ?_
  have a11 := okT_stepT a10 8
  refine (bif_t a11).trans ?_
  have a12 := okT_stepT a11 8
  refine (bif_t a12).trans ?_
  have a13 := okT_stepT a12 8
  refine (bif_t a13).trans ?_
  have hokc : okT (stepT 1 (stepT 8 (stepT 8 (stepT 8 (stepT 8 (stepT 8 (stepT 8 (stepT 8 (stepT 8 (stepT 8 (stepT 8 (stepT 8 (stepT 8 (stepT 1 (RT.mk b 0 0))))))))))))))) = true := okT_stepT a13 1
  have hvc : (stepT 1 (stepT 8 (stepT 8 (stepT 8 (stepT 8 (stepT 8 (stepT 8 (stepT 8 (stepT 8 (stepT 8 (stepT 8 (stepT 8 (stepT 8 (stepT 1 (RT.mk b 0 0))))))))))))))).view = stepS 1 (fS 13 ⟨b, 0⟩) := by simp only [stepT_view, hv0, fS]
  generalize hcur : stepT 1 (stepT 8 (stepT 8 (stepT 8 (stepT 8 (stepT 8 (stepT 8 (stepT 8 (stepT 8 (stepT 8 (stepT 8 (stepT 8 (stepT 8 (stepT 1 (RT.mk b 0 0)))))))))))))) = tc at *
  have nf0 : numT 1 (RT.mk b 0 0) = fld 0 ⟨b, 0⟩ := by rw [fld_eq]; simp only [numT_num, stepT_view, hv0, fld0]
  have nf1 : numT 8 (stepT 1 (RT.mk b 0 0)) = fld 1 ⟨b, 0⟩ := by rw [fld_eq]; simp only [numT_num, stepT_view, hv0, fld0, fS]
  have nf2 : numT 8 (stepT 8 (stepT 1 (RT.mk b 0 0))) = fld 2 ⟨b, 0⟩ := by rw [fld_eq]; simp only [numT_num, stepT_view, hv0, fld0, fS]
  have nf3 : numT 8 (stepT 8 (stepT 8 (stepT 1 (RT.mk b 0 0)))) = fld 3 ⟨b, 0⟩ := by rw [fld_eq]; simp only [numT_num, stepT_view, hv0, fld0, fS]
  have nf4 : numT 8 (stepT 8 (stepT 8 (stepT 8 (stepT 1 (RT.mk b 0 0))))) = fld 4 ⟨b, 0⟩ := by rw [fld_eq]; simp only [numT_num, stepT_view, hv0, fld0, fS]
  have nf5 : numT 8 (stepT 8 (stepT 8 (stepT 8 (stepT 8 (stepT 1 (RT.mk b 0 0)))))) = fld 5 ⟨b, 0⟩ := by rw [fld_eq]; simp only [numT_num, stepT_view, hv0, fld0, fS]
  have nf6 : numT 8 (stepT 8 (stepT 8 (stepT 8 (stepT 8 (stepT 8 (stepT 1 (RT.mk b 0 0))))))) = fld 6 ⟨b, 0⟩ := by rw [fld_eq]; simp only [numT_num, stepT_view, hv0, fld0, fS]
  have nf7 : numT 8 (stepT 8 (stepT 8 (stepT 8 (stepT 8 (stepT 8 (stepT 8 (stepT 1 (RT.mk b 0 0)))))))) = fld 7 ⟨b, 0⟩ := by rw [fld_eq]; simp only [numT_num, stepT_view, hv0, fld0, fS]
  have nf8 : numT 8 (stepT 8 (stepT 8 (stepT 8 (stepT 8 (stepT 8 (stepT 8 (stepT 8 (stepT 1 (RT.mk b 0 0))))))))) = fld 8 ⟨b, 0⟩ := by rw [fld_eq]; simp only [numT_num, stepT_view, hv0, fld0, fS]
  have nf9 : numT 8 (stepT 8 (stepT 8 (stepT 8 (stepT 8 (stepT 8 (stepT 8 (stepT 8 (stepT 8 (stepT 1 (RT.mk b 0 0)))))))))) = fld 9 ⟨b, 0⟩ := by rw [fld_eq]; simp only [numT_num, stepT_view, hv0, fld0, fS]
  have nf10 : numT 8 (stepT 8 (stepT 8 (stepT 8 (stepT 8 (stepT 8 (stepT 8 (stepT 8 (stepT 8 (stepT 8 (stepT 1 (RT.mk b 0 0))))))))))) = fld 10 ⟨b, 0⟩ := by rw [fld_eq]; simp only [numT_num, stepT_view, hv0, fld0, fS]
  have nf11 : numT 8 (stepT 8 (stepT 8 (stepT 8 (stepT 8 (stepT 8 (stepT 8 (stepT 8 (stepT 8 (stepT 8 (stepT 8 (stepT 1 (RT.mk b 0 0)))))))))))) = fld 11 ⟨b, 0⟩ := by rw [fld_eq]; simp only [numT_num, stepT_view, hv0, fld0, fS]
  have nf12 : numT 8 (stepT 8 (stepT 8 (stepT 8 (stepT 8 (stepT 8 (stepT 8 (stepT 8 (stepT 8 (stepT 8 (stepT 8 (stepT 8 (stepT 1 (RT.mk b 0 0))))))))))))) = fld 12 ⟨b, 0⟩ := by rw [fld_eq]; simp only [numT_num, stepT_view, hv0, fld0, fS]
  have nfc : numT 1 (stepT 8 (stepT 8 (stepT 8 (stepT 8 (stepT 8 (stepT 8 (stepT 8 (stepT 8 (stepT 8 (stepT 8 (stepT 8 (stepT 8 (stepT 1 (RT.mk b 0 0)))))))))))))) = cntS ⟨b, 0⟩ := by unfold cntS; simp only [numT_num, stepT_view, hv0, fS]
  simp only [nfc, nf0, nf1, nf2, nf3, nf4, nf5, nf6, nf7, nf8, nf9, nf10, nf11, nf12]
  have hcnt := cnt_bounds (s := ⟨b, 0⟩) hb
  have hkd : 0 ≤ fld 0 ⟨b, 0⟩ ∧ fld 0 ⟨b, 0⟩ < 65536 := by rw [fld_eq]; show 0 ≤ numS 1 _ ∧ numS 1 _ < 65536; rw [numS_eq]; exact numS_small (s := ⟨b, 0⟩) hb (by omega)
  have hbyb : byB (stepS 1 (fS 13 ⟨b, 0⟩)).b = true := byS_step (byS_fS hb 13) 1
  cases h4 : decide (cntS ⟨b, 0⟩ > 4) with
  | true =>
    have hN : msgN ⟨b, 0⟩ = 0 := by unfold msgN; rw [h4]; rfl
    have hS : msgS ⟨b, 0⟩ = failS 4 (stepS 1 (fS 13 ⟨b, 0⟩)) := by unfold msgS; rw [h4]; rfl
    rw [cond_true]
    cases he : (tc.e == 0) with
    | true =>
      rw [cond_true]
      refine (l38_e 10 (tl38 k) 9 _ _ (by decide)).trans ?_
      have hV : (RT.mk tc.B tc.P 4).view = txR (msgN ⟨b, 0⟩) (msgS ⟨b, 0⟩) := by
        rw [hN, hS, ← hvc]
        show RS.mk _ _ = failS 4 tc.view
        unfold failS
        rw [show (tc.view.e == 0) = true from he]; rfl
      exact tl38_eq (t' := ⟨tc.B, tc.P, 4⟩) (nl' := true) (L' := []) hb h0 h1 h2 k c1 hkd hokc hV (by decide) fun h => by
        have h' : (4 : Int) = 0 := h
        exact absurd h' (by decide)
    | false =>
      rw [cond_false]
      refine (l38_e 10 (tl38 k) 9 _ _ he).trans ?_
      have hV : tc.view = txR (msgN ⟨b, 0⟩) (msgS ⟨b, 0⟩) := by
        rw [hN, hS, ← hvc]
        show tc.view = failS 4 tc.view
        unfold failS
        rw [show (tc.view.e == 0) = false from he]; rfl
      exact tl38_eq (t' := tc) (nl' := true) (L' := []) hb h0 h1 h2 k c1 hkd hokc hV (by decide) fun h => by
        have : (tc.e == 0) = true := by simpa [RT.view] using h
        rw [he] at this; cases this
  | false =>
    have hN : msgN ⟨b, 0⟩ = (cntS ⟨b, 0⟩).toNat := by unfold msgN; rw [h4]; rfl
    have hS : msgS ⟨b, 0⟩ = stepS 1 (fS 13 ⟨b, 0⟩) := by unfold msgS; rw [h4]; rfl
    have h4' : ¬ cntS ⟨b, 0⟩ > 4 := by simpa using h4
    rw [cond_false]
    have hcn : cntS ⟨b, 0⟩ = (((cntS ⟨b, 0⟩).toNat : Nat) : Int) := (Int.toNat_of_nonneg hcnt).symm
    generalize hNN : (cntS ⟨b, 0⟩).toNat = NN at *
    rw [hcn] at h4' ⊢
    refine l38_0 10 (tl38 k) _ NN (by omega) NN 0 10 tc true [] (by omega) (by omega) hokc (by decide) fun t' nl' L' q1 q2 q3 q4 => ?_
    have hVt : tc.view = msgS ⟨b, 0⟩ := by rw [hS, hvc]
    refine tl38_eq hb h0 h1 h2 k c1 hkd q1 (by rw [q2, hN, hVt]) q3 fun h => ?_
    obtain ⟨w1, w2⟩ := q4 h
    rw [hVt] at w1 w2
    rw [bodL_eq, hN]
    exact ⟨by rw [w1, List.nil_append], by rw [w2, Bool.true_and]⟩
noncomputable def run38' : List PV → List Ent → (Res → Option Res) → Option Res
  | [.st 31 [.ro 5 z0 f0 k0, .ro 5 z1 f1 k1, .ro 5 z2 f2 k2], .ro 5 z f b], [], k =>
    bif byB b && (kOk k0 && (kOk k1 && kOk k2)) then k ⟨parR ⟨[.ro 5 z0 f0 k0, .ro 5 z1 f1 k1, .ro 5 z2 f2 k2], b⟩, [], []⟩ else none
  | _, _, _ => none
noncomputable def s38' : Sig := { own := [], run := run38' }
theorem ok38' : CallOk tau Try.prog 38 s38' := CallOk.mk' fun xs es k res hl hr => by
  change run38' xs es k = some res at hr
  unfold run38' at hr
  split at hr
  · rename_i z0 f0 k0 z1 f1 k1 z2 f2 k2 z f b
    obtain ⟨hc, hr⟩ := of_bif hr
    simp only [Bool.and_eq_true] at hc
    have hg := (g38_eq z0 f0 z1 f1 z2 f2 z f k0 k1 k2 b hc.1 hc.2.1 hc.2.2.1 hc.2.2.2 k).trans hr
    exact fn_at tabOk F38_ok mixed fo38 bo38 (an38 (r38_0 10)) [.ro, .ro] 0 0 (ia38 10) hl rfl ((e38 10 z0 f0 k0 z1 f1 k1 z2 f2 k2 z f b k).trans hg)
  · cases hr
end Go.Proofs.Ytcklhipdldpkhaa.Rx
