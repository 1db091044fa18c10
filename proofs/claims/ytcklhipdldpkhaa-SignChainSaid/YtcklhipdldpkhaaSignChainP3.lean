/- What the functions of this law compute, and their plain laws. Conditions: none. -/
import Derived.Test.YtcklhipdldpkhaaSignChainP2
namespace Go.Proofs.Ytcklhipdldpkhaa.Rx
open Go
set_option linter.unusedVariables false
set_option maxRecDepth 100000
set_option maxHeartbeats 0
noncomputable abbrev z36 : List PV := [PV.sc (.int .u8 0), PV.sc (.int .u8 0), PV.sc (.int .u8 0), PV.sc (.int .u8 0), PV.sc (.int .u8 0), PV.sc (.int .u8 0), PV.sc (.int .u8 0), PV.sc (.int .u8 0), PV.sc (.int .u8 0), PV.sc (.int .u8 0), PV.sc (.int .u8 0), PV.sc (.int .u8 0), PV.sc (.int .u8 0), PV.sc (.int .u8 0), PV.sc (.int .u8 0), PV.sc (.int .u8 0), PV.sc (.int .u8 0), PV.sc (.int .u8 0), PV.sc (.int .u8 0), PV.sc (.int .u8 0), PV.sc (.int .u8 0), PV.sc (.int .u8 0), PV.sc (.int .u8 0), PV.sc (.int .u8 0), PV.sc (.int .u8 0), PV.sc (.int .u8 0), PV.sc (.int .u8 0), PV.sc (.int .u8 0), PV.sc (.int .u8 0), PV.sc (.int .u8 0), PV.sc (.int .u8 0), PV.sc (.int .u8 0), PV.sc (.int .u8 0), PV.sc (.int .u8 0), PV.sc (.int .u8 0), PV.sc (.int .u8 0), PV.sc (.int .u8 0), PV.sc (.int .u8 0), PV.sc (.int .u8 0), PV.sc (.int .u8 0), PV.sc (.int .u8 0), PV.sc (.int .u8 0), PV.sc (.int .u8 0), PV.sc (.int .u8 0), PV.sc (.int .u8 0), PV.sc (.int .u8 0), PV.sc (.int .u8 0), PV.sc (.int .u8 0), PV.sc (.int .u8 0), PV.sc (.int .u8 0), PV.sc (.int .u8 0), PV.sc (.int .u8 0), PV.sc (.int .u8 0), PV.sc (.int .u8 0), PV.sc (.int .u8 0), PV.sc (.int .u8 0), PV.sc (.int .u8 0), PV.sc (.int .u8 0), PV.sc (.int .u8 0), PV.sc (.int .u8 0), PV.sc (.int .u8 0), PV.sc (.int .u8 0), PV.sc (.int .u8 0), PV.sc (.int .u8 0)]
def N36 : Nat := 53
noncomputable def F36 : Fns := addF 28 s28' (F0)
theorem F36_ok : FnsOk tau Try.prog F36 := (F0_ok).add ok28' en28
noncomputable def c36_0 : Code := subC (Try.f36.body.get!) [1, 1, 1, 1, 0, 1, 0, 0]
def nm36_0 : Nm := [(1, .any), (4, .any), (5, .any), (7, .any), (8, .any), (9, .any)]
def nx36_0 : Nm := [(1, .any), (4, .any), (7, .any), (8, .any)]
def x36_0 : An := (.seq (.seq .leaf (.cond .leaf .leaf)) (.seq (.block none .leaf) .leaf))
def an36 (r0 : RunL) : An := (.seq .leaf (.seq .leaf (.seq (.seq .leaf (.cond (.seq .leaf .leaf) .leaf)) (.seq .leaf (.seq (.seq .leaf (.block none (.sum nm36_0 N36 r0))) (.seq .leaf (.seq .leaf .leaf)))))))
noncomputable def lpS36_0 (f : Nat) (rc : Bool → Bool → List PV → Int → List PV → List PV → List PV → List PV → Option Res) (k0 : Bool → Bool → List PV → List PV → List PV → List PV → Option Res) (v0 : Bool) (v1 : Bool) (v2 : List PV) (v3 : Int) (v4 : List PV) (v5 : List PV) (v6 : List PV) (v7 : List PV) : Option Res := bif decide (v3 < 64) then bif decide (0 ≤ v3) && decide (v3 < zi 64) && true then bif PV.isInt IntKind.u8 (getP (v5.getD (0 + v3.toNat) PV.top) []) && true then bif decide (0 ≤ v3) && decide (v3 < zi 64) && true then bif PV.isInt IntKind.u8 (getP (v5.getD (0 + v3.toNat) PV.top) []) && true then bif decide (0 ≤ v3) && decide (v3 < zi 64) && true then bif decide (0 ≤ v3) && decide (v3 < zi 64) && true then rc v0 v1 v2 (IntKind.i64.wrap (v3 + 1)) v4 v5 (v6.set (0 + v3.toNat) (.sc (.int .u8 (bitI BinOp.xor IntKind.u8 (getP (v5.getD (0 + v3.toNat) PV.top) []).int 54)))) (v7.set (0 + v3.toNat) (.sc (.int .u8 (bitI BinOp.xor IntKind.u8 (getP (v5.getD (0 + v3.toNat) PV.top) []).int 92)))) else none else none else none else none else none else none else k0 v0 v1 v2 v4 v6 v7
noncomputable def lp36_0 (f : Nat) (k0 : Bool → Bool → List PV → List PV → List PV → List PV → Option Res) : Nat → Bool → Bool → List PV → Int → List PV → List PV → List PV → List PV → Option Res
  | 0, _, _, _, _, _, _, _, _ => none
  | n + 1, v0, v1, v2, v3, v4, v5, v6, v7 => lpS36_0 f (lp36_0 f k0 n) k0 v0 v1 v2 v3 v4 v5 v6 v7
theorem lpR36_0 (f : Nat) (k : Kont) (n : Nat) (v0 : Bool) (v1 : Bool) (v2 : List PV) (v3 : Int) (v4 : List PV) (v5 : List PV) (v6 : List PV) (v7 : List PV) : evLoop tau 0 nm36_0 (fun s k => ev tau F36 0 0 c36_0 (x36_0 ) s k) (n + 1) (fillS nm36_0 N36 [.ro 5 v0 v1 v2, .ptr 864 [], .ow 5 865 [] 0 64 (some 64), .ow 5 866 [] 0 64 (some 64), .ow 5 867 [] 0 64 (some 64), .sc (.int .i64 v3)] [(864, .box false 37 (PV.ar 37 v4)), (865, .vec false 5 false v5), (866, .vec false 5 false v6), (867, .vec false 5 false v7)]) (kNorm tau 0 nx36_0 k) = lpS36_0 f (fun v0 v1 v2 v3 v4 v5 v6 v7 => evLoop tau 0 nm36_0 (fun s k => ev tau F36 0 0 c36_0 (x36_0 ) s k) n (fillS nm36_0 N36 [.ro 5 v0 v1 v2, .ptr 864 [], .ow 5 865 [] 0 64 (some 64), .ow 5 866 [] 0 64 (some 64), .ow 5 867 [] 0 64 (some 64), .sc (.int .i64 v3)] [(864, .box false 37 (PV.ar 37 v4)), (865, .vec false 5 false v5), (866, .vec false 5 false v6), (867, .vec false 5 false v7)]) (kNorm tau 0 nx36_0 k)) (fun x0 x1 x2 x3 x4 x5 => k (Ex.exit 0) (fillS nx36_0 N36 [.ro 5 x0 x1 x2, .ptr 864 [], .ow 5 865 [] 0 64 (some 64), .ow 5 866 [] 0 64 (some 64)] [(864, .box false 37 (PV.ar 37 x3)), (865, .vec false 5 false x4), (866, .vec false 5 false x5)])) v0 v1 v2 v3 v4 v5 v6 v7 := by kernel_rfl
theorem lpE36_0 (f : Nat) (k : Kont) : ∀ (n : Nat) (v0 : Bool) (v1 : Bool) (v2 : List PV) (v3 : Int) (v4 : List PV) (v5 : List PV) (v6 : List PV) (v7 : List PV), evLoop tau 0 nm36_0 (fun s k => ev tau F36 0 0 c36_0 (x36_0 ) s k) n (fillS nm36_0 N36 [.ro 5 v0 v1 v2, .ptr 864 [], .ow 5 865 [] 0 64 (some 64), .ow 5 866 [] 0 64 (some 64), .ow 5 867 [] 0 64 (some 64), .sc (.int .i64 v3)] [(864, .box false 37 (PV.ar 37 v4)), (865, .vec false 5 false v5), (866, .vec false 5 false v6), (867, .vec false 5 false v7)]) (kNorm tau 0 nx36_0 k) = lp36_0 f (fun x0 x1 x2 x3 x4 x5 => k (Ex.exit 0) (fillS nx36_0 N36 [.ro 5 x0 x1 x2, .ptr 864 [], .ow 5 865 [] 0 64 (some 64), .ow 5 866 [] 0 64 (some 64)] [(864, .box false 37 (PV.ar 37 x3)), (865, .vec false 5 false x4), (866, .vec false 5 false x5)])) n v0 v1 v2 v3 v4 v5 v6 v7 | 0, _, _, _, _, _, _, _, _ => rfl | n + 1, v0, v1, v2, v3, v4, v5, v6, v7 => (lpR36_0 f k n v0 v1 v2 v3 v4 v5 v6 v7).trans (congrArg (fun r => lpS36_0 f r (fun x0 x1 x2 x3 x4 x5 => k (Ex.exit 0) (fillS nx36_0 N36 [.ro 5 x0 x1 x2, .ptr 864 [], .ow 5 865 [] 0 64 (some 64), .ow 5 866 [] 0 64 (some 64)] [(864, .box false 37 (PV.ar 37 x3)), (865, .vec false 5 false x4), (866, .vec false 5 false x5)])) v0 v1 v2 v3 v4 v5 v6 v7) (by funext v0 v1 v2 v3 v4 v5 v6 v7; exact lpE36_0 f k n v0 v1 v2 v3 v4 v5 v6 v7))
noncomputable def r36_0 (f : Nat) : List PV → List (Nat × Ent) → Kont → Option Res
  | [.ro 5 v0 v1 v2, .ptr 864 [], .ow 5 865 [] 0 64 (some 64), .ow 5 866 [] 0 64 (some 64), .ow 5 867 [] 0 64 (some 64),
  PV.sc
    (Value.int IntKind.i64
      v3)], [(864, .box false 37 (PV.ar 37 v4)), (865, .vec false 5 false v5), (866, .vec false 5 false v6),
  (867,
    Ent.vec false 5 false
      v7)], k => lp36_0 f (fun x0 x1 x2 x3 x4 x5 => k (Ex.exit
  0) (fillS nx36_0 N36 [.ro 5 x0 x1 x2, .ptr 864 [], .ow 5 865 [] 0 64 (some 64),
  PV.ow 5 866 [] 0 64 (some 64)] [(864, .box false 37 (PV.ar 37 x3)), (865, .vec false 5 false x4), (866, .vec false 5 false x5)])) f v0 v1 v2 v3 v4 v5 v6 v7
  | _, _, _ => none
theorem it36_0 (f : Nat) : items c36_0 x36_0 = [] := by kernel_rfl
theorem i36_0 (f : Nat) : (Item.l c36_0 nm36_0 N36 (r36_0 f)).Ok tau Try.prog 0 := loop_item tabOk F36_ok mixed (x := x36_0) (nm2 := nx36_0) (anOk_items _ _ (by rw [it36_0 f]; intro q hq; cases hq)) fun vs hp k res hr => by
  unfold r36_0 at hr
  split at hr
  · exact ⟨f, 0, (lpE36_0 f _ f _ _ _ _ _ _ _ _ ).trans hr⟩
  · cases hr
noncomputable def g36 (f : Nat) (key_z : Bool) (key_f : Bool) (key : List PV) (text_z : Bool) (text_f : Bool) (text : List PV) (k : Res → Option Res) : Option Res := bif decide (zi key.length > 64) then bif allInt IntKind.u8 key && decide (key.length ≤ 140737488355000) then lp36_0 f (fun x0_0 x1_0 x2_0 x3_0 x4_0 x5_0 => bif roomy (64 + x2_0.length) 1 && true then bif allInt IntKind.u8 (List.take (64 + x2_0.length) (List.take 64 x4_0 ++ x2_0)) && decide ((List.take (64 + x2_0.length) (List.take 64 x4_0 ++ x2_0)).length ≤ 140737488355000) then bif roomy (64 + (List.take 32 (pu IntKind.u8 (sumP (ints (List.take (64 + x2_0.length) (List.take 64 x4_0 ++ x2_0)))))).length) 1 && true then bif allInt IntKind.u8 (List.take (64 + (List.take 32 (pu IntKind.u8 (sumP (ints (List.take (64 + x2_0.length) (List.take 64 x4_0 ++ x2_0)))))).length) (List.take 64 x5_0 ++ List.take 32 (pu IntKind.u8 (sumP (ints (List.take (64 + x2_0.length) (List.take 64 x4_0 ++ x2_0))))))) && decide ((List.take (64 + (List.take 32 (pu IntKind.u8 (sumP (ints (List.take (64 + x2_0.length) (List.take 64 x4_0 ++ x2_0)))))).length) (List.take 64 x5_0 ++ List.take 32 (pu IntKind.u8 (sumP (ints (List.take (64 + x2_0.length) (List.take 64 x4_0 ++ x2_0))))))).length ≤ 140737488355000) then k (Res.mk (.ar 37 (pu IntKind.u8 (sumP (ints (List.take (64 + (List.take 32 (pu IntKind.u8 (sumP (ints (List.take (64 + x2_0.length) (List.take 64 x4_0 ++ x2_0)))))).length) (List.take 64 x5_0 ++ List.take 32 (pu IntKind.u8 (sumP (ints (List.take (64 + x2_0.length) (List.take 64 x4_0 ++ x2_0))))))))))) [] []) else none else none else none else none) f text_z text_f text (0) ([.sc (.int .u8 0), .sc (.int .u8 0), .sc (.int .u8 0), .sc (.int .u8 0), .sc (.int .u8 0), .sc (.int .u8 0), .sc (.int .u8 0), .sc (.int .u8 0), .sc (.int .u8 0), .sc (.int .u8 0), .sc (.int .u8 0), .sc (.int .u8 0), .sc (.int .u8 0), .sc (.int .u8 0), .sc (.int .u8 0), .sc (.int .u8 0), .sc (.int .u8 0), .sc (.int .u8 0), .sc (.int .u8 0), .sc (.int .u8 0), .sc (.int .u8 0), .sc (.int .u8 0), .sc (.int .u8 0), .sc (.int .u8 0), .sc (.int .u8 0), .sc (.int .u8 0), .sc (.int .u8 0), .sc (.int .u8 0), .sc (.int .u8 0), .sc (.int .u8 0), .sc (.int .u8 0), .sc (.int .u8 0)]) (List.take 64 (List.take 32 (pu IntKind.u8 (sumP (ints key)))) ++ List.drop (0 + min (List.take 32 (pu IntKind.u8 (sumP (ints key)))).length 64) z36) (z36) (z36) else none else lp36_0 f (fun x0_1 x1_1 x2_1 x3_1 x4_1 x5_1 => bif roomy (64 + x2_1.length) 1 && true then bif allInt IntKind.u8 (List.take (64 + x2_1.length) (List.take 64 x4_1 ++ x2_1)) && decide ((List.take (64 + x2_1.length) (List.take 64 x4_1 ++ x2_1)).length ≤ 140737488355000) then bif roomy (64 + (List.take 32 (pu IntKind.u8 (sumP (ints (List.take (64 + x2_1.length) (List.take 64 x4_1 ++ x2_1)))))).length) 1 && true then bif allInt IntKind.u8 (List.take (64 + (List.take 32 (pu IntKind.u8 (sumP (ints (List.take (64 + x2_1.length) (List.take 64 x4_1 ++ x2_1)))))).length) (List.take 64 x5_1 ++ List.take 32 (pu IntKind.u8 (sumP (ints (List.take (64 + x2_1.length) (List.take 64 x4_1 ++ x2_1))))))) && decide ((List.take (64 + (List.take 32 (pu IntKind.u8 (sumP (ints (List.take (64 + x2_1.length) (List.take 64 x4_1 ++ x2_1)))))).length) (List.take 64 x5_1 ++ List.take 32 (pu IntKind.u8 (sumP (ints (List.take (64 + x2_1.length) (List.take 64 x4_1 ++ x2_1))))))).length ≤ 140737488355000) then k (Res.mk (.ar 37 (pu IntKind.u8 (sumP (ints (List.take (64 + (List.take 32 (pu IntKind.u8 (sumP (ints (List.take (64 + x2_1.length) (List.take 64 x4_1 ++ x2_1)))))).length) (List.take 64 x5_1 ++ List.take 32 (pu IntKind.u8 (sumP (ints (List.take (64 + x2_1.length) (List.take 64 x4_1 ++ x2_1))))))))))) [] []) else none else none else none else none) f text_z text_f text (0) ([.sc (.int .u8 0), .sc (.int .u8 0), .sc (.int .u8 0), .sc (.int .u8 0), .sc (.int .u8 0), .sc (.int .u8 0), .sc (.int .u8 0), .sc (.int .u8 0), .sc (.int .u8 0), .sc (.int .u8 0), .sc (.int .u8 0), .sc (.int .u8 0), .sc (.int .u8 0), .sc (.int .u8 0), .sc (.int .u8 0), .sc (.int .u8 0), .sc (.int .u8 0), .sc (.int .u8 0), .sc (.int .u8 0), .sc (.int .u8 0), .sc (.int .u8 0), .sc (.int .u8 0), .sc (.int .u8 0), .sc (.int .u8 0), .sc (.int .u8 0), .sc (.int .u8 0), .sc (.int .u8 0), .sc (.int .u8 0), .sc (.int .u8 0), .sc (.int .u8 0), .sc (.int .u8 0), .sc (.int .u8 0)]) (List.take 64 key ++ List.drop (0 + min key.length 64) z36) (z36) (z36)
theorem e36 (f : Nat) (key_z : Bool) (key_f : Bool) (key : List PV) (text_z : Bool) (text_f : Bool) (text : List PV) (k : Res → Option Res) : evFn tau F36 Try.f36 (Try.f36.body.get!) (an36 (r36_0 f)) [.ro] 0 [.ro 5 key_z key_f key, .ro 5 text_z text_f text] [] k = g36 f key_z key_f key text_z text_f text k := by kernel_rfl
theorem it36 (f : Nat) : items (Try.f36.body.get!) (an36 (r36_0 f)) = [.l c36_0 nm36_0 N36 (r36_0 f)] := by kernel_rfl
theorem ia36 (f : Nat) : ∀ q ∈ items (Try.f36.body.get!) (an36 (r36_0 f)), q.Ok tau Try.prog 0 := by
  rw [it36 f]; simp only [List.forall_mem_cons, List.not_mem_nil, false_implies, implies_true, and_true]; exact i36_0 f
theorem fo36 : Try.prog.funcs[36]? = some Try.f36 := by kernel_rfl
theorem bo36 : Try.f36.body = some (Try.f36.body.get!) := by kernel_rfl
theorem en36 : Enters Try.prog 36 := enters_of fo36 (by kernel_rfl) bo36
end Go.Proofs.Ytcklhipdldpkhaa.Rx

-- FN ref3.Mac
namespace Go.Proofs.Ytcklhipdldpkhaa.Rx
open Go
set_option linter.unusedVariables false
set_option linter.unusedSimpArgs false
set_option maxRecDepth 100000
set_option maxHeartbeats 1000000
theorem fill_xor' (K : List Int) (hK : K.length = 64) (x : Int) : (List.range 64).map (fun j => bitI .xor .u8 (K.getD j 0) x) = xorB K x := by
  rw [← fill_xor K hK x]
  apply List.map_congr_left
  intro j _
  exact bitI_xor_comm _ _ _
theorem l36_0 (K : List Int) (hK : K.length = 64) (f : Nat) (k0 : Bool → Bool → List PV → List PV → List PV → List PV → Option Res) (tz tf : Bool) (text h : List PV) : ∀ (d i n : Nat), i + d = 64 → d < n →
    lp36_0 f k0 n tz tf text (i : Int) h (pu .u8 K) (pu .u8 (fillM (fun j => bitI .xor .u8 (K.getD j 0) 54) (List.replicate 64 0) i)) (pu .u8 (fillM (fun j => bitI .xor .u8 (K.getD j 0) 92) (List.replicate 64 0) i)) = k0 tz tf text h (pu .u8 (xorB K 54)) (pu .u8 (xorB K 92))
  | 0, i, n + 1, hh, hn => by
      obtain rfl : i = 64 := by omega
      simp only [lp36_0, lpS36_0]
      refine (bif_f (by decide)).trans ?_
      have h1 := fillM_full (fun j => bitI .xor .u8 (K.getD j 0) 54) (List.replicate 64 0)
      have h2 := fillM_full (fun j => bitI .xor .u8 (K.getD j 0) 92) (List.replicate 64 0)
      rw [List.length_replicate] at h1 h2
      rw [h1, h2, fill_xor' K hK, fill_xor' K hK]
  | d + 1, i, n + 1, hh, hn => by
      have g1 : ((i : Int)).toNat = i := by omega
      have h1 : IntKind.i64.wrap ((i : Int) + 1) = ((i + 1 : Nat) : Int) := by rw [wrap_i64 (by omega) (by omega)]; omega
      have c0 : (decide (0 ≤ (i : Int)) && decide ((i : Int) < zi 64) && true) = true := by simp; omega
      simp only [lp36_0, lpS36_0, g1, h1, Nat.zero_add, getP]
      rw [pu_isInt (by omega), pu_int (by omega), pu_set, pu_set]
      refine (bif_t (by simp; omega)).trans ((bif_t c0).trans ((bif_t rfl).trans ((bif_t c0).trans ((bif_t rfl).trans ((bif_t c0).trans ((bif_t c0).trans ?_))))))
      have := l36_0 K hK f k0 tz tf text h d (i + 1) n (by omega) (by omega)
      rw [← fillM_set _ _ i (by simp; omega), ← fillM_set _ _ i (by simp; omega)] at this
      exact this
def macTail (a b text : List PV) (k : Res → Option Res) : Option Res :=
  bif roomy (64 + text.length) 1 && true then
    bif allInt .u8 (List.take (64 + text.length) (List.take 64 a ++ text)) && decide ((List.take (64 + text.length) (List.take 64 a ++ text)).length ≤ 140737488355000) then
      bif roomy (64 + (List.take 32 (pu .u8 (sumP (ints (List.take (64 + text.length) (List.take 64 a ++ text)))))).length) 1 && true then
        bif allInt .u8 (List.take (64 + (List.take 32 (pu .u8 (sumP (ints (List.take (64 + text.length) (List.take 64 a ++ text)))))).length) (List.take 64 b ++ List.take 32 (pu .u8 (sumP (ints (List.take (64 + text.length) (List.take 64 a ++ text)))))))
            && decide ((List.take (64 + (List.take 32 (pu .u8 (sumP (ints (List.take (64 + text.length) (List.take 64 a ++ text)))))).length) (List.take 64 b ++ List.take 32 (pu .u8 (sumP (ints (List.take (64 + text.length) (List.take 64 a ++ text))))))).length ≤ 140737488355000) then
          k ⟨.ar 37 (pu .u8 (sumP (ints (List.take (64 + (List.take 32 (pu .u8 (sumP (ints (List.take (64 + text.length) (List.take 64 a ++ text)))))).length) (List.take 64 b ++ List.take 32 (pu .u8 (sumP (ints (List.take (64 + text.length) (List.take 64 a ++ text)))))))))), [], []⟩
        else none
      else none
    else none
  else none
theorem g36_form (f : Nat) (kz kf : Bool) (key : List PV) (tz tf : Bool) (text : List PV) (k : Res → Option Res) : g36 f kz kf key tz tf text k =
    (bif decide (zi key.length > 64) then
      bif allInt .u8 key && decide (key.length ≤ 140737488355000) then
        lp36_0 f (fun _ _ t _ a b => macTail a b t k) f tz tf text 0 (pu .u8 (List.replicate 32 0)) (kbG (List.take 32 (pu .u8 (sumP (ints key))))) (pu .u8 (List.replicate 64 0)) (pu .u8 (List.replicate 64 0))
      else none
    else lp36_0 f (fun _ _ t _ a b => macTail a b t k) f tz tf text 0 (pu .u8 (List.replicate 32 0)) (kbG key) (pu .u8 (List.replicate 64 0)) (pu .u8 (List.replicate 64 0))) := by kernel_rfl
theorem macTail_eq (K T : List Int) (hK : K.length = 64) (hT : T.length ≤ 1000000000) (k : Res → Option Res) :
    macTail (pu .u8 (xorB K 54)) (pu .u8 (xorB K 92)) (pu .u8 T) k = k ⟨.ar 37 (pu .u8 (sumP (xorB K 92 ++ sumP (xorB K 54 ++ T)))), [], []⟩ := by
  have e1 : List.take (64 + (pu .u8 T).length) (List.take 64 (pu .u8 (xorB K 54)) ++ pu .u8 T) = pu .u8 (xorB K 54 ++ T) := by
    rw [List.take_of_length_le (i := 64) (by simp [hK]), List.take_of_length_le (by simp [hK]), ← pu_append]
  have e2 : ∀ l : List Int, List.take 32 (pu .u8 (sumP l)) = pu .u8 (sumP l) := fun l => List.take_of_length_le (by simp [sumP_length])
  have e3 : ∀ l : List Int, List.take (64 + (pu .u8 (sumP l)).length) (List.take 64 (pu .u8 (xorB K 92)) ++ pu .u8 (sumP l)) = pu .u8 (xorB K 92 ++ sumP l) := fun l => by
    rw [List.take_of_length_le (i := 64) (by simp [hK]), List.take_of_length_le (by simp [hK]), ← pu_append]
  unfold macTail
  rw [e1, e2, e3, bif_t (by simp [roomy]; omega), bif_t (by rw [allInt_pu, pu_length]; simp [hK]; omega), bif_t (by simp [roomy, sumP_length]), bif_t (by rw [allInt_pu, pu_length]; simp [hK, sumP_length])]
  simp only [ints_pu]
noncomputable def run36' : List PV → List Ent → (Res → Option Res) → Option Res
  | [.ro 5 kz kf key, .ro 5 tz tf text], [], k =>
    bif (allInt .u8 key && decide (key.length ≤ 1000000000)) && (allInt .u8 text && decide (text.length ≤ 1000000000)) then
      k ⟨.ar 37 (pu .u8 (macP (ints key) (ints text))), [], []⟩ else none
  | _, _, _ => none
noncomputable def s36' : Sig := { own := [], run := run36' }
theorem g36_eq (kz kf : Bool) (key : List PV) (tz tf : Bool) (text : List PV) (k : Res → Option Res) (a1 : allInt .u8 key = true) (a2 : key.length ≤ 1000000000) (h3 : allInt .u8 text = true) (h4 : text.length ≤ 1000000000) :
    g36 70 kz kf key tz tf text k = k ⟨.ar 37 (pu .u8 (macP (ints key) (ints text))), [], []⟩ := by
  rw [g36_form, macP_eq, macP0]
  have hi := pu_ints a1
  have ht := pu_ints h3
  have hL : ∀ K : List Int, K.length = 64 → lp36_0 70 (fun _ _ t _ a b => macTail a b t k) 70 tz tf text 0 (pu .u8 (List.replicate 32 0)) (pu .u8 K) (pu .u8 (List.replicate 64 0)) (pu .u8 (List.replicate 64 0)) = k ⟨.ar 37 (pu .u8 (sumP (xorB K 92 ++ sumP (xorB K 54 ++ ints text)))), [], []⟩ := by
    intro K hK
    have := l36_0 K hK 70 (fun _ _ t _ a b => macTail a b t k) tz tf text (pu .u8 (List.replicate 32 0)) 64 0 70 (by omega) (by omega)
    rw [fillM_zero, fillM_zero] at this
    refine this.trans ?_
    have hm := macTail_eq K (ints text) hK (by simpa using h4) k
    rw [← ht] at hm
    exact hm
  by_cases hc : key.length > 64
  · rw [bif_t (by simp [zi]; omega), bif_t (by simp [a1]; omega), List.take_of_length_le (by simp [sumP_length]), kbG_pu _ (by rw [sumP_length]; omega),
      hL _ (by rw [← keyB_length (ints key), keyB, if_pos (by simpa using hc)]), keyB, if_pos (by simpa using hc)]
  · have hl : (ints key).length ≤ 64 := by simp; omega
    rw [bif_f (by simp [zi]; omega), hi, kbG_pu _ hl, ints_pu, hL _ (by rw [← keyB_length (ints key), keyB, if_neg (by omega)]), keyB, if_neg (by omega)]
theorem ok36' : CallOk tau Try.prog 36 s36' := CallOk.mk' fun xs es k res hl hr => by
  change run36' xs es k = some res at hr
  unfold run36' at hr
  split at hr
  · rename_i kz kf key tz tf text
    obtain ⟨hc, hr⟩ := of_bif hr
    simp only [Bool.and_eq_true, decide_eq_true_eq] at hc
    obtain ⟨⟨a1, a2⟩, h3, h4⟩ := hc
    exact fn_at tabOk F36_ok mixed fo36 bo36 (an36 (r36_0 70)) [.ro] 0 0 (ia36 70) hl rfl ((e36 70 kz kf key tz tf text k).trans ((g36_eq kz kf key tz tf text k a1 a2 h3 h4).trans hr))
  · cases hr
end Go.Proofs.Ytcklhipdldpkhaa.Rx

namespace Go.Proofs.Ytcklhipdldpkhaa.Rx
open Go
set_option linter.unusedVariables false
set_option maxRecDepth 100000
set_option maxHeartbeats 0
noncomputable def F96o : Fns := addF 70 s70' (F0)
theorem F96o_ok : FnsOk tau Try.prog F96o := (F0_ok).add ok70' en70
def an96o : An := (.seq .leaf (.seq .leaf .leaf))
noncomputable def g96o (f : Nat) (b_z : Bool) (b_f : Bool) (b : List PV) (n : Int) (k : Res → Option Res) : Option Res := bif decide ((flat [.ro 5 b_z b_f b, .ro 5 false false [.sc (.int .u8 (IntKind.u8.wrap n))]]).length ≤ 140737488355328) && true then k (Res.mk (.ow 5 16 [] 0 (flat [.ro 5 b_z b_f b, .ro 5 false false [.sc (.int .u8 (IntKind.u8.wrap n))]]).length none) [] [.vec false 5 (flat [.ro 5 b_z b_f b, .ro 5 false false [.sc (.int .u8 (IntKind.u8.wrap n))]]).isEmpty (flat [.ro 5 b_z b_f b, .ro 5 false false [.sc (.int .u8 (IntKind.u8.wrap n))]])]) else none
theorem e96o (f : Nat) (b_z : Bool) (b_f : Bool) (b : List PV) (n : Int) (k : Res → Option Res) : evFn tau F96o Try.f96 (Try.f96.body.get!) an96o [] 0 [.ro 5 b_z b_f b, .sc (.int .i64 n)] [] k = g96o f b_z b_f b n k := by kernel_rfl
theorem it96o (f : Nat) : items (Try.f96.body.get!) an96o = [] := by kernel_rfl
theorem ia96o (f : Nat) : ∀ q ∈ items (Try.f96.body.get!) an96o, q.Ok tau Try.prog 0 := by
  rw [it96o f]; intro q hq; cases hq
theorem fo96o : Try.prog.funcs[96]? = some Try.f96 := by kernel_rfl
theorem bo96o : Try.f96.body = some (Try.f96.body.get!) := by kernel_rfl
end Go.Proofs.Ytcklhipdldpkhaa.Rx

namespace Go.Proofs.Ytcklhipdldpkhaa.Rx
open Go
set_option linter.unusedVariables false
set_option maxRecDepth 100000
set_option maxHeartbeats 0
noncomputable def F98o : Fns := addF 70 s70' (F0)
theorem F98o_ok : FnsOk tau Try.prog F98o := (F0_ok).add ok70' en70
def an98o : An := (.seq .leaf (.seq .leaf (.seq .leaf .leaf)))
noncomputable def g98o (f : Nat) (b_z : Bool) (b_f : Bool) (b : List PV) (s : ByteArray) (k : Res → Option Res) : Option Res := bif decide (0 ≤ minI (zi s.size) 65535) && true && decide ((minI (zi s.size) 65535).toNat ≤ s.size) && true then bif roomy (s.extract 0 (minI (zi s.size) 65535).toNat).size 1 && true then bif decide ((flat [.ro 5 b_z b_f b, .ro 5 false false [.sc (.int .u8 (IntKind.u8.wrap (zi (s.extract 0 (minI (zi s.size) 65535).toNat).size))), .sc (.int .u8 (IntKind.u8.wrap (shrI IntKind.i64 (zi (s.extract 0 (minI (zi s.size) 65535).toNat).size) 8)))], .ro 5 false false (List.take (s.extract 0 (minI (zi s.size) 65535).toNat).size (ofBytes (s.extract 0 (minI (zi s.size) 65535).toNat)))]).length ≤ 140737488355328) && true then k (Res.mk (.ow 5 16 [] 0 (flat [.ro 5 b_z b_f b, .ro 5 false false [.sc (.int .u8 (IntKind.u8.wrap (zi (s.extract 0 (minI (zi s.size) 65535).toNat).size))), .sc (.int .u8 (IntKind.u8.wrap (shrI IntKind.i64 (zi (s.extract 0 (minI (zi s.size) 65535).toNat).size) 8)))], .ro 5 false false (List.take (s.extract 0 (minI (zi s.size) 65535).toNat).size (ofBytes (s.extract 0 (minI (zi s.size) 65535).toNat)))]).length none) [] [.vec false 5 (flat [.ro 5 b_z b_f b, .ro 5 false false [.sc (.int .u8 (IntKind.u8.wrap (zi (s.extract 0 (minI (zi s.size) 65535).toNat).size))), .sc (.int .u8 (IntKind.u8.wrap (shrI IntKind.i64 (zi (s.extract 0 (minI (zi s.size) 65535).toNat).size) 8)))], .ro 5 false false (List.take (s.extract 0 (minI (zi s.size) 65535).toNat).size (ofBytes (s.extract 0 (minI (zi s.size) 65535).toNat)))]).isEmpty (flat [.ro 5 b_z b_f b, .ro 5 false false [.sc (.int .u8 (IntKind.u8.wrap (zi (s.extract 0 (minI (zi s.size) 65535).toNat).size))), .sc (.int .u8 (IntKind.u8.wrap (shrI IntKind.i64 (zi (s.extract 0 (minI (zi s.size) 65535).toNat).size) 8)))], .ro 5 false false (List.take (s.extract 0 (minI (zi s.size) 65535).toNat).size (ofBytes (s.extract 0 (minI (zi s.size) 65535).toNat)))])]) else none else none else none
theorem e98o (f : Nat) (b_z : Bool) (b_f : Bool) (b : List PV) (s : ByteArray) (k : Res → Option Res) : evFn tau F98o Try.f98 (Try.f98.body.get!) an98o [] 0 [.ro 5 b_z b_f b, .sc (.string s)] [] k = g98o f b_z b_f b s k := by kernel_rfl
theorem it98o (f : Nat) : items (Try.f98.body.get!) an98o = [] := by kernel_rfl
theorem ia98o (f : Nat) : ∀ q ∈ items (Try.f98.body.get!) an98o, q.Ok tau Try.prog 0 := by
  rw [it98o f]; intro q hq; cases hq
theorem fo98o : Try.prog.funcs[98]? = some Try.f98 := by kernel_rfl
theorem bo98o : Try.f98.body = some (Try.f98.body.get!) := by kernel_rfl
end Go.Proofs.Ytcklhipdldpkhaa.Rx

namespace Go.Proofs.Ytcklhipdldpkhaa.Rx
open Go
set_option linter.unusedVariables false
set_option linter.unusedSimpArgs false
set_option maxRecDepth 100000
set_option maxHeartbeats 1000000
noncomputable def run96o : List PV → List Ent → (Res → Option Res) → Option Res
  | [.ro 5 z f b, .sc (.int .i64 n)], [], k => bif slB z b then k ⟨.ow 5 16 [] 0 (b.length + 1) none, [], [.vec false 5 false (b ++ pu .u8 [IntKind.u8.wrap n])]⟩ else none
  | _, _, _ => none
noncomputable def s96o : Sig := { own := [], run := run96o }
theorem ok96o : CallOk tau Try.prog 96 s96o := CallOk.mk' fun xs es k res hl hr => by
  change run96o xs es k = some res at hr
  unfold run96o at hr
  split at hr
  · rename_i z f b n
    obtain ⟨hc, hr⟩ := of_bif hr
    obtain ⟨h1, h2⟩ := slB_iff.1 hc
    have hg : g96o 0 z f b n k = some res := by
      have hf : flat [PV.ro 5 z f b, PV.ro 5 false false [PV.sc (Value.int IntKind.u8 (IntKind.u8.wrap n))]] = b ++ pu .u8 [IntKind.u8.wrap n] := by simp [PV.els, pu]
      have hf2 : flat [PV.ro 5 z f b, PV.ro 5 false true [PV.sc (Value.int IntKind.u8 (IntKind.u8.wrap n))]] = b ++ pu .u8 [IntKind.u8.wrap n] := by simp [PV.els, pu]
      have he : (b ++ pu .u8 [IntKind.u8.wrap n]).isEmpty = false := by simp
      have hlen : (b ++ pu .u8 [IntKind.u8.wrap n]).length = b.length + 1 := by simp
      unfold g96o
      simp only [hf, hf2, List.take_length, List.drop_zero, List.take_succ_cons, List.take_zero, he, hlen, Ent.nil]
      rw [bif_t (by simp; omega)]
      exact hr
    exact fn_at tabOk F96o_ok mixed fo96o bo96o an96o [] 0 0 (ia96o 0) hl rfl ((e96o 0 z f b n k).trans hg)
  · cases hr
noncomputable def run98o : List PV → List Ent → (Res → Option Res) → Option Res
  | [.ro 5 z f b, .sc (.string s)], [], k => bif slB z b && Nat.ble s.size 65535 then k ⟨.ow 5 16 [] 0 (b.length + (s.size + 2)) none, [], [.vec false 5 false (b ++ pu .u8 (textB s))]⟩ else none
  | _, _, _ => none
noncomputable def s98o : Sig := { own := [], run := run98o }
theorem ok98o : CallOk tau Try.prog 98 s98o := CallOk.mk' fun xs es k res hl hr => by
  change run98o xs es k = some res at hr
  unfold run98o at hr
  split at hr
  · rename_i z f b s
    obtain ⟨hc, hr⟩ := of_bif hr
    rw [Bool.and_eq_true, Nat.ble_eq] at hc
    obtain ⟨h1, h2⟩ := slB_iff.1 hc.1
    have hg : g98o 0 z f b s k = some res := by
      have hm : minI (zi s.size) 65535 = (s.size : Int) := by unfold minI; rw [if_neg (by simp only [zi]; omega)]
      unfold g98o
      simp only [hm, Int.toNat_natCast, extract_all]
      have hf : ∀ x y : Bool, flat [PV.ro 5 z f b, PV.ro 5 false x [PV.sc (Value.int IntKind.u8 (IntKind.u8.wrap (zi s.size))), PV.sc (Value.int IntKind.u8 (IntKind.u8.wrap (shrI IntKind.i64 (zi s.size) 8)))], PV.ro 5 false y (List.take s.size (ofBytes s))] = b ++ pu .u8 (textB s) := by
        intro x y
        rw [ofBytes_pu, List.take_of_length_le (by simp), textB_eq, textB0]
        simp [PV.els, pu]
      have he : (b ++ pu .u8 (textB s)).isEmpty = false := by
        rw [textB_eq, textB0]; simp
      have hlen : (b ++ pu .u8 (textB s)).length = b.length + (s.size + 2) := by simp
      simp only [hf, List.take_length, List.drop_zero, List.take_succ_cons, List.take_zero, he, hlen, Ent.nil]
      rw [bif_t (by simp), bif_t (by simp [roomy]; omega), bif_t (by simp; omega)]
      exact hr
    exact fn_at tabOk F98o_ok mixed fo98o bo98o an98o [] 0 0 (ia98o 0) hl rfl ((e98o 0 z f b s k).trans hg)
  · cases hr
end Go.Proofs.Ytcklhipdldpkhaa.Rx

namespace Go.Proofs.Ytcklhipdldpkhaa.Rx
open Go
set_option linter.unusedVariables false
set_option linter.unusedSimpArgs false
set_option maxRecDepth 100000
noncomputable def apI : List PV → Int → List PV := hid fun b n => b ++ pu .u8 (intB n)
noncomputable def apY : List PV → Int → List PV := hid fun b n => b ++ pu .u8 [IntKind.u8.wrap n]
noncomputable def apT : List PV → ByteArray → List PV := hid fun b s => b ++ pu .u8 (textB s)
noncomputable def okZ : Bool → List PV → Bool := hid slB
noncomputable def okL : Nat → List PV → Bool := hid fun m l => Nat.beq m l.length && Nat.ble l.length 1000000000
theorem apI_eq (b : List PV) (n : Int) : apI b n = b ++ pu .u8 (intB n) := by rw [apI, hid_eq]
theorem apY_eq (b : List PV) (n : Int) : apY b n = b ++ pu .u8 [IntKind.u8.wrap n] := by rw [apY, hid_eq]
theorem apT_eq (b : List PV) (s : ByteArray) : apT b s = b ++ pu .u8 (textB s) := by rw [apT, hid_eq]
theorem okZ_eq (z : Bool) (b : List PV) : okZ z b = slB z b := by rw [okZ, hid_eq]
theorem okL_eq (m : Nat) (l : List PV) : okL m l = (Nat.beq m l.length && Nat.ble l.length 1000000000) := by rw [okL, hid_eq]
noncomputable def run97h : List PV → List Ent → (Res → Option Res) → Option Res
  | [.ro 5 z f b, .sc (.int .i64 n)], [], k => bif okZ z b then k ⟨.ro 5 false false (apI b n), [], []⟩ else none
  | _, _, _ => none
noncomputable def s97h : Sig := { own := [], run := run97h }
theorem ok97h : CallOk tau Try.prog 97 s97h := fun xs es k res hl hr => ok97' xs es k res hl (by
  change run97h xs es k = some res at hr
  show run97' xs es k = some res
  unfold run97h at hr
  split at hr
  · rw [okZ_eq, apI_eq] at hr; exact hr
  · cases hr)
noncomputable def run96h : List PV → List Ent → (Res → Option Res) → Option Res
  | [.ro 5 z f b, .sc (.int .i64 n)], [], k => bif okZ z b then k ⟨.ow 5 16 [] 0 (apY b n).length none, [], [.vec false 5 false (apY b n)]⟩ else none
  | _, _, _ => none
noncomputable def s96h : Sig := { own := [], run := run96h }
theorem ok96h : CallOk tau Try.prog 96 s96h := fun xs es k res hl hr => ok96o xs es k res hl (by
  change run96h xs es k = some res at hr
  show run96o xs es k = some res
  unfold run96h at hr
  split at hr
  · rename_i z f b n
    rw [okZ_eq, apY_eq, show (b ++ pu .u8 [IntKind.u8.wrap n]).length = b.length + 1 by simp] at hr; exact hr
  · cases hr)
noncomputable def run98h : List PV → List Ent → (Res → Option Res) → Option Res
  | [.ro 5 z f b, .sc (.string s)], [], k => bif okZ z b && Nat.ble s.size 65535 then k ⟨.ow 5 16 [] 0 (apT b s).length none, [], [.vec false 5 false (apT b s)]⟩ else none
  | _, _, _ => none
noncomputable def s98h : Sig := { own := [], run := run98h }
theorem ok98h : CallOk tau Try.prog 98 s98h := fun xs es k res hl hr => ok98o xs es k res hl (by
  change run98h xs es k = some res at hr
  show run98o xs es k = some res
  unfold run98h at hr
  split at hr
  · rename_i z f b s
    rw [okZ_eq, apT_eq, show (b ++ pu .u8 (textB s)).length = b.length + (s.size + 2) by simp] at hr; exact hr
  · cases hr)
noncomputable def run110h : List PV → List Ent → (Res → Option Res) → Option Res
  | [.ro 5 true true [], .sc (.int .i64 n)], [], k => k ⟨.ow 5 16 [] 0 (apY [] n).length none, [], [.vec false 5 false (apY [] n)]⟩
  | [.ow 5 0 [] 0 m none, .sc (.int .i64 n)], [.vec false 5 nl l], k => bif okL m l then k ⟨.ow 5 16 [] 0 (apY l n).length none, [.dead], [.vec false 5 false (apY l n)]⟩ else none
  | _, _, _ => none
noncomputable def s110h : Sig := { own := [true], run := run110h }
theorem ok110h : CallOk tau Try.prog 110 s110h := fun xs es k res hl hr => ok110' xs es k res hl (by
  change run110h xs es k = some res at hr
  show run110' xs es k = some res
  unfold run110h at hr
  split at hr
  · rw [apY_eq] at hr; exact hr
  · rename_i m n nl l
    rw [okL_eq, apY_eq] at hr
    obtain ⟨hc, hr⟩ := of_bif hr
    have hm : m = l.length := by rw [Bool.and_eq_true, Nat.beq_eq] at hc; exact hc.1
    have h2 : run110' [.ow 5 0 [] 0 m none, .sc (.int .i64 n)] [.vec false 5 nl l] k = k ⟨.ow 5 16 [] 0 (m + 1) none, [.dead], [.vec false 5 false (l ++ pu .u8 [IntKind.u8.wrap n])]⟩ := bif_t hc
    rw [h2, ← hr, hm]; simp
  · cases hr)
noncomputable def run108h : List PV → List Ent → (Res → Option Res) → Option Res
  | [.ow 5 0 [] 0 m none, .sc (.int .i64 n)], [.vec false 5 nl l], k => bif okL m l then k ⟨.ow 5 16 [] 0 (apI l n).length none, [.dead], [.vec false 5 false (apI l n)]⟩ else none
  | _, _, _ => none
noncomputable def s108h : Sig := { own := [true], run := run108h }
theorem ok108h : CallOk tau Try.prog 108 s108h := fun xs es k res hl hr => ok108' xs es k res hl (by
  change run108h xs es k = some res at hr
  show run108' xs es k = some res
  unfold run108h at hr
  split at hr
  · rename_i m n nl l
    rw [okL_eq, apI_eq] at hr
    obtain ⟨hc, hr⟩ := of_bif hr
    have hm : m = l.length := by rw [Bool.and_eq_true, Nat.beq_eq] at hc; exact hc.1
    have h2 : run108' [.ow 5 0 [] 0 m none, .sc (.int .i64 n)] [.vec false 5 nl l] k = k ⟨.ow 5 16 [] 0 (m + 8) none, [.dead], [.vec false 5 false (l ++ pu .u8 (intB n))]⟩ := bif_t hc
    rw [h2, ← hr, hm]; simp
  · cases hr)
noncomputable def run109h : List PV → List Ent → (Res → Option Res) → Option Res
  | [.ow 5 0 [] 0 m none, .sc (.string s)], [.vec false 5 nl l], k => bif okL m l && Nat.ble s.size 65535 then k ⟨.ow 5 16 [] 0 (apT l s).length none, [.dead], [.vec false 5 false (apT l s)]⟩ else none
  | _, _, _ => none
noncomputable def s109h : Sig := { own := [true], run := run109h }
theorem ok109h : CallOk tau Try.prog 109 s109h := fun xs es k res hl hr => ok109' xs es k res hl (by
  change run109h xs es k = some res at hr
  show run109' xs es k = some res
  unfold run109h at hr
  split at hr
  · rename_i m s nl l
    rw [okL_eq, apT_eq] at hr
    obtain ⟨hc, hr⟩ := of_bif hr
    have hm : m = l.length := by simp only [Bool.and_eq_true, Nat.beq_eq] at hc; exact hc.1.1
    have h2 : run109' [.ow 5 0 [] 0 m none, .sc (.string s)] [.vec false 5 nl l] k = k ⟨.ow 5 16 [] 0 (m + (s.size + 2)) none, [.dead], [.vec false 5 false (l ++ pu .u8 (textB s))]⟩ := bif_t hc
    rw [h2, ← hr, hm]; simp
  · cases hr)
end Go.Proofs.Ytcklhipdldpkhaa.Rx

namespace Go.Proofs.Ytcklhipdldpkhaa.Rx
open Go
set_option linter.unusedVariables false
set_option maxRecDepth 100000
set_option maxHeartbeats 0
noncomputable def F97o : Fns := addF 131 s131b (F0)
theorem F97o_ok : FnsOk tau Try.prog F97o := (F0_ok).add ok131b en131b
def nm97o_0 : Nm := [(0, .any), (1, .any), (5, .own), (6, .any)]
def x97o_0 : An := (.seq .leaf (.seq .leaf (.seq .leaf (.seq .leaf (.seq (.seq .leaf (.seq .leaf (.cond .leaf .leaf))) (.seq .leaf .leaf))))))
def an97o : An := (.seq .leaf (.scope nm97o_0 x97o_0))
noncomputable def g97o (f : Nat) (b_z : Bool) (b_f : Bool) (b : List PV) (n : Int) (k : Res → Option Res) : Option Res :=
  bif b_z then
    k (Res.mk (PV.ow 5 16 [] 0 8 none) []
      [Ent.vec false 5 false
          [PV.sc (Value.int IntKind.u8 (IntKind.u8.wrap (shrI IntKind.u64 (IntKind.u64.wrap n) (IntKind.i64.wrap (8 * 0))))),
            PV.sc (Value.int IntKind.u8 (IntKind.u8.wrap (shrI IntKind.u64 (IntKind.u64.wrap n) (IntKind.i64.wrap (8 * IntKind.i64.wrap (0 + 1)))))),
            PV.sc (Value.int IntKind.u8 (IntKind.u8.wrap (shrI IntKind.u64 (IntKind.u64.wrap n) (IntKind.i64.wrap (8 * IntKind.i64.wrap (IntKind.i64.wrap (0 + 1) + 1)))))),
            PV.sc (Value.int IntKind.u8 (IntKind.u8.wrap (shrI IntKind.u64 (IntKind.u64.wrap n) (IntKind.i64.wrap (8 * IntKind.i64.wrap (IntKind.i64.wrap (IntKind.i64.wrap (0 + 1) + 1) + 1)))))),
            PV.sc
              (Value.int IntKind.u8
                (IntKind.u8.wrap (shrI IntKind.u64 (IntKind.u64.wrap n) (IntKind.i64.wrap (8 * IntKind.i64.wrap (IntKind.i64.wrap (IntKind.i64.wrap (IntKind.i64.wrap (0 + 1) + 1) + 1) + 1)))))),
            PV.sc
              (Value.int IntKind.u8
                (IntKind.u8.wrap
                  (shrI IntKind.u64 (IntKind.u64.wrap n)
                    (IntKind.i64.wrap (8 * IntKind.i64.wrap (IntKind.i64.wrap (IntKind.i64.wrap (IntKind.i64.wrap (IntKind.i64.wrap (0 + 1) + 1) + 1) + 1) + 1)))))),
            PV.sc
              (Value.int IntKind.u8
                (IntKind.u8.wrap
                  (shrI IntKind.u64 (IntKind.u64.wrap n)
                    (IntKind.i64.wrap (8 * IntKind.i64.wrap (IntKind.i64.wrap (IntKind.i64.wrap (IntKind.i64.wrap (IntKind.i64.wrap (IntKind.i64.wrap (0 + 1) + 1) + 1) + 1) + 1) + 1)))))),
            PV.sc
              (Value.int IntKind.u8
                (IntKind.u8.wrap
                  (shrI IntKind.u64 (IntKind.u64.wrap n)
                    (IntKind.i64.wrap
                      (8 * IntKind.i64.wrap (IntKind.i64.wrap (IntKind.i64.wrap (IntKind.i64.wrap (IntKind.i64.wrap (IntKind.i64.wrap (IntKind.i64.wrap (0 + 1) + 1) + 1) + 1) + 1) + 1) + 1))))))]])
  else bif roomy (0 + b.length) 1 && true then
    bif roomy (0 + b.length + 1) 1 && true then
      bif roomy (0 + b.length + 1 + 1) 1 && true then
        bif roomy (0 + b.length + 1 + 1 + 1) 1 && true then
          bif roomy (0 + b.length + 1 + 1 + 1 + 1) 1 && true then
            bif roomy (0 + b.length + 1 + 1 + 1 + 1 + 1) 1 && true then
              bif roomy (0 + b.length + 1 + 1 + 1 + 1 + 1 + 1) 1 && true then
                bif roomy (0 + b.length + 1 + 1 + 1 + 1 + 1 + 1 + 1) 1 && true then
                  bif roomy (0 + b.length + 1 + 1 + 1 + 1 + 1 + 1 + 1 + 1) 1 && true then
                    bif roomy
                        (0 +
                          (List.take (0 + b.length + 1 + 1 + 1 + 1 + 1 + 1 + 1 + 1)
                              (List.take (0 + b.length + 1 + 1 + 1 + 1 + 1 + 1 + 1)
                                  (List.take (0 + b.length + 1 + 1 + 1 + 1 + 1 + 1)
                                      (List.take (0 + b.length + 1 + 1 + 1 + 1 + 1)
                                          (List.take (0 + b.length + 1 + 1 + 1 + 1)
                                              (List.take (0 + b.length + 1 + 1 + 1)
                                                  (List.take (0 + b.length + 1 + 1)
                                                      (List.take (0 + b.length + 1)
                                                          (List.take (0 + b.length) b ++
                                                            [PV.sc (Value.int IntKind.u8 (IntKind.u8.wrap (shrI IntKind.u64 (IntKind.u64.wrap n) (IntKind.i64.wrap (8 * 0)))))]) ++
                                                        [PV.sc (Value.int IntKind.u8 (IntKind.u8.wrap (shrI IntKind.u64 (IntKind.u64.wrap n) (IntKind.i64.wrap (8 * IntKind.i64.wrap (0 + 1))))))]) ++
                                                    [PV.sc
                                                        (Value.int IntKind.u8
                                                          (IntKind.u8.wrap (shrI IntKind.u64 (IntKind.u64.wrap n) (IntKind.i64.wrap (8 * IntKind.i64.wrap (IntKind.i64.wrap (0 + 1) + 1))))))]) ++
                                                [PV.sc
                                                    (Value.int IntKind.u8
                                                      (IntKind.u8.wrap
                                                        (shrI IntKind.u64 (IntKind.u64.wrap n) (IntKind.i64.wrap (8 * IntKind.i64.wrap (IntKind.i64.wrap (IntKind.i64.wrap (0 + 1) + 1) + 1))))))]) ++
                                            [PV.sc
                                                (Value.int IntKind.u8
                                                  (IntKind.u8.wrap
                                                    (shrI IntKind.u64 (IntKind.u64.wrap n)
                                                      (IntKind.i64.wrap (8 * IntKind.i64.wrap (IntKind.i64.wrap (IntKind.i64.wrap (IntKind.i64.wrap (0 + 1) + 1) + 1) + 1))))))]) ++
                                        [PV.sc
                                            (Value.int IntKind.u8
                                              (IntKind.u8.wrap
                                                (shrI IntKind.u64 (IntKind.u64.wrap n)
                                                  (IntKind.i64.wrap (8 * IntKind.i64.wrap (IntKind.i64.wrap (IntKind.i64.wrap (IntKind.i64.wrap (IntKind.i64.wrap (0 + 1) + 1) + 1) + 1) + 1))))))]) ++
                                    [PV.sc
                                        (Value.int IntKind.u8
                                          (IntKind.u8.wrap
                                            (shrI IntKind.u64 (IntKind.u64.wrap n)
                                              (IntKind.i64.wrap
                                                (8 *
                                                  IntKind.i64.wrap (IntKind.i64.wrap (IntKind.i64.wrap (IntKind.i64.wrap (IntKind.i64.wrap (IntKind.i64.wrap (0 + 1) + 1) + 1) + 1) + 1) + 1))))))]) ++
                                [PV.sc
                                    (Value.int IntKind.u8
                                      (IntKind.u8.wrap
                                        (shrI IntKind.u64 (IntKind.u64.wrap n)
                                          (IntKind.i64.wrap
                                            (8 *
                                              IntKind.i64.wrap
                                                (IntKind.i64.wrap (IntKind.i64.wrap (IntKind.i64.wrap (IntKind.i64.wrap (IntKind.i64.wrap (IntKind.i64.wrap (0 + 1) + 1) + 1) + 1) + 1) + 1) +
                                                  1))))))])).length)
                        1 &&
                      true then
                      k (Res.mk
                        (PV.ow 5 16 [] 0
                          (0 +
                            (List.take (0 + b.length + 1 + 1 + 1 + 1 + 1 + 1 + 1 + 1)
                                (List.take (0 + b.length + 1 + 1 + 1 + 1 + 1 + 1 + 1)
                                    (List.take (0 + b.length + 1 + 1 + 1 + 1 + 1 + 1)
                                        (List.take (0 + b.length + 1 + 1 + 1 + 1 + 1)
                                            (List.take (0 + b.length + 1 + 1 + 1 + 1)
                                                (List.take (0 + b.length + 1 + 1 + 1)
                                                    (List.take (0 + b.length + 1 + 1)
                                                        (List.take (0 + b.length + 1)
                                                            (List.take (0 + b.length) b ++
                                                              [PV.sc (Value.int IntKind.u8 (IntKind.u8.wrap (shrI IntKind.u64 (IntKind.u64.wrap n) (IntKind.i64.wrap (8 * 0)))))]) ++
                                                          [PV.sc (Value.int IntKind.u8 (IntKind.u8.wrap (shrI IntKind.u64 (IntKind.u64.wrap n) (IntKind.i64.wrap (8 * IntKind.i64.wrap (0 + 1))))))]) ++
                                                      [PV.sc
                                                          (Value.int IntKind.u8
                                                            (IntKind.u8.wrap (shrI IntKind.u64 (IntKind.u64.wrap n) (IntKind.i64.wrap (8 * IntKind.i64.wrap (IntKind.i64.wrap (0 + 1) + 1))))))]) ++
                                                  [PV.sc
                                                      (Value.int IntKind.u8
                                                        (IntKind.u8.wrap
                                                          (shrI IntKind.u64 (IntKind.u64.wrap n) (IntKind.i64.wrap (8 * IntKind.i64.wrap (IntKind.i64.wrap (IntKind.i64.wrap (0 + 1) + 1) + 1))))))]) ++
                                              [PV.sc
                                                  (Value.int IntKind.u8
                                                    (IntKind.u8.wrap
                                                      (shrI IntKind.u64 (IntKind.u64.wrap n)
                                                        (IntKind.i64.wrap (8 * IntKind.i64.wrap (IntKind.i64.wrap (IntKind.i64.wrap (IntKind.i64.wrap (0 + 1) + 1) + 1) + 1))))))]) ++
                                          [PV.sc
                                              (Value.int IntKind.u8
                                                (IntKind.u8.wrap
                                                  (shrI IntKind.u64 (IntKind.u64.wrap n)
                                                    (IntKind.i64.wrap
                                                      (8 * IntKind.i64.wrap (IntKind.i64.wrap (IntKind.i64.wrap (IntKind.i64.wrap (IntKind.i64.wrap (0 + 1) + 1) + 1) + 1) + 1))))))]) ++
                                      [PV.sc
                                          (Value.int IntKind.u8
                                            (IntKind.u8.wrap
                                              (shrI IntKind.u64 (IntKind.u64.wrap n)
                                                (IntKind.i64.wrap
                                                  (8 *
                                                    IntKind.i64.wrap
                                                      (IntKind.i64.wrap (IntKind.i64.wrap (IntKind.i64.wrap (IntKind.i64.wrap (IntKind.i64.wrap (0 + 1) + 1) + 1) + 1) + 1) + 1))))))]) ++
                                  [PV.sc
                                      (Value.int IntKind.u8
                                        (IntKind.u8.wrap
                                          (shrI IntKind.u64 (IntKind.u64.wrap n)
                                            (IntKind.i64.wrap
                                              (8 *
                                                IntKind.i64.wrap
                                                  (IntKind.i64.wrap (IntKind.i64.wrap (IntKind.i64.wrap (IntKind.i64.wrap (IntKind.i64.wrap (IntKind.i64.wrap (0 + 1) + 1) + 1) + 1) + 1) + 1) +
                                                    1))))))])).length)
                          none)
                        []
                        [Ent.vec false 5 false
                            (List.take (0 + b.length + 1 + 1 + 1 + 1 + 1 + 1 + 1 + 1)
                              (List.take (0 + b.length + 1 + 1 + 1 + 1 + 1 + 1 + 1)
                                  (List.take (0 + b.length + 1 + 1 + 1 + 1 + 1 + 1)
                                      (List.take (0 + b.length + 1 + 1 + 1 + 1 + 1)
                                          (List.take (0 + b.length + 1 + 1 + 1 + 1)
                                              (List.take (0 + b.length + 1 + 1 + 1)
                                                  (List.take (0 + b.length + 1 + 1)
                                                      (List.take (0 + b.length + 1)
                                                          (List.take (0 + b.length) b ++
                                                            [PV.sc (Value.int IntKind.u8 (IntKind.u8.wrap (shrI IntKind.u64 (IntKind.u64.wrap n) (IntKind.i64.wrap (8 * 0)))))]) ++
                                                        [PV.sc (Value.int IntKind.u8 (IntKind.u8.wrap (shrI IntKind.u64 (IntKind.u64.wrap n) (IntKind.i64.wrap (8 * IntKind.i64.wrap (0 + 1))))))]) ++
                                                    [PV.sc
                                                        (Value.int IntKind.u8
                                                          (IntKind.u8.wrap (shrI IntKind.u64 (IntKind.u64.wrap n) (IntKind.i64.wrap (8 * IntKind.i64.wrap (IntKind.i64.wrap (0 + 1) + 1))))))]) ++
                                                [PV.sc
                                                    (Value.int IntKind.u8
                                                      (IntKind.u8.wrap
                                                        (shrI IntKind.u64 (IntKind.u64.wrap n) (IntKind.i64.wrap (8 * IntKind.i64.wrap (IntKind.i64.wrap (IntKind.i64.wrap (0 + 1) + 1) + 1))))))]) ++
                                            [PV.sc
                                                (Value.int IntKind.u8
                                                  (IntKind.u8.wrap
                                                    (shrI IntKind.u64 (IntKind.u64.wrap n)
                                                      (IntKind.i64.wrap (8 * IntKind.i64.wrap (IntKind.i64.wrap (IntKind.i64.wrap (IntKind.i64.wrap (0 + 1) + 1) + 1) + 1))))))]) ++
                                        [PV.sc
                                            (Value.int IntKind.u8
                                              (IntKind.u8.wrap
                                                (shrI IntKind.u64 (IntKind.u64.wrap n)
                                                  (IntKind.i64.wrap (8 * IntKind.i64.wrap (IntKind.i64.wrap (IntKind.i64.wrap (IntKind.i64.wrap (IntKind.i64.wrap (0 + 1) + 1) + 1) + 1) + 1))))))]) ++
                                    [PV.sc
                                        (Value.int IntKind.u8
                                          (IntKind.u8.wrap
                                            (shrI IntKind.u64 (IntKind.u64.wrap n)
                                              (IntKind.i64.wrap
                                                (8 *
                                                  IntKind.i64.wrap (IntKind.i64.wrap (IntKind.i64.wrap (IntKind.i64.wrap (IntKind.i64.wrap (IntKind.i64.wrap (0 + 1) + 1) + 1) + 1) + 1) + 1))))))]) ++
                                [PV.sc
                                    (Value.int IntKind.u8
                                      (IntKind.u8.wrap
                                        (shrI IntKind.u64 (IntKind.u64.wrap n)
                                          (IntKind.i64.wrap
                                            (8 *
                                              IntKind.i64.wrap
                                                (IntKind.i64.wrap (IntKind.i64.wrap (IntKind.i64.wrap (IntKind.i64.wrap (IntKind.i64.wrap (IntKind.i64.wrap (0 + 1) + 1) + 1) + 1) + 1) + 1) +
                                                  1))))))]))])
                    else none
                  else none
                else none
              else none
            else none
          else none
        else none
      else none
    else none
  else none
theorem e97o (f : Nat) (b_z : Bool) (b_f : Bool) (b : List PV) (n : Int) (k : Res → Option Res) : evFn tau F97o Try.f97 (Try.f97.body.get!) an97o [] 12 [.ro 5 b_z b_f b, .sc (.int .i64 n)] [] k = g97o f b_z b_f b n k := by kernel_rfl
theorem it97o (f : Nat) : items (Try.f97.body.get!) an97o = [] := by kernel_rfl
theorem ia97o (f : Nat) : ∀ q ∈ items (Try.f97.body.get!) an97o, q.Ok tau Try.prog 0 := by
  rw [it97o f]; intro q hq; cases hq
theorem fo97o : Try.prog.funcs[97]? = some Try.f97 := by kernel_rfl
theorem bo97o : Try.f97.body = some (Try.f97.body.get!) := by kernel_rfl
end Go.Proofs.Ytcklhipdldpkhaa.Rx

namespace Go.Proofs.Ytcklhipdldpkhaa.Rx
open Go
set_option linter.unusedVariables false
set_option maxRecDepth 100000
set_option maxHeartbeats 0
noncomputable def F109 : Fns := F0
theorem F109_ok : FnsOk tau Try.prog F109 := F0_ok
def an109 : An := (.seq .leaf (.seq (.seq .leaf (.cond .leaf .leaf)) (.seq .leaf .leaf)))
noncomputable def g109 (f : Nat) (s : ByteArray) (k : Res → Option Res) : Option Res :=
  bif decide (zi s.size > 65535) then
    bif decide (65535 ≤ s.size) && true then
      bif roomy (2 + (ofBytes (s.extract 0 65535)).length) 1 && true then
        k (Res.mk (PV.ow 5 16 [] 0 (2 + (ofBytes (s.extract 0 65535)).length) none) []
          [Ent.vec false 5 false
              (PV.sc (Value.int IntKind.u8 (IntKind.u8.wrap (zi (s.extract 0 65535).size))) ::
                PV.sc (Value.int IntKind.u8 (IntKind.u8.wrap (shrI IntKind.i64 (zi (s.extract 0 65535).size) 8))) ::
                  id (ofBytes (s.extract 0 65535)))])
      else none
    else none
  else bif roomy (2 + (ofBytes s).length) 1 && true then
    k (Res.mk (PV.ow 5 16 [] 0 (2 + (ofBytes s).length) none) []
      [Ent.vec false 5 false
          (PV.sc (Value.int IntKind.u8 (IntKind.u8.wrap (zi s.size))) ::
            PV.sc (Value.int IntKind.u8 (IntKind.u8.wrap (shrI IntKind.i64 (zi s.size) 8))) ::
              id (ofBytes s))])
  else none
theorem e109 (f : Nat) (s : ByteArray) (k : Res → Option Res) : evFn tau F109 Try.f109 (Try.f109.body.get!) an109 [] 0 [.ro 5 true true [], .sc (.string s)] [] k = g109 f s k := by kernel_rfl
theorem it109 (f : Nat) : items (Try.f109.body.get!) an109 = [] := by kernel_rfl
theorem ia109 (f : Nat) : ∀ q ∈ items (Try.f109.body.get!) an109, q.Ok tau Try.prog 0 := by
  rw [it109 f]; intro q hq; cases hq
theorem fo109 : Try.prog.funcs[109]? = some Try.f109 := by kernel_rfl
theorem bo109 : Try.f109.body = some (Try.f109.body.get!) := by kernel_rfl
theorem en109 : Enters Try.prog 109 := enters_of fo109 (by kernel_rfl) bo109
end Go.Proofs.Ytcklhipdldpkhaa.Rx

namespace Go.Proofs.Ytcklhipdldpkhaa.Rx
open Go
set_option linter.unusedVariables false
set_option linter.unusedSimpArgs false
set_option maxRecDepth 100000
set_option maxHeartbeats 1000000
noncomputable def run97k : List PV → List Ent → (Res → Option Res) → Option Res
  | [.ro 5 z f b, .sc (.int .i64 n)], [], k => bif okZ z b then k ⟨.ow 5 16 [] 0 (apI b n).length none, [], [.vec false 5 false (apI b n)]⟩ else none
  | _, _, _ => none
noncomputable def s97k : Sig := { own := [], run := run97k }
theorem g97o_nil (f : Bool) (n : Int) (k : Res → Option Res) : g97o 0 true f [] n k = k ⟨.ow 5 16 [] 0 8 none, [], [.vec false 5 false (pu .u8 (intB n))]⟩ := by
  rw [intB_eq]; kernel_rfl
theorem g97o_b (f : Bool) (b : List PV) (hb : b.length ≤ 1000000000) (n : Int) (k : Res → Option Res) : g97o 0 false f b n k = k ⟨.ow 5 16 [] 0 (b.length + 8) none, [], [.vec false 5 false (b ++ pu .u8 (intB n))]⟩ := by
  rw [intB_eq]
  unfold g97o
  refine (bif_f rfl).trans ?_
  repeat rw [List.take_of_length_le (by simp <;> omega)]
  repeat (refine (bif_t (by simp [roomy]; omega)).trans ?_)
  simp only [List.nil_append, List.append_assoc, List.length_append, List.length_cons, List.length_nil, Nat.zero_add]
  rfl
theorem ok97k : CallOk tau Try.prog 97 s97k := CallOk.mk' fun xs es k res hl hr => by
  change run97k xs es k = some res at hr
  unfold run97k at hr
  split at hr
  · rename_i z f b n
    obtain ⟨hc, hr2⟩ := of_bif hr
    clear hr
    rw [okZ_eq] at hc
    obtain ⟨h1, h2⟩ := slB_iff.1 hc
    rw [apI_eq] at hr2
    have hg : g97o 0 z f b n k = some res := by
      cases z with
      | true => obtain rfl := h1 rfl; rw [g97o_nil]; simpa using hr2
      | false => rw [g97o_b f b h2]; simpa using hr2
    exact fn_at tabOk F97o_ok mixed fo97o bo97o an97o [] 0 12 (ia97o 0) hl rfl ((e97o 0 z f b n k).trans hg)
  · cases hr
noncomputable def run108k : List PV → List Ent → (Res → Option Res) → Option Res
  | [.ro 5 true true [], .sc (.int .i64 n)], [], k => k ⟨.ow 5 16 [] 0 (apI [] n).length none, [], [.vec false 5 false (apI [] n)]⟩
  | [.ow 5 0 [] 0 m none, .sc (.int .i64 n)], [.vec false 5 nl l], k => bif okL m l then k ⟨.ow 5 16 [] 0 (apI l n).length none, [.dead], [.vec false 5 false (apI l n)]⟩ else none
  | _, _, _ => none
noncomputable def s108k : Sig := { own := [true], run := run108k }
theorem ok108k : CallOk tau Try.prog 108 s108k := fun xs es k res hl hr => by
  change run108k xs es k = some res at hr
  unfold run108k at hr
  split at hr
  · rename_i n
    refine ok108' _ _ k res hl ?_
    rw [apI_eq] at hr
    show k ⟨.ow 5 16 [] 0 8 none, [], [.vec false 5 false (pu .u8 (intB n))]⟩ = some res
    simpa using hr
  · rename_i m n nl l
    exact ok108h _ _ k res hl hr
  · cases hr
noncomputable def run109k : List PV → List Ent → (Res → Option Res) → Option Res
  | [.ro 5 true true [], .sc (.string s)], [], k => bif Nat.ble s.size 65535 then k ⟨.ow 5 16 [] 0 (apT [] s).length none, [], [.vec false 5 false (apT [] s)]⟩ else none
  | [.ow 5 0 [] 0 m none, .sc (.string s)], [.vec false 5 nl l], k => bif okL m l && Nat.ble s.size 65535 then k ⟨.ow 5 16 [] 0 (apT l s).length none, [.dead], [.vec false 5 false (apT l s)]⟩ else none
  | _, _, _ => none
noncomputable def s109k : Sig := { own := [true], run := run109k }
theorem ok109k : CallOk tau Try.prog 109 s109k := CallOk.mk' fun xs es k res hl hr => by
  change run109k xs es k = some res at hr
  unfold run109k at hr
  split at hr
  · rename_i s
    obtain ⟨hc, hr⟩ := of_bif hr
    rw [Nat.ble_eq] at hc
    have hob : (ofBytes s).length = s.size := by rw [ofBytes_pu]; simp
    have hg : g109 0 s k = some res := by
      unfold g109
      rw [bif_f (by simp only [zi, decide_eq_false_iff_not]; omega), bif_t (by simp [roomy, hob]; omega), hob]
      rw [apT_eq, textB_eq, textB0] at hr
      simp only [List.nil_append, pu_append, List.length_append, pu_length, bsI_length, List.length_cons, List.length_nil, ← ofBytes_pu] at hr
      rw [← hr, hob]
      simp only [id, pu_cons, pu_nil, List.cons_append, List.nil_append, Nat.zero_add, Nat.reduceAdd]
    exact fn_at tabOk F109_ok mixed fo109 bo109 an109 [] 0 0 (ia109 0) hl rfl ((e109 0 s k).trans hg)
  · rename_i m s nl l
    exact ok109h _ _ k res hl hr
  · cases hr
end Go.Proofs.Ytcklhipdldpkhaa.Rx

namespace Go.Proofs.Ytcklhipdldpkhaa.Rx
open Go
set_option linter.unusedVariables false
set_option maxRecDepth 100000
set_option maxHeartbeats 0
def N114 : Nat := 34
noncomputable def F114 : Fns := addF 98 s98h (addF 97 s97h (addF 96 s96h (F0)))
theorem F114_ok : FnsOk tau Try.prog F114 := (((F0_ok).add ok96h en96).add ok97h en97).add ok98h en98
noncomputable def c114_0 : Code := subC (Try.f114.body.get!) [1, 0]
def nm114_0 : Nm := [(0, .any), (3, .own), (4, .any)]
def nx114_0 : Nm := [(2, .any)]
def x114_0 : An := (.seq .leaf (.seq .leaf (.seq .leaf (.seq (.seq .leaf (.cond (.seq .leaf (.seq .leaf .leaf)) .leaf)) (.seq .leaf .leaf)))))
def an114 (r0 : RunS) : An := (.seq .leaf (.ssum nm114_0 N114 (x114_0) r0))
noncomputable def lpS114_0 (f : Nat) (rc : Bool → Bool → List PV → Nat → Int → List PV → Option Res) (k0 : Nat → List PV → Option Res) (v0 : Bool) (v1 : Bool) (v2 : List PV) (v3 : Nat) (v4 : Int) (v5 : List PV) : Option Res := bif decide (v4 < zi v2.length) then bif decide (0 ≤ v4) && decide (v4 < zi v2.length) && (PV.isSt 99 #[Field.mk "Kind" 3 0 false "" "" 0, Field.mk "N" 3 1 false "" "" 8, Field.mk "S" 9 2 false "" "" 16].size (v2.getD v4.toNat PV.top) && (PV.isInt IntKind.i64 (PV.child 0 (v2.getD v4.toNat PV.top)) && (PV.isInt IntKind.i64 (PV.child (0 + 1) (v2.getD v4.toNat PV.top)) && ((PV.child (0 + 1 + 1) (v2.getD v4.toNat PV.top)).isStr && true)))) && true then bif okZ false (List.take v3 v5) then bif decide (0 ≤ v4) && decide (v4 < zi v2.length) && (PV.isSt 99 #[Field.mk "Kind" 3 0 false "" "" 0, Field.mk "N" 3 1 false "" "" 8, Field.mk "S" 9 2 false "" "" 16].size (v2.getD v4.toNat PV.top) && (PV.isInt IntKind.i64 (PV.child 0 (v2.getD v4.toNat PV.top)) && (PV.isInt IntKind.i64 (PV.child (0 + 1) (v2.getD v4.toNat PV.top)) && ((PV.child (0 + 1 + 1) (v2.getD v4.toNat PV.top)).isStr && true)))) && true then bif okZ false (List.take (apY (List.take v3 v5) (PV.child 0 (v2.getD v4.toNat PV.top)).int).length (apY (List.take v3 v5) (PV.child 0 (v2.getD v4.toNat PV.top)).int)) then bif decide (0 ≤ v4) && decide (v4 < zi v2.length) && (PV.isSt 99 #[Field.mk "Kind" 3 0 false "" "" 0, Field.mk "N" 3 1 false "" "" 8, Field.mk "S" 9 2 false "" "" 16].size (v2.getD v4.toNat PV.top) && (PV.isInt IntKind.i64 (PV.child 0 (v2.getD v4.toNat PV.top)) && (PV.isInt IntKind.i64 (PV.child (0 + 1) (v2.getD v4.toNat PV.top)) && ((PV.child (0 + 1 + 1) (v2.getD v4.toNat PV.top)).isStr && true)))) && true then bif okZ false (apI (List.take (apY (List.take v3 v5) (PV.child 0 (v2.getD v4.toNat PV.top)).int).length (apY (List.take v3 v5) (PV.child 0 (v2.getD v4.toNat PV.top)).int)) (PV.child (0 + 1) (v2.getD v4.toNat PV.top)).int) && (PV.child (0 + 1 + 1) (v2.getD v4.toNat PV.top)).str.size.ble 65535 then rc v0 v1 v2 ((apT (apI (List.take (apY (List.take v3 v5) (PV.child 0 (v2.getD v4.toNat PV.top)).int).length (apY (List.take v3 v5) (PV.child 0 (v2.getD v4.toNat PV.top)).int)) (PV.child (0 + 1) (v2.getD v4.toNat PV.top)).int) (PV.child (0 + 1 + 1) (v2.getD v4.toNat PV.top)).str).length) (IntKind.i64.wrap (v4 + 1)) (apT (apI (List.take (apY (List.take v3 v5) (PV.child 0 (v2.getD v4.toNat PV.top)).int).length (apY (List.take v3 v5) (PV.child 0 (v2.getD v4.toNat PV.top)).int)) (PV.child (0 + 1) (v2.getD v4.toNat PV.top)).int) (PV.child (0 + 1 + 1) (v2.getD v4.toNat PV.top)).str) else none else none else none else none else none else none else k0 v3 v5
noncomputable def lp114_0 (f : Nat) (k0 : Nat → List PV → Option Res) : Nat → Bool → Bool → List PV → Nat → Int → List PV → Option Res
  | 0, _, _, _, _, _, _ => none
  | n + 1, v0, v1, v2, v3, v4, v5 => lpS114_0 f (lp114_0 f k0 n) k0 v0 v1 v2 v3 v4 v5
theorem lpR114_0 (f : Nat) (k : Kont) (n : Nat) (v0 : Bool) (v1 : Bool) (v2 : List PV) (v3 : Nat) (v4 : Int) (v5 : List PV) : evScope tau 0 nm114_0 (hasLabel c114_0) (fun l s k => evFrom tau F114 0 0 c114_0 (x114_0 ) l s k) (n + 1) 0 (fillS nm114_0 N114 [.ro 99 v0 v1 v2, .ow 5 560 [] 0 v3 none, .sc (.int .i64 v4)] [(560, .vec false 5 false v5)]) (kNorm tau 0 nx114_0 k) = lpS114_0 f (fun v0 v1 v2 v3 v4 v5 => evScope tau 0 nm114_0 (hasLabel c114_0) (fun l s k => evFrom tau F114 0 0 c114_0 (x114_0 ) l s k) n 0 (fillS nm114_0 N114 [.ro 99 v0 v1 v2, .ow 5 560 [] 0 v3 none, .sc (.int .i64 v4)] [(560, .vec false 5 false v5)]) (kNorm tau 0 nx114_0 k)) (fun x0 x1 => k Ex.ret (fillS nx114_0 N114 [.ow 5 560 [] 0 x0 none] [(560, .vec false 5 false x1)])) v0 v1 v2 v3 v4 v5 := by kernel_rfl
theorem lpE114_0 (f : Nat) (k : Kont) : ∀ (n : Nat) (v0 : Bool) (v1 : Bool) (v2 : List PV) (v3 : Nat) (v4 : Int) (v5 : List PV), evScope tau 0 nm114_0 (hasLabel c114_0) (fun l s k => evFrom tau F114 0 0 c114_0 (x114_0 ) l s k) n 0 (fillS nm114_0 N114 [.ro 99 v0 v1 v2, .ow 5 560 [] 0 v3 none, .sc (.int .i64 v4)] [(560, .vec false 5 false v5)]) (kNorm tau 0 nx114_0 k) = lp114_0 f (fun x0 x1 => k Ex.ret (fillS nx114_0 N114 [.ow 5 560 [] 0 x0 none] [(560, .vec false 5 false x1)])) n v0 v1 v2 v3 v4 v5 | 0, _, _, _, _, _, _ => rfl | n + 1, v0, v1, v2, v3, v4, v5 => (lpR114_0 f k n v0 v1 v2 v3 v4 v5).trans (congrArg (fun r => lpS114_0 f r (fun x0 x1 => k Ex.ret (fillS nx114_0 N114 [.ow 5 560 [] 0 x0 none] [(560, .vec false 5 false x1)])) v0 v1 v2 v3 v4 v5) (by funext v0 v1 v2 v3 v4 v5; exact lpE114_0 f k n v0 v1 v2 v3 v4 v5))
noncomputable def r114_0 (f : Nat) : Nat → List PV → List (Nat × Ent) → Kont → Option Res
  | 0, [.ro 99 v0 v1 v2, .ow 5 560 [] 0 v3 none,
  PV.sc
    (Value.int IntKind.i64
      v4)], [(560, .vec false 5 false v5)], k => lp114_0 f (fun x0 x1 => k Ex.ret (fillS nx114_0 N114 [.ow 5 560 [] 0 x0 none] [(560, .vec false 5 false x1)])) f v0 v1 v2 v3 v4 v5
  | _, _, _, _ => none
theorem it114_0 (f : Nat) : items c114_0 x114_0 = [] := by kernel_rfl
theorem i114_0 (f : Nat) : (Item.s c114_0 nm114_0 N114 (r114_0 f)).Ok tau Try.prog 0 := scope_item tabOk F114_ok mixed (x := x114_0) (nm2 := nx114_0) (anOk_items _ _ (by rw [it114_0 f]; intro q hq; cases hq)) fun l vs hp k res hr => by
  unfold r114_0 at hr
  split at hr
  · exact ⟨f, 0, (lpE114_0 f _ f _ _ _ _ _ _ ).trans hr⟩
  · cases hr
noncomputable def g114 (f : Nat) (o_z : Bool) (o_f : Bool) (o : List PV) (k : Res → Option Res) : Option Res := bif okZ true [] then bif decide (0 < zi o.length) then bif decide (0 < zi o.length) && (PV.isSt 99 #[Field.mk "Kind" 3 0 false "" "" 0, Field.mk "N" 3 1 false "" "" 8, Field.mk "S" 9 2 false "" "" 16].size (o.getD (Int.toNat 0) PV.top) && (PV.isInt IntKind.i64 (PV.child 0 (o.getD 0 PV.top)) && (PV.isInt IntKind.i64 (PV.child (0 + 1) (o.getD 0 PV.top)) && ((PV.child (0 + 1 + 1) (o.getD 0 PV.top)).isStr && true)))) && true then bif okZ false (List.take (apY [] (zi o.length)).length (apY [] (zi o.length))) then bif decide (0 < zi o.length) && (PV.isSt 99 #[Field.mk "Kind" 3 0 false "" "" 0, Field.mk "N" 3 1 false "" "" 8, Field.mk "S" 9 2 false "" "" 16].size (o.getD (Int.toNat 0) PV.top) && (PV.isInt IntKind.i64 (PV.child 0 (o.getD 0 PV.top)) && (PV.isInt IntKind.i64 (PV.child (0 + 1) (o.getD 0 PV.top)) && ((PV.child (0 + 1 + 1) (o.getD 0 PV.top)).isStr && true)))) && true then bif okZ false (List.take (apY (List.take (apY [] (zi o.length)).length (apY [] (zi o.length))) (PV.child 0 (o.getD 0 PV.top)).int).length (apY (List.take (apY [] (zi o.length)).length (apY [] (zi o.length))) (PV.child 0 (o.getD 0 PV.top)).int)) then bif decide (0 < zi o.length) && (PV.isSt 99 #[Field.mk "Kind" 3 0 false "" "" 0, Field.mk "N" 3 1 false "" "" 8, Field.mk "S" 9 2 false "" "" 16].size (o.getD (Int.toNat 0) PV.top) && (PV.isInt IntKind.i64 (PV.child 0 (o.getD 0 PV.top)) && (PV.isInt IntKind.i64 (PV.child (0 + 1) (o.getD 0 PV.top)) && ((PV.child (0 + 1 + 1) (o.getD 0 PV.top)).isStr && true)))) && true then bif okZ false (apI (List.take (apY (List.take (apY [] (zi o.length)).length (apY [] (zi o.length))) (PV.child 0 (o.getD 0 PV.top)).int).length (apY (List.take (apY [] (zi o.length)).length (apY [] (zi o.length))) (PV.child 0 (o.getD 0 PV.top)).int)) (PV.child (0 + 1) (o.getD 0 PV.top)).int) && (PV.child (0 + 1 + 1) (o.getD 0 PV.top)).str.size.ble 65535 then lp114_0 f (fun x0_0 x1_0 => k (Res.mk (.ro 5 false false (List.take x0_0 x1_0)) [] [])) f o_z o_f o ((apT (apI (List.take (apY (List.take (apY [] (zi o.length)).length (apY [] (zi o.length))) (PV.child 0 (o.getD 0 PV.top)).int).length (apY (List.take (apY [] (zi o.length)).length (apY [] (zi o.length))) (PV.child 0 (o.getD 0 PV.top)).int)) (PV.child (0 + 1) (o.getD 0 PV.top)).int) (PV.child (0 + 1 + 1) (o.getD 0 PV.top)).str).length) (IntKind.i64.wrap (0 + 1)) (apT (apI (List.take (apY (List.take (apY [] (zi o.length)).length (apY [] (zi o.length))) (PV.child 0 (o.getD 0 PV.top)).int).length (apY (List.take (apY [] (zi o.length)).length (apY [] (zi o.length))) (PV.child 0 (o.getD 0 PV.top)).int)) (PV.child (0 + 1) (o.getD 0 PV.top)).int) (PV.child (0 + 1 + 1) (o.getD 0 PV.top)).str) else none else none else none else none else none else none else k (Res.mk (.ro 5 false false (List.take (apY [] (zi o.length)).length (apY [] (zi o.length)))) [] []) else none
theorem e114 (f : Nat) (o_z : Bool) (o_f : Bool) (o : List PV) (k : Res → Option Res) : evFn tau F114 Try.f114 (Try.f114.body.get!) (an114 (r114_0 f)) [.ro] 0 [.ro 99 o_z o_f o] [] k = g114 f o_z o_f o k := by kernel_rfl
theorem it114 (f : Nat) : items (Try.f114.body.get!) (an114 (r114_0 f)) = [.s c114_0 nm114_0 N114 (r114_0 f)] := by kernel_rfl
theorem ia114 (f : Nat) : ∀ q ∈ items (Try.f114.body.get!) (an114 (r114_0 f)), q.Ok tau Try.prog 0 := by
  rw [it114 f]; simp only [List.forall_mem_cons, List.not_mem_nil, false_implies, implies_true, and_true]; exact i114_0 f
theorem fo114 : Try.prog.funcs[114]? = some Try.f114 := by kernel_rfl
theorem bo114 : Try.f114.body = some (Try.f114.body.get!) := by kernel_rfl
theorem en114 : Enters Try.prog 114 := enters_of fo114 (by kernel_rfl) bo114
end Go.Proofs.Ytcklhipdldpkhaa.Rx

namespace Go.Proofs.Ytcklhipdldpkhaa.Rx
open Go
set_option linter.unusedVariables false
set_option maxRecDepth 100000
set_option maxHeartbeats 0
def N111 : Nat := 34
noncomputable def F111 : Fns := addF 110 s110h (addF 109 s109h (addF 108 s108h (F0)))
theorem F111_ok : FnsOk tau Try.prog F111 := (((F0_ok).add ok108h en108).add ok109h en109b).add ok110h en110
noncomputable def c111_0 : Code := subC (Try.f111.body.get!) [1, 1, 0, 1, 0, 0]
def nm111_0 : Nm := [(0, .any), (3, .own), (4, .any)]
def nx111_0 : Nm := [(3, .any)]
def x111_0 : An := (.seq (.seq .leaf (.cond .leaf .leaf)) (.seq (.block none .leaf) .leaf))
def an111 (r0 : RunL) : An := (.seq .leaf (.seq .leaf (.seq (.seq .leaf (.block none (.sum nm111_0 N111 r0))) (.seq .leaf .leaf))))
noncomputable def lpS111_0 (f : Nat) (rc : Bool → Bool → List PV → Nat → Int → List PV → Option Res) (k0 : Nat → List PV → Option Res) (v0 : Bool) (v1 : Bool) (v2 : List PV) (v3 : Nat) (v4 : Int) (v5 : List PV) : Option Res := bif decide (v4 < zi v2.length) then bif decide (0 ≤ v4) && decide (v4 < zi v2.length) && (PV.isSt 99 #[Field.mk "Kind" 3 0 false "" "" 0, Field.mk "N" 3 1 false "" "" 8, Field.mk "S" 9 2 false "" "" 16].size (v2.getD v4.toNat PV.top) && (PV.isInt IntKind.i64 (PV.child 0 (v2.getD v4.toNat PV.top)) && (PV.isInt IntKind.i64 (PV.child (0 + 1) (v2.getD v4.toNat PV.top)) && ((PV.child (0 + 1 + 1) (v2.getD v4.toNat PV.top)).isStr && true)))) && true then bif okL v3 v5 then bif decide (0 ≤ v4) && decide (v4 < zi v2.length) && (PV.isSt 99 #[Field.mk "Kind" 3 0 false "" "" 0, Field.mk "N" 3 1 false "" "" 8, Field.mk "S" 9 2 false "" "" 16].size (v2.getD v4.toNat PV.top) && (PV.isInt IntKind.i64 (PV.child 0 (v2.getD v4.toNat PV.top)) && (PV.isInt IntKind.i64 (PV.child (0 + 1) (v2.getD v4.toNat PV.top)) && ((PV.child (0 + 1 + 1) (v2.getD v4.toNat PV.top)).isStr && true)))) && true then bif okL (apY v5 (PV.child 0 (v2.getD v4.toNat PV.top)).int).length (apY v5 (PV.child 0 (v2.getD v4.toNat PV.top)).int) then bif decide (0 ≤ v4) && decide (v4 < zi v2.length) && (PV.isSt 99 #[Field.mk "Kind" 3 0 false "" "" 0, Field.mk "N" 3 1 false "" "" 8, Field.mk "S" 9 2 false "" "" 16].size (v2.getD v4.toNat PV.top) && (PV.isInt IntKind.i64 (PV.child 0 (v2.getD v4.toNat PV.top)) && (PV.isInt IntKind.i64 (PV.child (0 + 1) (v2.getD v4.toNat PV.top)) && ((PV.child (0 + 1 + 1) (v2.getD v4.toNat PV.top)).isStr && true)))) && true then bif okL (apI (apY v5 (PV.child 0 (v2.getD v4.toNat PV.top)).int) (PV.child (0 + 1) (v2.getD v4.toNat PV.top)).int).length (apI (apY v5 (PV.child 0 (v2.getD v4.toNat PV.top)).int) (PV.child (0 + 1) (v2.getD v4.toNat PV.top)).int) && (PV.child (0 + 1 + 1) (v2.getD v4.toNat PV.top)).str.size.ble 65535 then rc v0 v1 v2 ((apT (apI (apY v5 (PV.child 0 (v2.getD v4.toNat PV.top)).int) (PV.child (0 + 1) (v2.getD v4.toNat PV.top)).int) (PV.child (0 + 1 + 1) (v2.getD v4.toNat PV.top)).str).length) (IntKind.i64.wrap (v4 + 1)) (apT (apI (apY v5 (PV.child 0 (v2.getD v4.toNat PV.top)).int) (PV.child (0 + 1) (v2.getD v4.toNat PV.top)).int) (PV.child (0 + 1 + 1) (v2.getD v4.toNat PV.top)).str) else none else none else none else none else none else none else k0 v3 v5
noncomputable def lp111_0 (f : Nat) (k0 : Nat → List PV → Option Res) : Nat → Bool → Bool → List PV → Nat → Int → List PV → Option Res
  | 0, _, _, _, _, _, _ => none
  | n + 1, v0, v1, v2, v3, v4, v5 => lpS111_0 f (lp111_0 f k0 n) k0 v0 v1 v2 v3 v4 v5
theorem lpR111_0 (f : Nat) (k : Kont) (n : Nat) (v0 : Bool) (v1 : Bool) (v2 : List PV) (v3 : Nat) (v4 : Int) (v5 : List PV) : evLoop tau 0 nm111_0 (fun s k => ev tau F111 0 0 c111_0 (x111_0 ) s k) (n + 1) (fillS nm111_0 N111 [.ro 99 v0 v1 v2, .ow 5 560 [] 0 v3 none, .sc (.int .i64 v4)] [(560, .vec false 5 false v5)]) (kNorm tau 0 nx111_0 k) = lpS111_0 f (fun v0 v1 v2 v3 v4 v5 => evLoop tau 0 nm111_0 (fun s k => ev tau F111 0 0 c111_0 (x111_0 ) s k) n (fillS nm111_0 N111 [.ro 99 v0 v1 v2, .ow 5 560 [] 0 v3 none, .sc (.int .i64 v4)] [(560, .vec false 5 false v5)]) (kNorm tau 0 nx111_0 k)) (fun x0 x1 => k (Ex.exit 0) (fillS nx111_0 N111 [.ow 5 560 [] 0 x0 none] [(560, .vec false 5 false x1)])) v0 v1 v2 v3 v4 v5 := by kernel_rfl
theorem lpE111_0 (f : Nat) (k : Kont) : ∀ (n : Nat) (v0 : Bool) (v1 : Bool) (v2 : List PV) (v3 : Nat) (v4 : Int) (v5 : List PV), evLoop tau 0 nm111_0 (fun s k => ev tau F111 0 0 c111_0 (x111_0 ) s k) n (fillS nm111_0 N111 [.ro 99 v0 v1 v2, .ow 5 560 [] 0 v3 none, .sc (.int .i64 v4)] [(560, .vec false 5 false v5)]) (kNorm tau 0 nx111_0 k) = lp111_0 f (fun x0 x1 => k (Ex.exit 0) (fillS nx111_0 N111 [.ow 5 560 [] 0 x0 none] [(560, .vec false 5 false x1)])) n v0 v1 v2 v3 v4 v5 | 0, _, _, _, _, _, _ => rfl | n + 1, v0, v1, v2, v3, v4, v5 => (lpR111_0 f k n v0 v1 v2 v3 v4 v5).trans (congrArg (fun r => lpS111_0 f r (fun x0 x1 => k (Ex.exit 0) (fillS nx111_0 N111 [.ow 5 560 [] 0 x0 none] [(560, .vec false 5 false x1)])) v0 v1 v2 v3 v4 v5) (by funext v0 v1 v2 v3 v4 v5; exact lpE111_0 f k n v0 v1 v2 v3 v4 v5))
noncomputable def r111_0 (f : Nat) : List PV → List (Nat × Ent) → Kont → Option Res
  | [.ro 99 v0 v1 v2, .ow 5 560 [] 0 v3 none,
  PV.sc
    (Value.int IntKind.i64
      v4)], [(560, .vec false 5 false v5)], k => lp111_0 f (fun x0 x1 => k (Ex.exit 0) (fillS nx111_0 N111 [.ow 5 560 [] 0 x0 none] [(560, .vec false 5 false x1)])) f v0 v1 v2 v3 v4 v5
  | _, _, _ => none
theorem it111_0 (f : Nat) : items c111_0 x111_0 = [] := by kernel_rfl
theorem i111_0 (f : Nat) : (Item.l c111_0 nm111_0 N111 (r111_0 f)).Ok tau Try.prog 0 := loop_item tabOk F111_ok mixed (x := x111_0) (nm2 := nx111_0) (anOk_items _ _ (by rw [it111_0 f]; intro q hq; cases hq)) fun vs hp k res hr => by
  unfold r111_0 at hr
  split at hr
  · exact ⟨f, 0, (lpE111_0 f _ f _ _ _ _ _ _ ).trans hr⟩
  · cases hr
noncomputable def g111 (f : Nat) (o_z : Bool) (o_f : Bool) (o : List PV) (k : Res → Option Res) : Option Res := lp111_0 f (fun x0_0 x1_0 => k (Res.mk (.ow 5 16 [] 0 x0_0 none) [] [.vec false 5 false x1_0])) f o_z o_f o ((apY [] (zi o.length)).length) (0) (apY [] (zi o.length))
theorem e111 (f : Nat) (o_z : Bool) (o_f : Bool) (o : List PV) (k : Res → Option Res) : evFn tau F111 Try.f111 (Try.f111.body.get!) (an111 (r111_0 f)) [] 0 [.ro 99 o_z o_f o] [] k = g111 f o_z o_f o k := by kernel_rfl
theorem it111 (f : Nat) : items (Try.f111.body.get!) (an111 (r111_0 f)) = [.l c111_0 nm111_0 N111 (r111_0 f)] := by kernel_rfl
theorem ia111 (f : Nat) : ∀ q ∈ items (Try.f111.body.get!) (an111 (r111_0 f)), q.Ok tau Try.prog 0 := by
  rw [it111 f]; simp only [List.forall_mem_cons, List.not_mem_nil, false_implies, implies_true, and_true]; exact i111_0 f
theorem fo111 : Try.prog.funcs[111]? = some Try.f111 := by kernel_rfl
theorem bo111 : Try.f111.body = some (Try.f111.body.get!) := by kernel_rfl
theorem en111 : Enters Try.prog 111 := enters_of fo111 (by kernel_rfl) bo111
end Go.Proofs.Ytcklhipdldpkhaa.Rx

namespace Go.Proofs.Ytcklhipdldpkhaa.Rx
open Go
set_option linter.unusedVariables false
set_option maxRecDepth 100000
set_option maxHeartbeats 0
noncomputable def F167 : Fns := F0
theorem F167_ok : FnsOk tau Try.prog F167 := F0_ok
def an167 : An := (.seq .leaf (.seq (.seq .leaf (.block none (.seq (.seq .leaf (.cond .leaf .leaf)) (.cond (.seq .leaf (.cond (.seq .leaf .leaf) .leaf)) (.seq .leaf (.cond (.seq .leaf (.cond (.seq .leaf .leaf) .leaf)) (.seq .leaf .leaf))))))) (.seq (.seq .leaf (.cond (.seq .leaf .leaf) .leaf)) (.seq .leaf .leaf))))
noncomputable def g167 (f : Nat) (c_Kind : Int) (c_N : Int) (c_S : ByteArray) (k : Res → Option Res) : Option Res :=
  bif c_Kind == 1 then
    bif c_Kind == 1 then
      bif decide (c_N < 1) then
        k (Res.mk (PV.sc (Value.int IntKind.i64 1)) [] [])
      else bif decide (c_N > 120) then
        k (Res.mk (PV.sc (Value.int IntKind.i64 1)) [] [])
      else bif !beqB c_S (ByteArray.mk (Array.mk [])) then
        k (Res.mk (PV.sc (Value.int IntKind.i64 1)) [] [])
      else bif decide (zi c_S.size > 120) then
        k (Res.mk (PV.sc (Value.int IntKind.i64 5)) [] [])
      else k (Res.mk (PV.sc (Value.int IntKind.i64 0)) [] [])
    else bif c_Kind == 2 then
      bif c_N != 0 then
        k (Res.mk (PV.sc (Value.int IntKind.i64 1)) [] [])
      else bif beqB c_S (ByteArray.mk (Array.mk [])) then
        k (Res.mk (PV.sc (Value.int IntKind.i64 1)) [] [])
      else bif decide (zi c_S.size > 120) then
        k (Res.mk (PV.sc (Value.int IntKind.i64 5)) [] [])
      else k (Res.mk (PV.sc (Value.int IntKind.i64 0)) [] [])
    else k (Res.mk (PV.sc (Value.int IntKind.i64 3)) [] [])
  else bif c_Kind == 3 then
    bif decide (c_N < 1) then
      k (Res.mk (PV.sc (Value.int IntKind.i64 1)) [] [])
    else bif decide (c_N > 120) then
      k (Res.mk (PV.sc (Value.int IntKind.i64 1)) [] [])
    else bif !beqB c_S (ByteArray.mk (Array.mk [])) then
      k (Res.mk (PV.sc (Value.int IntKind.i64 1)) [] [])
    else bif decide (zi c_S.size > 120) then
      k (Res.mk (PV.sc (Value.int IntKind.i64 5)) [] [])
    else k (Res.mk (PV.sc (Value.int IntKind.i64 0)) [] [])
  else bif c_Kind == 2 then
    bif c_N != 0 then
      k (Res.mk (PV.sc (Value.int IntKind.i64 1)) [] [])
    else bif beqB c_S (ByteArray.mk (Array.mk [])) then
      k (Res.mk (PV.sc (Value.int IntKind.i64 1)) [] [])
    else bif decide (zi c_S.size > 120) then
      k (Res.mk (PV.sc (Value.int IntKind.i64 5)) [] [])
    else k (Res.mk (PV.sc (Value.int IntKind.i64 0)) [] [])
  else k (Res.mk (PV.sc (Value.int IntKind.i64 3)) [] [])
theorem e167 (f : Nat) (c_Kind : Int) (c_N : Int) (c_S : ByteArray) (k : Res → Option Res) : evFn tau F167 Try.f167 (Try.f167.body.get!) an167 [.ro] 0 [.st 99 [.sc (.int .i64 c_Kind), .sc (.int .i64 c_N), .sc (.string c_S)]] [] k = g167 f c_Kind c_N c_S k := by kernel_rfl
theorem it167 (f : Nat) : items (Try.f167.body.get!) an167 = [] := by kernel_rfl
theorem ia167 (f : Nat) : ∀ q ∈ items (Try.f167.body.get!) an167, q.Ok tau Try.prog 0 := by
  rw [it167 f]; intro q hq; cases hq
theorem fo167 : Try.prog.funcs[167]? = some Try.f167 := by kernel_rfl
theorem bo167 : Try.f167.body = some (Try.f167.body.get!) := by kernel_rfl
theorem en167 : Enters Try.prog 167 := enters_of fo167 (by kernel_rfl) bo167
noncomputable def run167 : List PV → List Ent → (Res → Option Res) → Option Res
  | [.st 99 [.sc (.int .i64 c_Kind), .sc (.int .i64 c_N), .sc (.string c_S)]], [], k => g167 0 c_Kind c_N c_S k
  | _, _, _ => none
noncomputable def s167 : Sig := { own := [], run := run167 }
theorem ok167 : CallOk tau Try.prog 167 s167 := fn_ok tabOk F167_ok mixed fo167 bo167 an167 [.ro] 0 [] run167 (ia167 0) fun xs es k res hr => by
  unfold run167 at hr
  split at hr
  · exact ⟨rfl, 0, (e167 0 _ _ _  _).trans hr⟩
  · cases hr
end Go.Proofs.Ytcklhipdldpkhaa.Rx

namespace Go.Proofs.Ytcklhipdldpkhaa.Rx
open Go
set_option linter.unusedVariables false
set_option maxRecDepth 100000
set_option maxHeartbeats 0
end Go.Proofs.Ytcklhipdldpkhaa.Rx

-- FN op.check | ref4.check
namespace Go.Proofs.Ytcklhipdldpkhaa.Rx
open Go
set_option linter.unusedVariables false
set_option linter.unusedSimpArgs false
set_option maxRecDepth 100000
set_option maxHeartbeats 1000000
structure CV where
  (kd n : Int) (s : ByteArray)
def ckC0 (c : CV) : Int :=
  bif c.kd == 1 || c.kd == 3 then (bif decide (c.n < 1) || (decide (c.n > 120) || !(c.s.size == 0)) then 1 else 0)
  else bif c.kd == 2 then (bif !(c.n == 0) || c.s.size == 0 then 1 else bif decide (zi c.s.size > 120) then 5 else 0) else 3
noncomputable def ckC : CV → Int := hid ckC0
theorem ckC_eq (c : CV) : ckC c = ckC0 c := by rw [ckC, hid_eq]
theorem beqB_nil (s : ByteArray) : beqB s (ByteArray.mk (Array.mk [])) = (s.size == 0) := by
  rw [beqB_eq]
  cases h : (s.size == 0) with
  | true =>
    have hs : s.size = 0 := by simpa using h
    refine decide_eq_true (ByteArray.ext (Array.eq_empty_of_size_eq_zero hs))
  | false =>
    refine decide_eq_false fun he => ?_
    rw [he] at h
    exact absurd h (by decide)
theorem g167_eq (kd n : Int) (s : ByteArray) (k : Res → Option Res) : g167 0 kd n s k = k ⟨.sc (.int .i64 (ckC ⟨kd, n, s⟩)), [], []⟩ := by
  rw [ckC_eq]
  unfold g167 ckC0
  simp only [beqB_nil, bne]
  have hcomb : (s.size == 0) = true → decide (zi s.size > 120) = false := fun h => by
    have : s.size = 0 := by simpa using h
    rw [this]; decide
  generalize (s.size == 0) = e0 at *
  generalize decide (zi s.size > 120) = e1 at *
  generalize decide (n < 1) = a
  generalize decide (n > 120) = b
  generalize (n == 0) = c
  generalize (kd == 1) = d1
  generalize (kd == 2) = d2
  generalize (kd == 3) = d3
  cases d1 <;> cases d3 <;> cases d2 <;> cases e0 <;> cases e1 <;> cases a <;> cases b <;> cases c <;> first | rfl | exact absurd (hcomb rfl) (by decide)
noncomputable def run167' : List PV → List Ent → (Res → Option Res) → Option Res
  | [.st 99 [.sc (.int .i64 kd), .sc (.int .i64 n), .sc (.string s)]], [], k => k ⟨.sc (.int .i64 (ckC ⟨kd, n, s⟩)), [], []⟩
  | _, _, _ => none
noncomputable def s167' : Sig := { own := [], run := run167' }
theorem ok167' : CallOk tau Try.prog 167 s167' := ok167.of fun xs es k res hr => by
  change run167' xs es k = some res at hr
  unfold run167' at hr
  split at hr
  · rename_i kd n s
    exact (g167_eq kd n s k).trans hr
  · cases hr
end Go.Proofs.Ytcklhipdldpkhaa.Rx

namespace Go.Proofs.Ytcklhipdldpkhaa.Rx
open Go
set_option linter.unusedVariables false
set_option maxRecDepth 100000
set_option maxHeartbeats 0
def N160 : Nat := 21
noncomputable def F160 : Fns := addF 167 s167' (F0)
theorem F160_ok : FnsOk tau Try.prog F160 := (F0_ok).add ok167' en167
noncomputable def c160_0 : Code := subC (Try.f160.body.get!) [1, 1, 0, 1, 0, 0]
def nm160_0 : Nm := [(9, .any), (10, .any), (11, .any)]
def nx160_0 : Nm := [(2, .any)]
def x160_0 : An := (.seq .leaf (.seq (.cond .leaf .leaf) (.seq (.block none (.seq .leaf (.seq .leaf (.seq .leaf (.cond (.seq .leaf .leaf) .leaf))))) .leaf)))
def an160 (r0 : RunL) : An := (.seq .leaf (.seq (.seq .leaf (.cond (.seq .leaf .leaf) .leaf)) (.seq (.seq .leaf (.block none (.sum nm160_0 N160 r0))) (.seq .leaf .leaf))))
noncomputable def lpS160_0 (f : Nat) (rc : Bool → Bool → List PV → Int → Int → Option Res) (k0 : Int → Option Res) (k1 : Option Res) (v0 : Bool) (v1 : Bool) (v2 : List PV) (v3 : Int) (v4 : Int) : Option Res :=
  bif decide (v4 < v3) then
    bif decide (0 ≤ v4) && decide (v4 < zi v2.length) &&
        (PV.isSt 99 #[Field.mk "Kind" 3 0 false "" "" 0, Field.mk "N" 3 1 false "" "" 8, Field.mk "S" 9 2 false "" "" 16].size (v2.getD v4.toNat PV.top) &&
          (PV.isInt IntKind.i64 (PV.child 0 (v2.getD v4.toNat PV.top)) &&
            (PV.isInt IntKind.i64 (PV.child (0 + 1) (v2.getD v4.toNat PV.top)) && ((PV.child (0 + 1 + 1) (v2.getD v4.toNat PV.top)).isStr && true)))) &&
      true then
      bif ckC (CV.mk (PV.child 0 (v2.getD v4.toNat PV.top)).int (PV.child (0 + 1) (v2.getD v4.toNat PV.top)).int (PV.child (0 + 1 + 1) (v2.getD v4.toNat PV.top)).str) != 0 then
        k0 (ckC (CV.mk (PV.child 0 (v2.getD v4.toNat PV.top)).int (PV.child (0 + 1) (v2.getD v4.toNat PV.top)).int (PV.child (0 + 1 + 1) (v2.getD v4.toNat PV.top)).str))
      else rc v0 v1 v2 v3 (IntKind.i64.wrap (v4 + 1))
    else none
  else k1
noncomputable def lp160_0 (f : Nat) (k0 : Int → Option Res) (k1 : Option Res) : Nat → Bool → Bool → List PV → Int → Int → Option Res
  | 0, _, _, _, _, _ => none
  | n + 1, v0, v1, v2, v3, v4 => lpS160_0 f (lp160_0 f k0 k1 n) k0 k1 v0 v1 v2 v3 v4
theorem lpR160_0 (f : Nat) (k : Kont) (n : Nat) (v0 : Bool) (v1 : Bool) (v2 : List
  PV) (v3 : Int) (v4 : Int) : evLoop tau 0 nm160_0 (fun s k => ev tau F160 0 0 c160_0 (x160_0 ) s k) (n + 1) (fillS nm160_0 N160 [PV.ro 99 v0 v1 v2, PV.sc (Value.int IntKind.i64 v3),
  PV.sc
    (Value.int IntKind.i64
      v4)] []) (kNorm tau 0 nx160_0 k) = lpS160_0 f (fun v0 v1 v2 v3 v4 => evLoop tau 0 nm160_0 (fun s k => ev tau F160 0 0 c160_0 (x160_0 ) s k) n (fillS nm160_0 N160 [PV.ro 99 v0 v1 v2,
  PV.sc (Value.int IntKind.i64 v3),
  PV.sc
    (Value.int IntKind.i64
      v4)] []) (kNorm tau 0 nx160_0 k)) (fun x0 => k Ex.ret (fillS nx160_0 N160 [PV.sc (Value.int IntKind.i64 x0)] [])) (k (Ex.exit 0) (fillS nx160_0 N160 [PV.top] [])) v0 v1 v2 v3 v4 := by kernel_rfl
theorem lpE160_0 (f : Nat) (k : Kont) : ∀ (n : Nat) (v0 : Bool) (v1 : Bool) (v2 : List
  PV) (v3 : Int) (v4 : Int), evLoop tau 0 nm160_0 (fun s k => ev tau F160 0 0 c160_0 (x160_0 ) s k) n (fillS nm160_0 N160 [PV.ro 99 v0 v1 v2, PV.sc (Value.int IntKind.i64 v3),
  PV.sc
    (Value.int IntKind.i64
      v4)] []) (kNorm tau 0 nx160_0 k) = lp160_0 f (fun x0 => k Ex.ret (fillS nx160_0 N160 [PV.sc (Value.int IntKind.i64 x0)] [])) (k (Ex.exit 0) (fillS nx160_0 N160 [PV.top] [])) n v0 v1 v2 v3 v4
  | 0, _, _, _, _, _ => rfl
  | n + 1, v0, v1, v2, v3, v4 => (lpR160_0 f k n v0 v1 v2 v3 v4).trans (congrArg (fun r => lpS160_0 f r (fun x0 => k Ex.ret (fillS nx160_0 N160 [PV.sc
    (Value.int IntKind.i64 x0)] [])) (k (Ex.exit 0) (fillS nx160_0 N160 [PV.top] [])) v0 v1 v2 v3 v4) (by funext v0 v1 v2 v3 v4; exact lpE160_0 f k n v0 v1 v2 v3 v4))
noncomputable def r160_0 (f : Nat) : List PV → List (Nat × Ent) → Kont → Option Res
  | [PV.ro 99 v0 v1 v2, PV.sc (Value.int IntKind.i64 v3),
  PV.sc
    (Value.int IntKind.i64 v4)], [], k => lp160_0 f (fun x0 => k Ex.ret (fillS nx160_0 N160 [PV.sc (Value.int IntKind.i64 x0)] [])) (k (Ex.exit 0) (fillS nx160_0 N160 [PV.top] [])) f v0 v1 v2 v3 v4
  | _, _, _ => none
theorem it160_0 (f : Nat) : items c160_0 x160_0 = [] := by kernel_rfl
theorem i160_0 (f : Nat) : (Item.l c160_0 nm160_0 N160 (r160_0 f)).Ok tau Try.prog 0 := loop_item tabOk F160_ok mixed (x := x160_0) (nm2 := nx160_0) (anOk_items _ _ (by rw [it160_0 f]; intro q hq; cases hq)) fun vs hp k res hr => by
  unfold r160_0 at hr
  split at hr
  · exact ⟨f, 0, (lpE160_0 f _ f _ _ _ _ _ ).trans hr⟩
  · cases hr
noncomputable def g160 (f : Nat) (o_z : Bool) (o_f : Bool) (o : List PV) (k : Res → Option Res) : Option Res :=
  bif decide (zi o.length > 40) then
    k (Res.mk (PV.sc (Value.int IntKind.i64 4)) [] [])
  else lp160_0 f (fun x0_0 =>
    k (Res.mk (PV.sc (Value.int IntKind.i64 x0_0)) [] [])) (k (Res.mk (PV.sc (Value.int IntKind.i64 0)) [] [])) f o_z o_f o (zi o.length) (0)
theorem e160 (f : Nat) (o_z : Bool) (o_f : Bool) (o : List PV) (k : Res → Option Res) : evFn tau F160 Try.f160 (Try.f160.body.get!) (an160 (r160_0 f)) [.ro] 0 [.ro 99 o_z o_f o] [] k = g160 f o_z o_f o k := by kernel_rfl
theorem it160 (f : Nat) : items (Try.f160.body.get!) (an160 (r160_0 f)) = [.l c160_0 nm160_0 N160 (r160_0 f)] := by kernel_rfl
theorem ia160 (f : Nat) : ∀ q ∈ items (Try.f160.body.get!) (an160 (r160_0 f)), q.Ok tau Try.prog 0 := by
  rw [it160 f]; simp only [List.forall_mem_cons, List.not_mem_nil, false_implies, implies_true, and_true]; exact i160_0 f
theorem fo160 : Try.prog.funcs[160]? = some Try.f160 := by kernel_rfl
theorem bo160 : Try.f160.body = some (Try.f160.body.get!) := by kernel_rfl
theorem en160 : Enters Try.prog 160 := enters_of fo160 (by kernel_rfl) bo160
end Go.Proofs.Ytcklhipdldpkhaa.Rx

namespace Go.Proofs.Ytcklhipdldpkhaa.Rx
open Go
set_option linter.unusedVariables false
set_option maxRecDepth 100000
set_option maxHeartbeats 0
end Go.Proofs.Ytcklhipdldpkhaa.Rx

namespace Go.Proofs.Ytcklhipdldpkhaa.Rx
open Go
set_option linter.unusedVariables false
set_option maxRecDepth 100000
set_option maxHeartbeats 0
end Go.Proofs.Ytcklhipdldpkhaa.Rx

-- FN op.Check | ref4.Check | law4.Few
namespace Go.Proofs.Ytcklhipdldpkhaa.Rx
open Go
set_option linter.unusedVariables false
set_option linter.unusedSimpArgs false
set_option maxRecDepth 100000
set_option maxHeartbeats 1000000
def isCp : PV → Bool
  | .st t [.sc (.int .i64 _), .sc (.int .i64 _), .sc (.string _)] => t == 99
  | _ => false
theorem isCp_iff {p : PV} : isCp p = true ↔ ∃ kd n s, p = .st 99 [.sc (.int .i64 kd), .sc (.int .i64 n), .sc (.string s)] := by
  constructor
  · intro h
    unfold isCp at h
    split at h
    · rename_i t kd n s
      obtain rfl : t = 99 := by simpa using h
      exact ⟨kd, n, s, rfl⟩
    · cases h
  · rintro ⟨kd, n, s, rfl⟩; rfl
def cv (p : PV) : CV := ⟨(p.child 0).int, (p.child 1).int, (p.child 2).str⟩
theorem isCp_cond {p : PV} (h : isCp p = true) : (PV.isSt 99 #[Field.mk "Kind" 3 0 false "" "" 0, Field.mk "N" 3 1 false "" "" 8, Field.mk "S" 9 2 false "" "" 16].size p && (PV.isInt IntKind.i64 (PV.child 0 p) && (PV.isInt IntKind.i64 (PV.child (0 + 1) p) && ((PV.child (0 + 1 + 1) p).isStr && true)))) = true := by
  obtain ⟨kd, n, s, rfl⟩ := isCp_iff.1 h
  simp [PV.isSt, PV.child, PV.isInt, PV.isStr]
theorem isCp_getD {l : List PV} (h : l.all isCp = true) {i : Nat} (hi : i < l.length) : isCp (l.getD i .top) = true := by
  rw [List.getD_eq_getElem?_getD, List.getElem?_eq_getElem hi]
  exact List.all_eq_true.1 h _ (List.getElem_mem hi)
noncomputable def ckL : List PV → Int
  | [] => 0
  | p :: r => bif ckC (cv p) == 0 then ckL r else ckC (cv p)
noncomputable def ckO0 (l : List PV) : Int := bif decide (zi l.length > 40) then 4 else ckL l
noncomputable def ckO : List PV → Int := hid ckO0
theorem ckO_eq (l : List PV) : ckO l = ckO0 l := by rw [ckO, hid_eq]
noncomputable def cOk : List PV → Bool := hid fun l => l.all isCp && Nat.ble l.length 9223372036854775807
theorem cOk_iff {l : List PV} : cOk l = true ↔ l.all isCp = true ∧ l.length ≤ 9223372036854775807 := by
  rw [cOk, hid_eq, Bool.and_eq_true, Nat.ble_eq]
theorem drop_getD {l : List PV} {i : Nat} (h : i < l.length) : l.drop i = l.getD i .top :: l.drop (i + 1) := by
  rw [List.drop_eq_getElem_cons h]; simp [List.getD_eq_getElem?_getD, h]
theorem l160_0 (l : List PV) (h1 : l.all isCp = true) (h2 : l.length ≤ 40) (f : Nat) (k0 : Int → Option Res) (k1 : Option Res) (z fl : Bool) : ∀ (d i n : Nat), i + d = l.length → d < n →
    lp160_0 f k0 k1 n z fl l (zi l.length) (i : Int) = bif ckL (l.drop i) == 0 then k1 else k0 (ckL (l.drop i))
  | 0, i, n + 1, hi, hn => by
      rw [List.drop_of_length_le (by omega)]
      simp only [lp160_0, lpS160_0]
      exact bif_f (by simp [zi]; omega)
  | d + 1, i, n + 1, hi, hn => by
      have g1 : ((i : Int)).toNat = i := by omega
      have w1 : IntKind.i64.wrap ((i : Int) + 1) = ((i + 1 : Nat) : Int) := by rw [wrap_i64 (by omega) (by omega)]; omega
      have hro : (decide (0 ≤ (i : Int)) && decide ((i : Int) < zi l.length) && (PV.isSt 99 #[Field.mk "Kind" 3 0 false "" "" 0, Field.mk "N" 3 1 false "" "" 8, Field.mk "S" 9 2 false "" "" 16].size (l.getD i PV.top) && (PV.isInt IntKind.i64 (PV.child 0 (l.getD i PV.top)) && (PV.isInt IntKind.i64 (PV.child (0 + 1) (l.getD i PV.top)) && ((PV.child (0 + 1 + 1) (l.getD i PV.top)).isStr && true)))) && true) = true := by
        have hq : (PV.isSt 99 #[Field.mk "Kind" 3 0 false "" "" 0, Field.mk "N" 3 1 false "" "" 8, Field.mk "S" 9 2 false "" "" 16].size (l.getD i PV.top) && (PV.isInt IntKind.i64 (PV.child 0 (l.getD i PV.top)) && (PV.isInt IntKind.i64 (PV.child (0 + 1) (l.getD i PV.top)) && ((PV.child (0 + 1 + 1) (l.getD i PV.top)).isStr && true)))) = true := isCp_cond (isCp_getD h1 (by omega))
        rw [hq]; simp [zi]; omega
      have hd := drop_getD (l := l) (i := i) (by omega)
      have hs : CV.mk (PV.child 0 (l.getD i PV.top)).int (PV.child (0 + 1) (l.getD i PV.top)).int (PV.child (0 + 1 + 1) (l.getD i PV.top)).str = cv (l.getD i .top) := rfl
      simp only [lp160_0, lpS160_0, g1, w1, hs]
      refine (bif_t (by simp [zi]; omega)).trans ((bif_t hro).trans ?_)
      rw [hd]
      cases hc : (ckC (cv (l.getD i .top)) == 0) with
      | true =>
        refine (bif_f (by simp only [bne, hc]; rfl)).trans ?_
        rw [l160_0 l h1 h2 f k0 k1 z fl d (i + 1) n (by omega) (by omega)]
        simp only [ckL, hc, cond_true]
      | false =>
        refine (bif_t (by simp only [bne, hc]; rfl)).trans ?_
        simp only [ckL, hc, cond_false]
noncomputable def run160' : List PV → List Ent → (Res → Option Res) → Option Res
  | [.ro 99 z f l], [], k => bif cOk l then k ⟨.sc (.int .i64 (ckO l)), [], []⟩ else none
  | _, _, _ => none
noncomputable def s160' : Sig := { own := [], run := run160' }
theorem g160_eq (z f : Bool) (l : List PV) (h : cOk l = true) (k : Res → Option Res) : g160 50 z f l k = k ⟨.sc (.int .i64 (ckO l)), [], []⟩ := by
  obtain ⟨h1, h2⟩ := cOk_iff.1 h
  rw [ckO_eq]
  unfold g160 ckO0
  cases hc : decide (zi l.length > 40) with
  | true => rfl
  | false =>
    have hl : l.length ≤ 40 := by simp only [zi, decide_eq_false_iff_not] at hc; omega
    rw [cond_false, cond_false]
    refine (l160_0 l h1 hl 50 _ _ z f l.length 0 50 (by omega) (by omega)).trans ?_
    rw [List.drop_zero]
    cases h0 : (ckL l == 0) with
    | true =>
      have : ckL l = 0 := by simpa using h0
      rw [this]; rfl
    | false => rfl
theorem ok160' : CallOk tau Try.prog 160 s160' := CallOk.mk' fun xs es k res hl hr => by
  change run160' xs es k = some res at hr
  unfold run160' at hr
  split at hr
  · rename_i z f l
    obtain ⟨hc, hr⟩ := of_bif hr
    exact fn_at tabOk F160_ok mixed fo160 bo160 (an160 (r160_0 50)) [.ro] 0 0 (ia160 50) hl rfl ((e160 50 z f l k).trans ((g160_eq z f l hc k).trans hr))
  · cases hr
end Go.Proofs.Ytcklhipdldpkhaa.Rx

-- FN delta.OpBytes | ref8.OpBytes
namespace Go.Proofs.Ytcklhipdldpkhaa.Rx
open Go
set_option linter.unusedVariables false
set_option linter.unusedSimpArgs false
set_option maxRecDepth 100000
set_option maxHeartbeats 1000000
noncomputable def compB (c : CV) : List Int := [IntKind.u8.wrap c.kd] ++ (intB c.n ++ textB c.s)
noncomputable def compsB (l : List PV) : List Int := l.flatMap fun p => compB (cv p)
noncomputable def opB0 (l : List PV) : List Int := [IntKind.u8.wrap (zi l.length)] ++ compsB l
noncomputable def opB : List PV → List Int := hid opB0
theorem opB_eq (l : List PV) : opB l = opB0 l := by rw [opB, hid_eq]
theorem compB_length (c : CV) : (compB c).length = c.s.size + 11 := by simp [compB]; omega
theorem compB_by (c : CV) : ∀ x ∈ compB c, 0 ≤ x ∧ x < 256 := by
  intro x hx
  simp only [compB, List.mem_append, List.mem_singleton] at hx
  rcases hx with rfl | h | h
  · exact wrap_by _
  · exact intB_by _ x h
  · exact textB_by _ x h
theorem opB_by (l : List PV) : ∀ x ∈ opB l, 0 ≤ x ∧ x < 256 := by
  intro x hx
  rw [opB_eq] at hx
  rcases List.mem_append.1 hx with h | h
  · rw [List.mem_singleton.1 h]; exact wrap_by _
  · obtain ⟨p, _, h⟩ := List.mem_flatMap.1 h
    exact compB_by _ x h
noncomputable def cBy : List PV → Bool := hid fun l => l.all isCp && (l.all (fun p => decide ((cv p).s.size ≤ 65535)) && decide (l.length ≤ 1000))
theorem cBy_iff {l : List PV} : cBy l = true ↔ l.all isCp = true ∧ (∀ p ∈ l, (cv p).s.size ≤ 65535) ∧ l.length ≤ 1000 := by
  rw [cBy, hid_eq]; simp only [Bool.and_eq_true, List.all_eq_true, decide_eq_true_eq]
theorem ap_comp (L : List PV) (p : PV) : apT (apI (apY L (PV.child 0 p).int) (PV.child (0 + 1) p).int) (PV.child (0 + 1 + 1) p).str = L ++ pu .u8 (compB (cv p)) := by
  rw [apT_eq, apI_eq, apY_eq]
  show _ = L ++ pu .u8 ([IntKind.u8.wrap (PV.child 0 p).int] ++ (intB (PV.child (0 + 1) p).int ++ textB (PV.child (0 + 1 + 1) p).str))
  simp only [pu_append, List.append_assoc]
theorem ap_len1 (L : List PV) (n : Int) : (apY L n).length = L.length + 1 := by rw [apY_eq]; simp
theorem ap_len2 (L : List PV) (n : Int) : (apI L n).length = L.length + 8 := by rw [apI_eq]; simp
theorem okL_t' {l : List PV} (h : l.length ≤ 1000000000) : okL l.length l = true := by
  rw [okL_eq, Bool.and_eq_true, Nat.beq_eq, Nat.ble_eq]; exact ⟨rfl, h⟩
theorem okZ_t' {l : List PV} (h : l.length ≤ 1000000000) : okZ false l = true := by rw [okZ_eq]; exact slB_iff.2 ⟨fun h => (by cases h), h⟩
theorem l114_0 (l : List PV) (h1 : l.all isCp = true) (h3 : ∀ p ∈ l, (cv p).s.size ≤ 65535) (h2 : l.length ≤ 1000) (f : Nat) (k0 : Nat → List PV → Option Res) (z fl : Bool) : ∀ (d i n : Nat) (L : List PV), i + d = l.length → d < n → L.length ≤ 1 + i * 65546 →
    lp114_0 f k0 n z fl l L.length (i : Int) L = k0 (L ++ pu .u8 (compsB (l.drop i))).length (L ++ pu .u8 (compsB (l.drop i)))
  | 0, i, n + 1, L, hi, hn, hL => by
      rw [List.drop_of_length_le (by omega)]
      simp only [lp114_0, lpS114_0, compsB, List.flatMap_nil, pu_nil, List.append_nil]
      exact bif_f (by simp [zi]; omega)
  | d + 1, i, n + 1, L, hi, hn, hL => by
      have g1 : ((i : Int)).toNat = i := by omega
      have w1 : IntKind.i64.wrap ((i : Int) + 1) = ((i + 1 : Nat) : Int) := by rw [wrap_i64 (by omega) (by omega)]; omega
      have hro : (decide (0 ≤ (i : Int)) && decide ((i : Int) < zi l.length) && (PV.isSt 99 #[Field.mk "Kind" 3 0 false "" "" 0, Field.mk "N" 3 1 false "" "" 8, Field.mk "S" 9 2 false "" "" 16].size (l.getD i PV.top) && (PV.isInt IntKind.i64 (PV.child 0 (l.getD i PV.top)) && (PV.isInt IntKind.i64 (PV.child (0 + 1) (l.getD i PV.top)) && ((PV.child (0 + 1 + 1) (l.getD i PV.top)).isStr && true)))) && true) = true := by
        have hq : (PV.isSt 99 #[Field.mk "Kind" 3 0 false "" "" 0, Field.mk "N" 3 1 false "" "" 8, Field.mk "S" 9 2 false "" "" 16].size (l.getD i PV.top) && (PV.isInt IntKind.i64 (PV.child 0 (l.getD i PV.top)) && (PV.isInt IntKind.i64 (PV.child (0 + 1) (l.getD i PV.top)) && ((PV.child (0 + 1 + 1) (l.getD i PV.top)).isStr && true)))) = true := isCp_cond (isCp_getD h1 (by omega))
        rw [hq]; simp [zi]; omega
      have hd := drop_getD (l := l) (i := i) (by omega)
      have hmem : l.getD i .top ∈ l := by rw [List.getD_eq_getElem?_getD, List.getElem?_eq_getElem (by omega)]; exact List.getElem_mem (by omega)
      have hsz := h3 _ hmem
      have hs2 : (PV.child (0 + 1 + 1) (l.getD i PV.top)).str.size.ble 65535 = true := Nat.ble_eq.symm ▸ hsz
      have hi2 : i * 65546 ≤ 999 * 65546 := Nat.mul_le_mul_right _ (by omega)
      simp only [lp114_0, lpS114_0, g1, w1, List.take_length]
      refine (bif_t (by simp [zi]; omega)).trans ((bif_t hro).trans ((bif_t (okZ_t' (by omega))).trans ((bif_t hro).trans ((bif_t (okZ_t' (by rw [ap_len1]; omega))).trans ((bif_t hro).trans ((bif_t (by rw [okZ_t' (by rw [ap_len2, ap_len1]; omega), hs2]; rfl)).trans ?_))))))
      rw [ap_comp]
      refine (l114_0 l h1 h3 h2 f k0 z fl d (i + 1) n _ (by omega) (by omega) (by rw [List.length_append, pu_length, compB_length]; omega)).trans ?_
      rw [hd]
      simp only [compsB, List.flatMap_cons, pu_append, List.append_assoc]
theorem l111_0 (l : List PV) (h1 : l.all isCp = true) (h3 : ∀ p ∈ l, (cv p).s.size ≤ 65535) (h2 : l.length ≤ 1000) (f : Nat) (k0 : Nat → List PV → Option Res) (z fl : Bool) : ∀ (d i n : Nat) (L : List PV), i + d = l.length → d < n → L.length ≤ 1 + i * 65546 →
    lp111_0 f k0 n z fl l L.length (i : Int) L = k0 (L ++ pu .u8 (compsB (l.drop i))).length (L ++ pu .u8 (compsB (l.drop i)))
  | 0, i, n + 1, L, hi, hn, hL => by
      rw [List.drop_of_length_le (by omega)]
      simp only [lp111_0, lpS111_0, compsB, List.flatMap_nil, pu_nil, List.append_nil]
      exact bif_f (by simp [zi]; omega)
  | d + 1, i, n + 1, L, hi, hn, hL => by
      have g1 : ((i : Int)).toNat = i := by omega
      have w1 : IntKind.i64.wrap ((i : Int) + 1) = ((i + 1 : Nat) : Int) := by rw [wrap_i64 (by omega) (by omega)]; omega
      have hro : (decide (0 ≤ (i : Int)) && decide ((i : Int) < zi l.length) && (PV.isSt 99 #[Field.mk "Kind" 3 0 false "" "" 0, Field.mk "N" 3 1 false "" "" 8, Field.mk "S" 9 2 false "" "" 16].size (l.getD i PV.top) && (PV.isInt IntKind.i64 (PV.child 0 (l.getD i PV.top)) && (PV.isInt IntKind.i64 (PV.child (0 + 1) (l.getD i PV.top)) && ((PV.child (0 + 1 + 1) (l.getD i PV.top)).isStr && true)))) && true) = true := by
        have hq : (PV.isSt 99 #[Field.mk "Kind" 3 0 false "" "" 0, Field.mk "N" 3 1 false "" "" 8, Field.mk "S" 9 2 false "" "" 16].size (l.getD i PV.top) && (PV.isInt IntKind.i64 (PV.child 0 (l.getD i PV.top)) && (PV.isInt IntKind.i64 (PV.child (0 + 1) (l.getD i PV.top)) && ((PV.child (0 + 1 + 1) (l.getD i PV.top)).isStr && true)))) = true := isCp_cond (isCp_getD h1 (by omega))
        rw [hq]; simp [zi]; omega
      have hd := drop_getD (l := l) (i := i) (by omega)
      have hmem : l.getD i .top ∈ l := by rw [List.getD_eq_getElem?_getD, List.getElem?_eq_getElem (by omega)]; exact List.getElem_mem (by omega)
      have hsz := h3 _ hmem
      have hs2 : (PV.child (0 + 1 + 1) (l.getD i PV.top)).str.size.ble 65535 = true := Nat.ble_eq.symm ▸ hsz
      have hi2 : i * 65546 ≤ 999 * 65546 := Nat.mul_le_mul_right _ (by omega)
      simp only [lp111_0, lpS111_0, g1, w1, List.take_length]
      refine (bif_t (by simp [zi]; omega)).trans ((bif_t hro).trans ((bif_t (okL_t' (by omega))).trans ((bif_t hro).trans ((bif_t (okL_t' (by rw [ap_len1]; omega))).trans ((bif_t hro).trans ((bif_t (by rw [okL_t' (by rw [ap_len2, ap_len1]; omega), hs2]; rfl)).trans ?_))))))
      rw [ap_comp]
      refine (l111_0 l h1 h3 h2 f k0 z fl d (i + 1) n _ (by omega) (by omega) (by rw [List.length_append, pu_length, compB_length]; omega)).trans ?_
      rw [hd]
      simp only [compsB, List.flatMap_cons, pu_append, List.append_assoc]
theorem opB_cons {l : List PV} : apY [] (zi l.length) = pu .u8 [IntKind.u8.wrap (zi l.length)] := by rw [apY_eq]; rfl
noncomputable def run114' : List PV → List Ent → (Res → Option Res) → Option Res
  | [.ro 99 z f l], [], k => bif cBy l then k ⟨.ro 5 false false (pu .u8 (opB l)), [], []⟩ else none
  | _, _, _ => none
noncomputable def s114' : Sig := { own := [], run := run114' }
theorem g114_eq (z f : Bool) (l : List PV) (h : cBy l = true) (k : Res → Option Res) : g114 1010 z f l k = k ⟨.ro 5 false false (pu .u8 (opB l)), [], []⟩ := by
  obtain ⟨h1, h3, h2⟩ := cBy_iff.1 h
  have hY := opB_cons (l := l)
  rw [opB_eq]
  unfold g114
  simp only [List.take_length]
  refine (bif_t (by rw [okZ_eq]; rfl)).trans ?_
  cases l with
  | nil => exact (bif_f (by simp [zi])).trans (by rw [hY]; rfl)
  | cons p r =>
    have hq : (PV.isSt 99 #[Field.mk "Kind" 3 0 false "" "" 0, Field.mk "N" 3 1 false "" "" 8, Field.mk "S" 9 2 false "" "" 16].size ((p :: r).getD 0 PV.top) && (PV.isInt IntKind.i64 (PV.child 0 ((p :: r).getD 0 PV.top)) && (PV.isInt IntKind.i64 (PV.child (0 + 1) ((p :: r).getD 0 PV.top)) && ((PV.child (0 + 1 + 1) ((p :: r).getD 0 PV.top)).isStr && true)))) = true := by
      have := isCp_cond (isCp_getD h1 (i := 0) (by simp))
      exact this
    have hro : (decide (0 < zi (p :: r).length) && (PV.isSt 99 #[Field.mk "Kind" 3 0 false "" "" 0, Field.mk "N" 3 1 false "" "" 8, Field.mk "S" 9 2 false "" "" 16].size ((p :: r).getD 0 PV.top) && (PV.isInt IntKind.i64 (PV.child 0 ((p :: r).getD 0 PV.top)) && (PV.isInt IntKind.i64 (PV.child (0 + 1) ((p :: r).getD 0 PV.top)) && ((PV.child (0 + 1 + 1) ((p :: r).getD 0 PV.top)).isStr && true)))) && true) = true := by
      rw [hq]; simp [zi]
    have hsz := h3 p List.mem_cons_self
    have hs2 : (PV.child (0 + 1 + 1) ((p :: r).getD 0 PV.top)).str.size.ble 65535 = true := Nat.ble_eq.symm ▸ hsz
    have l1 : (apY [] (zi (p :: r).length)).length = 1 := by rw [ap_len1]; rfl
    refine (bif_t (by simp [zi])).trans ((bif_t hro).trans ((bif_t (okZ_t' (by rw [l1]; decide))).trans ((bif_t hro).trans ((bif_t (okZ_t' (by rw [ap_len1, l1]; decide))).trans ((bif_t hro).trans ((bif_t (by rw [okZ_t' (by rw [ap_len2, ap_len1, l1]; decide), hs2]; rfl)).trans ?_))))))
    rw [ap_comp]
    have w1 : IntKind.i64.wrap (0 + 1) = ((1 : Nat) : Int) := by decide
    rw [w1]
    refine (l114_0 (p :: r) h1 h3 h2 1010 _ z f r.length 1 1010 _ (by simp; omega) (by simp at h2; omega) (by rw [List.length_append, pu_length, compB_length, l1]; have : (cv ((p :: r).getD 0 PV.top)).s.size ≤ 65535 := hsz; omega)).trans ?_
    rw [List.take_length, hY]
    simp only [opB0, compsB, List.flatMap_cons, pu_append, List.append_assoc, List.drop_succ_cons, List.drop_zero, List.getD_cons_zero]
theorem ok114' : CallOk tau Try.prog 114 s114' := CallOk.mk' fun xs es k res hl hr => by
  change run114' xs es k = some res at hr
  unfold run114' at hr
  split at hr
  · rename_i z f l
    obtain ⟨hc, hr⟩ := of_bif hr
    exact fn_at tabOk F114_ok mixed fo114 bo114 (an114 (r114_0 1010)) [.ro] 0 0 (ia114 1010) hl rfl ((e114 1010 z f l k).trans ((g114_eq z f l hc k).trans hr))
  · cases hr
noncomputable def run111' : List PV → List Ent → (Res → Option Res) → Option Res
  | [.ro 99 z f l], [], k => bif cBy l then k ⟨.ow 5 16 [] 0 (opB l).length none, [], [.vec false 5 false (pu .u8 (opB l))]⟩ else none
  | _, _, _ => none
noncomputable def s111' : Sig := { own := [], run := run111' }
theorem g111_eq (z f : Bool) (l : List PV) (h : cBy l = true) (k : Res → Option Res) : g111 1010 z f l k = k ⟨.ow 5 16 [] 0 (opB l).length none, [], [.vec false 5 false (pu .u8 (opB l))]⟩ := by
  obtain ⟨h1, h3, h2⟩ := cBy_iff.1 h
  have hY := opB_cons (l := l)
  rw [opB_eq]
  unfold g111
  refine (l111_0 l h1 h3 h2 1010 _ z f l.length 0 1010 _ (by omega) (by omega) (by rw [ap_len1]; simp)).trans ?_
  rw [List.drop_zero, hY, ← pu_append]
  rw [show [IntKind.u8.wrap (zi l.length)] ++ compsB l = opB0 l from rfl, pu_length]
theorem ok111' : CallOk tau Try.prog 111 s111' := CallOk.mk' fun xs es k res hl hr => by
  change run111' xs es k = some res at hr
  unfold run111' at hr
  split at hr
  · rename_i z f l
    obtain ⟨hc, hr⟩ := of_bif hr
    exact fn_at tabOk F111_ok mixed fo111 bo111 (an111 (r111_0 1010)) [] 0 0 (ia111 1010) hl rfl ((e111 1010 z f l k).trans ((g111_eq z f l hc k).trans hr))
  · cases hr

end Go.Proofs.Ytcklhipdldpkhaa.Rx

namespace Go.Proofs.Ytcklhipdldpkhaa.Rx
open Go
set_option linter.unusedVariables false
set_option maxRecDepth 100000
set_option maxHeartbeats 0
noncomputable def F101 : Fns := addF 114 s114' (addF 98 s98h (addF 97 s97k (addF 96 s96h (F0))))
theorem F101_ok : FnsOk tau Try.prog F101 := ((((F0_ok).add ok96h en96).add ok97k en97).add ok98h en98).add ok114' en114
def nm101_0 : Nm := [(1, .any), (3, .any), (16, .any), (17, .any), (18, .any)]
def x101_0 : An := (.seq .leaf (.seq (.cond .leaf .leaf) (.seq (.block none (.seq .leaf .leaf)) .leaf)))
def an101 : An := (.seq .leaf (.seq .leaf (.seq (.seq .leaf (.block none (.loop nm101_0 x101_0))) (.seq .leaf (.seq .leaf .leaf)))))
noncomputable def g101 (f : Nat) (d_Author_D : Int) (d_Author_U : Int) (d_Id : Int) (d_Version : Int) (d_Hash : List PV) (d_Kind : Int) (d_Op_z : Bool) (d_Op_f : Bool) (d_Op : List PV) (d_Who_D : Int) (d_Who_U : Int) (k : Res → Option Res) : Option Res := bif okZ true [] then bif okZ false (List.take (apI [] d_Author_D).length (apI [] d_Author_D)) then bif okZ false (List.take (apI (List.take (apI [] d_Author_D).length (apI [] d_Author_D)) d_Author_U).length (apI (List.take (apI [] d_Author_D).length (apI [] d_Author_D)) d_Author_U)) then bif okZ false (List.take (apI (List.take (apI (List.take (apI [] d_Author_D).length (apI [] d_Author_D)) d_Author_U).length (apI (List.take (apI [] d_Author_D).length (apI [] d_Author_D)) d_Author_U)) d_Id).length (apI (List.take (apI (List.take (apI [] d_Author_D).length (apI [] d_Author_D)) d_Author_U).length (apI (List.take (apI [] d_Author_D).length (apI [] d_Author_D)) d_Author_U)) d_Id)) then bif roomy ((apI (List.take (apI (List.take (apI (List.take (apI [] d_Author_D).length (apI [] d_Author_D)) d_Author_U).length (apI (List.take (apI [] d_Author_D).length (apI [] d_Author_D)) d_Author_U)) d_Id).length (apI (List.take (apI (List.take (apI [] d_Author_D).length (apI [] d_Author_D)) d_Author_U).length (apI (List.take (apI [] d_Author_D).length (apI [] d_Author_D)) d_Author_U)) d_Id)) d_Version).length + (List.take 32 d_Hash).length) 1 && true then bif okZ false (List.take ((apI (List.take (apI (List.take (apI (List.take (apI [] d_Author_D).length (apI [] d_Author_D)) d_Author_U).length (apI (List.take (apI [] d_Author_D).length (apI [] d_Author_D)) d_Author_U)) d_Id).length (apI (List.take (apI (List.take (apI [] d_Author_D).length (apI [] d_Author_D)) d_Author_U).length (apI (List.take (apI [] d_Author_D).length (apI [] d_Author_D)) d_Author_U)) d_Id)) d_Version).length + (List.take 32 d_Hash).length) (List.take (apI (List.take (apI (List.take (apI (List.take (apI [] d_Author_D).length (apI [] d_Author_D)) d_Author_U).length (apI (List.take (apI [] d_Author_D).length (apI [] d_Author_D)) d_Author_U)) d_Id).length (apI (List.take (apI (List.take (apI [] d_Author_D).length (apI [] d_Author_D)) d_Author_U).length (apI (List.take (apI [] d_Author_D).length (apI [] d_Author_D)) d_Author_U)) d_Id)) d_Version).length (apI (List.take (apI (List.take (apI (List.take (apI [] d_Author_D).length (apI [] d_Author_D)) d_Author_U).length (apI (List.take (apI [] d_Author_D).length (apI [] d_Author_D)) d_Author_U)) d_Id).length (apI (List.take (apI (List.take (apI [] d_Author_D).length (apI [] d_Author_D)) d_Author_U).length (apI (List.take (apI [] d_Author_D).length (apI [] d_Author_D)) d_Author_U)) d_Id)) d_Version) ++ List.take 32 d_Hash)) then bif cBy d_Op then bif allInt IntKind.u8 (pu IntKind.u8 (opB d_Op)) && true then bif okZ false (List.take (apY (List.take ((apI (List.take (apI (List.take (apI (List.take (apI [] d_Author_D).length (apI [] d_Author_D)) d_Author_U).length (apI (List.take (apI [] d_Author_D).length (apI [] d_Author_D)) d_Author_U)) d_Id).length (apI (List.take (apI (List.take (apI [] d_Author_D).length (apI [] d_Author_D)) d_Author_U).length (apI (List.take (apI [] d_Author_D).length (apI [] d_Author_D)) d_Author_U)) d_Id)) d_Version).length + (List.take 32 d_Hash).length) (List.take (apI (List.take (apI (List.take (apI (List.take (apI [] d_Author_D).length (apI [] d_Author_D)) d_Author_U).length (apI (List.take (apI [] d_Author_D).length (apI [] d_Author_D)) d_Author_U)) d_Id).length (apI (List.take (apI (List.take (apI [] d_Author_D).length (apI [] d_Author_D)) d_Author_U).length (apI (List.take (apI [] d_Author_D).length (apI [] d_Author_D)) d_Author_U)) d_Id)) d_Version).length (apI (List.take (apI (List.take (apI (List.take (apI [] d_Author_D).length (apI [] d_Author_D)) d_Author_U).length (apI (List.take (apI [] d_Author_D).length (apI [] d_Author_D)) d_Author_U)) d_Id).length (apI (List.take (apI (List.take (apI [] d_Author_D).length (apI [] d_Author_D)) d_Author_U).length (apI (List.take (apI [] d_Author_D).length (apI [] d_Author_D)) d_Author_U)) d_Id)) d_Version) ++ List.take 32 d_Hash)) d_Kind).length (apY (List.take ((apI (List.take (apI (List.take (apI (List.take (apI [] d_Author_D).length (apI [] d_Author_D)) d_Author_U).length (apI (List.take (apI [] d_Author_D).length (apI [] d_Author_D)) d_Author_U)) d_Id).length (apI (List.take (apI (List.take (apI [] d_Author_D).length (apI [] d_Author_D)) d_Author_U).length (apI (List.take (apI [] d_Author_D).length (apI [] d_Author_D)) d_Author_U)) d_Id)) d_Version).length + (List.take 32 d_Hash).length) (List.take (apI (List.take (apI (List.take (apI (List.take (apI [] d_Author_D).length (apI [] d_Author_D)) d_Author_U).length (apI (List.take (apI [] d_Author_D).length (apI [] d_Author_D)) d_Author_U)) d_Id).length (apI (List.take (apI (List.take (apI [] d_Author_D).length (apI [] d_Author_D)) d_Author_U).length (apI (List.take (apI [] d_Author_D).length (apI [] d_Author_D)) d_Author_U)) d_Id)) d_Version).length (apI (List.take (apI (List.take (apI (List.take (apI [] d_Author_D).length (apI [] d_Author_D)) d_Author_U).length (apI (List.take (apI [] d_Author_D).length (apI [] d_Author_D)) d_Author_U)) d_Id).length (apI (List.take (apI (List.take (apI [] d_Author_D).length (apI [] d_Author_D)) d_Author_U).length (apI (List.take (apI [] d_Author_D).length (apI [] d_Author_D)) d_Author_U)) d_Id)) d_Version) ++ List.take 32 d_Hash)) d_Kind)) && (ByteArray.mk (Array.mk (toBytes (false, pu IntKind.u8 (opB d_Op)).snd))).size.ble 65535 then bif okZ false (List.take (apT (List.take (apY (List.take ((apI (List.take (apI (List.take (apI (List.take (apI [] d_Author_D).length (apI [] d_Author_D)) d_Author_U).length (apI (List.take (apI [] d_Author_D).length (apI [] d_Author_D)) d_Author_U)) d_Id).length (apI (List.take (apI (List.take (apI [] d_Author_D).length (apI [] d_Author_D)) d_Author_U).length (apI (List.take (apI [] d_Author_D).length (apI [] d_Author_D)) d_Author_U)) d_Id)) d_Version).length + (List.take 32 d_Hash).length) (List.take (apI (List.take (apI (List.take (apI (List.take (apI [] d_Author_D).length (apI [] d_Author_D)) d_Author_U).length (apI (List.take (apI [] d_Author_D).length (apI [] d_Author_D)) d_Author_U)) d_Id).length (apI (List.take (apI (List.take (apI [] d_Author_D).length (apI [] d_Author_D)) d_Author_U).length (apI (List.take (apI [] d_Author_D).length (apI [] d_Author_D)) d_Author_U)) d_Id)) d_Version).length (apI (List.take (apI (List.take (apI (List.take (apI [] d_Author_D).length (apI [] d_Author_D)) d_Author_U).length (apI (List.take (apI [] d_Author_D).length (apI [] d_Author_D)) d_Author_U)) d_Id).length (apI (List.take (apI (List.take (apI [] d_Author_D).length (apI [] d_Author_D)) d_Author_U).length (apI (List.take (apI [] d_Author_D).length (apI [] d_Author_D)) d_Author_U)) d_Id)) d_Version) ++ List.take 32 d_Hash)) d_Kind).length (apY (List.take ((apI (List.take (apI (List.take (apI (List.take (apI [] d_Author_D).length (apI [] d_Author_D)) d_Author_U).length (apI (List.take (apI [] d_Author_D).length (apI [] d_Author_D)) d_Author_U)) d_Id).length (apI (List.take (apI (List.take (apI [] d_Author_D).length (apI [] d_Author_D)) d_Author_U).length (apI (List.take (apI [] d_Author_D).length (apI [] d_Author_D)) d_Author_U)) d_Id)) d_Version).length + (List.take 32 d_Hash).length) (List.take (apI (List.take (apI (List.take (apI (List.take (apI [] d_Author_D).length (apI [] d_Author_D)) d_Author_U).length (apI (List.take (apI [] d_Author_D).length (apI [] d_Author_D)) d_Author_U)) d_Id).length (apI (List.take (apI (List.take (apI [] d_Author_D).length (apI [] d_Author_D)) d_Author_U).length (apI (List.take (apI [] d_Author_D).length (apI [] d_Author_D)) d_Author_U)) d_Id)) d_Version).length (apI (List.take (apI (List.take (apI (List.take (apI [] d_Author_D).length (apI [] d_Author_D)) d_Author_U).length (apI (List.take (apI [] d_Author_D).length (apI [] d_Author_D)) d_Author_U)) d_Id).length (apI (List.take (apI (List.take (apI [] d_Author_D).length (apI [] d_Author_D)) d_Author_U).length (apI (List.take (apI [] d_Author_D).length (apI [] d_Author_D)) d_Author_U)) d_Id)) d_Version) ++ List.take 32 d_Hash)) d_Kind)) (ByteArray.mk (Array.mk (toBytes (false, pu IntKind.u8 (opB d_Op)).snd)))).length (apT (List.take (apY (List.take ((apI (List.take (apI (List.take (apI (List.take (apI [] d_Author_D).length (apI [] d_Author_D)) d_Author_U).length (apI (List.take (apI [] d_Author_D).length (apI [] d_Author_D)) d_Author_U)) d_Id).length (apI (List.take (apI (List.take (apI [] d_Author_D).length (apI [] d_Author_D)) d_Author_U).length (apI (List.take (apI [] d_Author_D).length (apI [] d_Author_D)) d_Author_U)) d_Id)) d_Version).length + (List.take 32 d_Hash).length) (List.take (apI (List.take (apI (List.take (apI (List.take (apI [] d_Author_D).length (apI [] d_Author_D)) d_Author_U).length (apI (List.take (apI [] d_Author_D).length (apI [] d_Author_D)) d_Author_U)) d_Id).length (apI (List.take (apI (List.take (apI [] d_Author_D).length (apI [] d_Author_D)) d_Author_U).length (apI (List.take (apI [] d_Author_D).length (apI [] d_Author_D)) d_Author_U)) d_Id)) d_Version).length (apI (List.take (apI (List.take (apI (List.take (apI [] d_Author_D).length (apI [] d_Author_D)) d_Author_U).length (apI (List.take (apI [] d_Author_D).length (apI [] d_Author_D)) d_Author_U)) d_Id).length (apI (List.take (apI (List.take (apI [] d_Author_D).length (apI [] d_Author_D)) d_Author_U).length (apI (List.take (apI [] d_Author_D).length (apI [] d_Author_D)) d_Author_U)) d_Id)) d_Version) ++ List.take 32 d_Hash)) d_Kind).length (apY (List.take ((apI (List.take (apI (List.take (apI (List.take (apI [] d_Author_D).length (apI [] d_Author_D)) d_Author_U).length (apI (List.take (apI [] d_Author_D).length (apI [] d_Author_D)) d_Author_U)) d_Id).length (apI (List.take (apI (List.take (apI [] d_Author_D).length (apI [] d_Author_D)) d_Author_U).length (apI (List.take (apI [] d_Author_D).length (apI [] d_Author_D)) d_Author_U)) d_Id)) d_Version).length + (List.take 32 d_Hash).length) (List.take (apI (List.take (apI (List.take (apI (List.take (apI [] d_Author_D).length (apI [] d_Author_D)) d_Author_U).length (apI (List.take (apI [] d_Author_D).length (apI [] d_Author_D)) d_Author_U)) d_Id).length (apI (List.take (apI (List.take (apI [] d_Author_D).length (apI [] d_Author_D)) d_Author_U).length (apI (List.take (apI [] d_Author_D).length (apI [] d_Author_D)) d_Author_U)) d_Id)) d_Version).length (apI (List.take (apI (List.take (apI (List.take (apI [] d_Author_D).length (apI [] d_Author_D)) d_Author_U).length (apI (List.take (apI [] d_Author_D).length (apI [] d_Author_D)) d_Author_U)) d_Id).length (apI (List.take (apI (List.take (apI [] d_Author_D).length (apI [] d_Author_D)) d_Author_U).length (apI (List.take (apI [] d_Author_D).length (apI [] d_Author_D)) d_Author_U)) d_Id)) d_Version) ++ List.take 32 d_Hash)) d_Kind)) (ByteArray.mk (Array.mk (toBytes (false, pu IntKind.u8 (opB d_Op)).snd))))) then bif okZ false (List.take (apI (List.take (apT (List.take (apY (List.take ((apI (List.take (apI (List.take (apI (List.take (apI [] d_Author_D).length (apI [] d_Author_D)) d_Author_U).length (apI (List.take (apI [] d_Author_D).length (apI [] d_Author_D)) d_Author_U)) d_Id).length (apI (List.take (apI (List.take (apI [] d_Author_D).length (apI [] d_Author_D)) d_Author_U).length (apI (List.take (apI [] d_Author_D).length (apI [] d_Author_D)) d_Author_U)) d_Id)) d_Version).length + (List.take 32 d_Hash).length) (List.take (apI (List.take (apI (List.take (apI (List.take (apI [] d_Author_D).length (apI [] d_Author_D)) d_Author_U).length (apI (List.take (apI [] d_Author_D).length (apI [] d_Author_D)) d_Author_U)) d_Id).length (apI (List.take (apI (List.take (apI [] d_Author_D).length (apI [] d_Author_D)) d_Author_U).length (apI (List.take (apI [] d_Author_D).length (apI [] d_Author_D)) d_Author_U)) d_Id)) d_Version).length (apI (List.take (apI (List.take (apI (List.take (apI [] d_Author_D).length (apI [] d_Author_D)) d_Author_U).length (apI (List.take (apI [] d_Author_D).length (apI [] d_Author_D)) d_Author_U)) d_Id).length (apI (List.take (apI (List.take (apI [] d_Author_D).length (apI [] d_Author_D)) d_Author_U).length (apI (List.take (apI [] d_Author_D).length (apI [] d_Author_D)) d_Author_U)) d_Id)) d_Version) ++ List.take 32 d_Hash)) d_Kind).length (apY (List.take ((apI (List.take (apI (List.take (apI (List.take (apI [] d_Author_D).length (apI [] d_Author_D)) d_Author_U).length (apI (List.take (apI [] d_Author_D).length (apI [] d_Author_D)) d_Author_U)) d_Id).length (apI (List.take (apI (List.take (apI [] d_Author_D).length (apI [] d_Author_D)) d_Author_U).length (apI (List.take (apI [] d_Author_D).length (apI [] d_Author_D)) d_Author_U)) d_Id)) d_Version).length + (List.take 32 d_Hash).length) (List.take (apI (List.take (apI (List.take (apI (List.take (apI [] d_Author_D).length (apI [] d_Author_D)) d_Author_U).length (apI (List.take (apI [] d_Author_D).length (apI [] d_Author_D)) d_Author_U)) d_Id).length (apI (List.take (apI (List.take (apI [] d_Author_D).length (apI [] d_Author_D)) d_Author_U).length (apI (List.take (apI [] d_Author_D).length (apI [] d_Author_D)) d_Author_U)) d_Id)) d_Version).length (apI (List.take (apI (List.take (apI (List.take (apI [] d_Author_D).length (apI [] d_Author_D)) d_Author_U).length (apI (List.take (apI [] d_Author_D).length (apI [] d_Author_D)) d_Author_U)) d_Id).length (apI (List.take (apI (List.take (apI [] d_Author_D).length (apI [] d_Author_D)) d_Author_U).length (apI (List.take (apI [] d_Author_D).length (apI [] d_Author_D)) d_Author_U)) d_Id)) d_Version) ++ List.take 32 d_Hash)) d_Kind)) (ByteArray.mk (Array.mk (toBytes (false, pu IntKind.u8 (opB d_Op)).snd)))).length (apT (List.take (apY (List.take ((apI (List.take (apI (List.take (apI (List.take (apI [] d_Author_D).length (apI [] d_Author_D)) d_Author_U).length (apI (List.take (apI [] d_Author_D).length (apI [] d_Author_D)) d_Author_U)) d_Id).length (apI (List.take (apI (List.take (apI [] d_Author_D).length (apI [] d_Author_D)) d_Author_U).length (apI (List.take (apI [] d_Author_D).length (apI [] d_Author_D)) d_Author_U)) d_Id)) d_Version).length + (List.take 32 d_Hash).length) (List.take (apI (List.take (apI (List.take (apI (List.take (apI [] d_Author_D).length (apI [] d_Author_D)) d_Author_U).length (apI (List.take (apI [] d_Author_D).length (apI [] d_Author_D)) d_Author_U)) d_Id).length (apI (List.take (apI (List.take (apI [] d_Author_D).length (apI [] d_Author_D)) d_Author_U).length (apI (List.take (apI [] d_Author_D).length (apI [] d_Author_D)) d_Author_U)) d_Id)) d_Version).length (apI (List.take (apI (List.take (apI (List.take (apI [] d_Author_D).length (apI [] d_Author_D)) d_Author_U).length (apI (List.take (apI [] d_Author_D).length (apI [] d_Author_D)) d_Author_U)) d_Id).length (apI (List.take (apI (List.take (apI [] d_Author_D).length (apI [] d_Author_D)) d_Author_U).length (apI (List.take (apI [] d_Author_D).length (apI [] d_Author_D)) d_Author_U)) d_Id)) d_Version) ++ List.take 32 d_Hash)) d_Kind).length (apY (List.take ((apI (List.take (apI (List.take (apI (List.take (apI [] d_Author_D).length (apI [] d_Author_D)) d_Author_U).length (apI (List.take (apI [] d_Author_D).length (apI [] d_Author_D)) d_Author_U)) d_Id).length (apI (List.take (apI (List.take (apI [] d_Author_D).length (apI [] d_Author_D)) d_Author_U).length (apI (List.take (apI [] d_Author_D).length (apI [] d_Author_D)) d_Author_U)) d_Id)) d_Version).length + (List.take 32 d_Hash).length) (List.take (apI (List.take (apI (List.take (apI (List.take (apI [] d_Author_D).length (apI [] d_Author_D)) d_Author_U).length (apI (List.take (apI [] d_Author_D).length (apI [] d_Author_D)) d_Author_U)) d_Id).length (apI (List.take (apI (List.take (apI [] d_Author_D).length (apI [] d_Author_D)) d_Author_U).length (apI (List.take (apI [] d_Author_D).length (apI [] d_Author_D)) d_Author_U)) d_Id)) d_Version).length (apI (List.take (apI (List.take (apI (List.take (apI [] d_Author_D).length (apI [] d_Author_D)) d_Author_U).length (apI (List.take (apI [] d_Author_D).length (apI [] d_Author_D)) d_Author_U)) d_Id).length (apI (List.take (apI (List.take (apI [] d_Author_D).length (apI [] d_Author_D)) d_Author_U).length (apI (List.take (apI [] d_Author_D).length (apI [] d_Author_D)) d_Author_U)) d_Id)) d_Version) ++ List.take 32 d_Hash)) d_Kind)) (ByteArray.mk (Array.mk (toBytes (false, pu IntKind.u8 (opB d_Op)).snd))))) d_Who_D).length (apI (List.take (apT (List.take (apY (List.take ((apI (List.take (apI (List.take (apI (List.take (apI [] d_Author_D).length (apI [] d_Author_D)) d_Author_U).length (apI (List.take (apI [] d_Author_D).length (apI [] d_Author_D)) d_Author_U)) d_Id).length (apI (List.take (apI (List.take (apI [] d_Author_D).length (apI [] d_Author_D)) d_Author_U).length (apI (List.take (apI [] d_Author_D).length (apI [] d_Author_D)) d_Author_U)) d_Id)) d_Version).length + (List.take 32 d_Hash).length) (List.take (apI (List.take (apI (List.take (apI (List.take (apI [] d_Author_D).length (apI [] d_Author_D)) d_Author_U).length (apI (List.take (apI [] d_Author_D).length (apI [] d_Author_D)) d_Author_U)) d_Id).length (apI (List.take (apI (List.take (apI [] d_Author_D).length (apI [] d_Author_D)) d_Author_U).length (apI (List.take (apI [] d_Author_D).length (apI [] d_Author_D)) d_Author_U)) d_Id)) d_Version).length (apI (List.take (apI (List.take (apI (List.take (apI [] d_Author_D).length (apI [] d_Author_D)) d_Author_U).length (apI (List.take (apI [] d_Author_D).length (apI [] d_Author_D)) d_Author_U)) d_Id).length (apI (List.take (apI (List.take (apI [] d_Author_D).length (apI [] d_Author_D)) d_Author_U).length (apI (List.take (apI [] d_Author_D).length (apI [] d_Author_D)) d_Author_U)) d_Id)) d_Version) ++ List.take 32 d_Hash)) d_Kind).length (apY (List.take ((apI (List.take (apI (List.take (apI (List.take (apI [] d_Author_D).length (apI [] d_Author_D)) d_Author_U).length (apI (List.take (apI [] d_Author_D).length (apI [] d_Author_D)) d_Author_U)) d_Id).length (apI (List.take (apI (List.take (apI [] d_Author_D).length (apI [] d_Author_D)) d_Author_U).length (apI (List.take (apI [] d_Author_D).length (apI [] d_Author_D)) d_Author_U)) d_Id)) d_Version).length + (List.take 32 d_Hash).length) (List.take (apI (List.take (apI (List.take (apI (List.take (apI [] d_Author_D).length (apI [] d_Author_D)) d_Author_U).length (apI (List.take (apI [] d_Author_D).length (apI [] d_Author_D)) d_Author_U)) d_Id).length (apI (List.take (apI (List.take (apI [] d_Author_D).length (apI [] d_Author_D)) d_Author_U).length (apI (List.take (apI [] d_Author_D).length (apI [] d_Author_D)) d_Author_U)) d_Id)) d_Version).length (apI (List.take (apI (List.take (apI (List.take (apI [] d_Author_D).length (apI [] d_Author_D)) d_Author_U).length (apI (List.take (apI [] d_Author_D).length (apI [] d_Author_D)) d_Author_U)) d_Id).length (apI (List.take (apI (List.take (apI [] d_Author_D).length (apI [] d_Author_D)) d_Author_U).length (apI (List.take (apI [] d_Author_D).length (apI [] d_Author_D)) d_Author_U)) d_Id)) d_Version) ++ List.take 32 d_Hash)) d_Kind)) (ByteArray.mk (Array.mk (toBytes (false, pu IntKind.u8 (opB d_Op)).snd)))).length (apT (List.take (apY (List.take ((apI (List.take (apI (List.take (apI (List.take (apI [] d_Author_D).length (apI [] d_Author_D)) d_Author_U).length (apI (List.take (apI [] d_Author_D).length (apI [] d_Author_D)) d_Author_U)) d_Id).length (apI (List.take (apI (List.take (apI [] d_Author_D).length (apI [] d_Author_D)) d_Author_U).length (apI (List.take (apI [] d_Author_D).length (apI [] d_Author_D)) d_Author_U)) d_Id)) d_Version).length + (List.take 32 d_Hash).length) (List.take (apI (List.take (apI (List.take (apI (List.take (apI [] d_Author_D).length (apI [] d_Author_D)) d_Author_U).length (apI (List.take (apI [] d_Author_D).length (apI [] d_Author_D)) d_Author_U)) d_Id).length (apI (List.take (apI (List.take (apI [] d_Author_D).length (apI [] d_Author_D)) d_Author_U).length (apI (List.take (apI [] d_Author_D).length (apI [] d_Author_D)) d_Author_U)) d_Id)) d_Version).length (apI (List.take (apI (List.take (apI (List.take (apI [] d_Author_D).length (apI [] d_Author_D)) d_Author_U).length (apI (List.take (apI [] d_Author_D).length (apI [] d_Author_D)) d_Author_U)) d_Id).length (apI (List.take (apI (List.take (apI [] d_Author_D).length (apI [] d_Author_D)) d_Author_U).length (apI (List.take (apI [] d_Author_D).length (apI [] d_Author_D)) d_Author_U)) d_Id)) d_Version) ++ List.take 32 d_Hash)) d_Kind).length (apY (List.take ((apI (List.take (apI (List.take (apI (List.take (apI [] d_Author_D).length (apI [] d_Author_D)) d_Author_U).length (apI (List.take (apI [] d_Author_D).length (apI [] d_Author_D)) d_Author_U)) d_Id).length (apI (List.take (apI (List.take (apI [] d_Author_D).length (apI [] d_Author_D)) d_Author_U).length (apI (List.take (apI [] d_Author_D).length (apI [] d_Author_D)) d_Author_U)) d_Id)) d_Version).length + (List.take 32 d_Hash).length) (List.take (apI (List.take (apI (List.take (apI (List.take (apI [] d_Author_D).length (apI [] d_Author_D)) d_Author_U).length (apI (List.take (apI [] d_Author_D).length (apI [] d_Author_D)) d_Author_U)) d_Id).length (apI (List.take (apI (List.take (apI [] d_Author_D).length (apI [] d_Author_D)) d_Author_U).length (apI (List.take (apI [] d_Author_D).length (apI [] d_Author_D)) d_Author_U)) d_Id)) d_Version).length (apI (List.take (apI (List.take (apI (List.take (apI [] d_Author_D).length (apI [] d_Author_D)) d_Author_U).length (apI (List.take (apI [] d_Author_D).length (apI [] d_Author_D)) d_Author_U)) d_Id).length (apI (List.take (apI (List.take (apI [] d_Author_D).length (apI [] d_Author_D)) d_Author_U).length (apI (List.take (apI [] d_Author_D).length (apI [] d_Author_D)) d_Author_U)) d_Id)) d_Version) ++ List.take 32 d_Hash)) d_Kind)) (ByteArray.mk (Array.mk (toBytes (false, pu IntKind.u8 (opB d_Op)).snd))))) d_Who_D)) then k (Res.mk (.ro 5 false false (List.take (apI (List.take (apI (List.take (apT (List.take (apY (List.take ((apI (List.take (apI (List.take (apI (List.take (apI [] d_Author_D).length (apI [] d_Author_D)) d_Author_U).length (apI (List.take (apI [] d_Author_D).length (apI [] d_Author_D)) d_Author_U)) d_Id).length (apI (List.take (apI (List.take (apI [] d_Author_D).length (apI [] d_Author_D)) d_Author_U).length (apI (List.take (apI [] d_Author_D).length (apI [] d_Author_D)) d_Author_U)) d_Id)) d_Version).length + (List.take 32 d_Hash).length) (List.take (apI (List.take (apI (List.take (apI (List.take (apI [] d_Author_D).length (apI [] d_Author_D)) d_Author_U).length (apI (List.take (apI [] d_Author_D).length (apI [] d_Author_D)) d_Author_U)) d_Id).length (apI (List.take (apI (List.take (apI [] d_Author_D).length (apI [] d_Author_D)) d_Author_U).length (apI (List.take (apI [] d_Author_D).length (apI [] d_Author_D)) d_Author_U)) d_Id)) d_Version).length (apI (List.take (apI (List.take (apI (List.take (apI [] d_Author_D).length (apI [] d_Author_D)) d_Author_U).length (apI (List.take (apI [] d_Author_D).length (apI [] d_Author_D)) d_Author_U)) d_Id).length (apI (List.take (apI (List.take (apI [] d_Author_D).length (apI [] d_Author_D)) d_Author_U).length (apI (List.take (apI [] d_Author_D).length (apI [] d_Author_D)) d_Author_U)) d_Id)) d_Version) ++ List.take 32 d_Hash)) d_Kind).length (apY (List.take ((apI (List.take (apI (List.take (apI (List.take (apI [] d_Author_D).length (apI [] d_Author_D)) d_Author_U).length (apI (List.take (apI [] d_Author_D).length (apI [] d_Author_D)) d_Author_U)) d_Id).length (apI (List.take (apI (List.take (apI [] d_Author_D).length (apI [] d_Author_D)) d_Author_U).length (apI (List.take (apI [] d_Author_D).length (apI [] d_Author_D)) d_Author_U)) d_Id)) d_Version).length + (List.take 32 d_Hash).length) (List.take (apI (List.take (apI (List.take (apI (List.take (apI [] d_Author_D).length (apI [] d_Author_D)) d_Author_U).length (apI (List.take (apI [] d_Author_D).length (apI [] d_Author_D)) d_Author_U)) d_Id).length (apI (List.take (apI (List.take (apI [] d_Author_D).length (apI [] d_Author_D)) d_Author_U).length (apI (List.take (apI [] d_Author_D).length (apI [] d_Author_D)) d_Author_U)) d_Id)) d_Version).length (apI (List.take (apI (List.take (apI (List.take (apI [] d_Author_D).length (apI [] d_Author_D)) d_Author_U).length (apI (List.take (apI [] d_Author_D).length (apI [] d_Author_D)) d_Author_U)) d_Id).length (apI (List.take (apI (List.take (apI [] d_Author_D).length (apI [] d_Author_D)) d_Author_U).length (apI (List.take (apI [] d_Author_D).length (apI [] d_Author_D)) d_Author_U)) d_Id)) d_Version) ++ List.take 32 d_Hash)) d_Kind)) (ByteArray.mk (Array.mk (toBytes (false, pu IntKind.u8 (opB d_Op)).snd)))).length (apT (List.take (apY (List.take ((apI (List.take (apI (List.take (apI (List.take (apI [] d_Author_D).length (apI [] d_Author_D)) d_Author_U).length (apI (List.take (apI [] d_Author_D).length (apI [] d_Author_D)) d_Author_U)) d_Id).length (apI (List.take (apI (List.take (apI [] d_Author_D).length (apI [] d_Author_D)) d_Author_U).length (apI (List.take (apI [] d_Author_D).length (apI [] d_Author_D)) d_Author_U)) d_Id)) d_Version).length + (List.take 32 d_Hash).length) (List.take (apI (List.take (apI (List.take (apI (List.take (apI [] d_Author_D).length (apI [] d_Author_D)) d_Author_U).length (apI (List.take (apI [] d_Author_D).length (apI [] d_Author_D)) d_Author_U)) d_Id).length (apI (List.take (apI (List.take (apI [] d_Author_D).length (apI [] d_Author_D)) d_Author_U).length (apI (List.take (apI [] d_Author_D).length (apI [] d_Author_D)) d_Author_U)) d_Id)) d_Version).length (apI (List.take (apI (List.take (apI (List.take (apI [] d_Author_D).length (apI [] d_Author_D)) d_Author_U).length (apI (List.take (apI [] d_Author_D).length (apI [] d_Author_D)) d_Author_U)) d_Id).length (apI (List.take (apI (List.take (apI [] d_Author_D).length (apI [] d_Author_D)) d_Author_U).length (apI (List.take (apI [] d_Author_D).length (apI [] d_Author_D)) d_Author_U)) d_Id)) d_Version) ++ List.take 32 d_Hash)) d_Kind).length (apY (List.take ((apI (List.take (apI (List.take (apI (List.take (apI [] d_Author_D).length (apI [] d_Author_D)) d_Author_U).length (apI (List.take (apI [] d_Author_D).length (apI [] d_Author_D)) d_Author_U)) d_Id).length (apI (List.take (apI (List.take (apI [] d_Author_D).length (apI [] d_Author_D)) d_Author_U).length (apI (List.take (apI [] d_Author_D).length (apI [] d_Author_D)) d_Author_U)) d_Id)) d_Version).length + (List.take 32 d_Hash).length) (List.take (apI (List.take (apI (List.take (apI (List.take (apI [] d_Author_D).length (apI [] d_Author_D)) d_Author_U).length (apI (List.take (apI [] d_Author_D).length (apI [] d_Author_D)) d_Author_U)) d_Id).length (apI (List.take (apI (List.take (apI [] d_Author_D).length (apI [] d_Author_D)) d_Author_U).length (apI (List.take (apI [] d_Author_D).length (apI [] d_Author_D)) d_Author_U)) d_Id)) d_Version).length (apI (List.take (apI (List.take (apI (List.take (apI [] d_Author_D).length (apI [] d_Author_D)) d_Author_U).length (apI (List.take (apI [] d_Author_D).length (apI [] d_Author_D)) d_Author_U)) d_Id).length (apI (List.take (apI (List.take (apI [] d_Author_D).length (apI [] d_Author_D)) d_Author_U).length (apI (List.take (apI [] d_Author_D).length (apI [] d_Author_D)) d_Author_U)) d_Id)) d_Version) ++ List.take 32 d_Hash)) d_Kind)) (ByteArray.mk (Array.mk (toBytes (false, pu IntKind.u8 (opB d_Op)).snd))))) d_Who_D).length (apI (List.take (apT (List.take (apY (List.take ((apI (List.take (apI (List.take (apI (List.take (apI [] d_Author_D).length (apI [] d_Author_D)) d_Author_U).length (apI (List.take (apI [] d_Author_D).length (apI [] d_Author_D)) d_Author_U)) d_Id).length (apI (List.take (apI (List.take (apI [] d_Author_D).length (apI [] d_Author_D)) d_Author_U).length (apI (List.take (apI [] d_Author_D).length (apI [] d_Author_D)) d_Author_U)) d_Id)) d_Version).length + (List.take 32 d_Hash).length) (List.take (apI (List.take (apI (List.take (apI (List.take (apI [] d_Author_D).length (apI [] d_Author_D)) d_Author_U).length (apI (List.take (apI [] d_Author_D).length (apI [] d_Author_D)) d_Author_U)) d_Id).length (apI (List.take (apI (List.take (apI [] d_Author_D).length (apI [] d_Author_D)) d_Author_U).length (apI (List.take (apI [] d_Author_D).length (apI [] d_Author_D)) d_Author_U)) d_Id)) d_Version).length (apI (List.take (apI (List.take (apI (List.take (apI [] d_Author_D).length (apI [] d_Author_D)) d_Author_U).length (apI (List.take (apI [] d_Author_D).length (apI [] d_Author_D)) d_Author_U)) d_Id).length (apI (List.take (apI (List.take (apI [] d_Author_D).length (apI [] d_Author_D)) d_Author_U).length (apI (List.take (apI [] d_Author_D).length (apI [] d_Author_D)) d_Author_U)) d_Id)) d_Version) ++ List.take 32 d_Hash)) d_Kind).length (apY (List.take ((apI (List.take (apI (List.take (apI (List.take (apI [] d_Author_D).length (apI [] d_Author_D)) d_Author_U).length (apI (List.take (apI [] d_Author_D).length (apI [] d_Author_D)) d_Author_U)) d_Id).length (apI (List.take (apI (List.take (apI [] d_Author_D).length (apI [] d_Author_D)) d_Author_U).length (apI (List.take (apI [] d_Author_D).length (apI [] d_Author_D)) d_Author_U)) d_Id)) d_Version).length + (List.take 32 d_Hash).length) (List.take (apI (List.take (apI (List.take (apI (List.take (apI [] d_Author_D).length (apI [] d_Author_D)) d_Author_U).length (apI (List.take (apI [] d_Author_D).length (apI [] d_Author_D)) d_Author_U)) d_Id).length (apI (List.take (apI (List.take (apI [] d_Author_D).length (apI [] d_Author_D)) d_Author_U).length (apI (List.take (apI [] d_Author_D).length (apI [] d_Author_D)) d_Author_U)) d_Id)) d_Version).length (apI (List.take (apI (List.take (apI (List.take (apI [] d_Author_D).length (apI [] d_Author_D)) d_Author_U).length (apI (List.take (apI [] d_Author_D).length (apI [] d_Author_D)) d_Author_U)) d_Id).length (apI (List.take (apI (List.take (apI [] d_Author_D).length (apI [] d_Author_D)) d_Author_U).length (apI (List.take (apI [] d_Author_D).length (apI [] d_Author_D)) d_Author_U)) d_Id)) d_Version) ++ List.take 32 d_Hash)) d_Kind)) (ByteArray.mk (Array.mk (toBytes (false, pu IntKind.u8 (opB d_Op)).snd)))).length (apT (List.take (apY (List.take ((apI (List.take (apI (List.take (apI (List.take (apI [] d_Author_D).length (apI [] d_Author_D)) d_Author_U).length (apI (List.take (apI [] d_Author_D).length (apI [] d_Author_D)) d_Author_U)) d_Id).length (apI (List.take (apI (List.take (apI [] d_Author_D).length (apI [] d_Author_D)) d_Author_U).length (apI (List.take (apI [] d_Author_D).length (apI [] d_Author_D)) d_Author_U)) d_Id)) d_Version).length + (List.take 32 d_Hash).length) (List.take (apI (List.take (apI (List.take (apI (List.take (apI [] d_Author_D).length (apI [] d_Author_D)) d_Author_U).length (apI (List.take (apI [] d_Author_D).length (apI [] d_Author_D)) d_Author_U)) d_Id).length (apI (List.take (apI (List.take (apI [] d_Author_D).length (apI [] d_Author_D)) d_Author_U).length (apI (List.take (apI [] d_Author_D).length (apI [] d_Author_D)) d_Author_U)) d_Id)) d_Version).length (apI (List.take (apI (List.take (apI (List.take (apI [] d_Author_D).length (apI [] d_Author_D)) d_Author_U).length (apI (List.take (apI [] d_Author_D).length (apI [] d_Author_D)) d_Author_U)) d_Id).length (apI (List.take (apI (List.take (apI [] d_Author_D).length (apI [] d_Author_D)) d_Author_U).length (apI (List.take (apI [] d_Author_D).length (apI [] d_Author_D)) d_Author_U)) d_Id)) d_Version) ++ List.take 32 d_Hash)) d_Kind).length (apY (List.take ((apI (List.take (apI (List.take (apI (List.take (apI [] d_Author_D).length (apI [] d_Author_D)) d_Author_U).length (apI (List.take (apI [] d_Author_D).length (apI [] d_Author_D)) d_Author_U)) d_Id).length (apI (List.take (apI (List.take (apI [] d_Author_D).length (apI [] d_Author_D)) d_Author_U).length (apI (List.take (apI [] d_Author_D).length (apI [] d_Author_D)) d_Author_U)) d_Id)) d_Version).length + (List.take 32 d_Hash).length) (List.take (apI (List.take (apI (List.take (apI (List.take (apI [] d_Author_D).length (apI [] d_Author_D)) d_Author_U).length (apI (List.take (apI [] d_Author_D).length (apI [] d_Author_D)) d_Author_U)) d_Id).length (apI (List.take (apI (List.take (apI [] d_Author_D).length (apI [] d_Author_D)) d_Author_U).length (apI (List.take (apI [] d_Author_D).length (apI [] d_Author_D)) d_Author_U)) d_Id)) d_Version).length (apI (List.take (apI (List.take (apI (List.take (apI [] d_Author_D).length (apI [] d_Author_D)) d_Author_U).length (apI (List.take (apI [] d_Author_D).length (apI [] d_Author_D)) d_Author_U)) d_Id).length (apI (List.take (apI (List.take (apI [] d_Author_D).length (apI [] d_Author_D)) d_Author_U).length (apI (List.take (apI [] d_Author_D).length (apI [] d_Author_D)) d_Author_U)) d_Id)) d_Version) ++ List.take 32 d_Hash)) d_Kind)) (ByteArray.mk (Array.mk (toBytes (false, pu IntKind.u8 (opB d_Op)).snd))))) d_Who_D)) d_Who_U).length (apI (List.take (apI (List.take (apT (List.take (apY (List.take ((apI (List.take (apI (List.take (apI (List.take (apI [] d_Author_D).length (apI [] d_Author_D)) d_Author_U).length (apI (List.take (apI [] d_Author_D).length (apI [] d_Author_D)) d_Author_U)) d_Id).length (apI (List.take (apI (List.take (apI [] d_Author_D).length (apI [] d_Author_D)) d_Author_U).length (apI (List.take (apI [] d_Author_D).length (apI [] d_Author_D)) d_Author_U)) d_Id)) d_Version).length + (List.take 32 d_Hash).length) (List.take (apI (List.take (apI (List.take (apI (List.take (apI [] d_Author_D).length (apI [] d_Author_D)) d_Author_U).length (apI (List.take (apI [] d_Author_D).length (apI [] d_Author_D)) d_Author_U)) d_Id).length (apI (List.take (apI (List.take (apI [] d_Author_D).length (apI [] d_Author_D)) d_Author_U).length (apI (List.take (apI [] d_Author_D).length (apI [] d_Author_D)) d_Author_U)) d_Id)) d_Version).length (apI (List.take (apI (List.take (apI (List.take (apI [] d_Author_D).length (apI [] d_Author_D)) d_Author_U).length (apI (List.take (apI [] d_Author_D).length (apI [] d_Author_D)) d_Author_U)) d_Id).length (apI (List.take (apI (List.take (apI [] d_Author_D).length (apI [] d_Author_D)) d_Author_U).length (apI (List.take (apI [] d_Author_D).length (apI [] d_Author_D)) d_Author_U)) d_Id)) d_Version) ++ List.take 32 d_Hash)) d_Kind).length (apY (List.take ((apI (List.take (apI (List.take (apI (List.take (apI [] d_Author_D).length (apI [] d_Author_D)) d_Author_U).length (apI (List.take (apI [] d_Author_D).length (apI [] d_Author_D)) d_Author_U)) d_Id).length (apI (List.take (apI (List.take (apI [] d_Author_D).length (apI [] d_Author_D)) d_Author_U).length (apI (List.take (apI [] d_Author_D).length (apI [] d_Author_D)) d_Author_U)) d_Id)) d_Version).length + (List.take 32 d_Hash).length) (List.take (apI (List.take (apI (List.take (apI (List.take (apI [] d_Author_D).length (apI [] d_Author_D)) d_Author_U).length (apI (List.take (apI [] d_Author_D).length (apI [] d_Author_D)) d_Author_U)) d_Id).length (apI (List.take (apI (List.take (apI [] d_Author_D).length (apI [] d_Author_D)) d_Author_U).length (apI (List.take (apI [] d_Author_D).length (apI [] d_Author_D)) d_Author_U)) d_Id)) d_Version).length (apI (List.take (apI (List.take (apI (List.take (apI [] d_Author_D).length (apI [] d_Author_D)) d_Author_U).length (apI (List.take (apI [] d_Author_D).length (apI [] d_Author_D)) d_Author_U)) d_Id).length (apI (List.take (apI (List.take (apI [] d_Author_D).length (apI [] d_Author_D)) d_Author_U).length (apI (List.take (apI [] d_Author_D).length (apI [] d_Author_D)) d_Author_U)) d_Id)) d_Version) ++ List.take 32 d_Hash)) d_Kind)) (ByteArray.mk (Array.mk (toBytes (false, pu IntKind.u8 (opB d_Op)).snd)))).length (apT (List.take (apY (List.take ((apI (List.take (apI (List.take (apI (List.take (apI [] d_Author_D).length (apI [] d_Author_D)) d_Author_U).length (apI (List.take (apI [] d_Author_D).length (apI [] d_Author_D)) d_Author_U)) d_Id).length (apI (List.take (apI (List.take (apI [] d_Author_D).length (apI [] d_Author_D)) d_Author_U).length (apI (List.take (apI [] d_Author_D).length (apI [] d_Author_D)) d_Author_U)) d_Id)) d_Version).length + (List.take 32 d_Hash).length) (List.take (apI (List.take (apI (List.take (apI (List.take (apI [] d_Author_D).length (apI [] d_Author_D)) d_Author_U).length (apI (List.take (apI [] d_Author_D).length (apI [] d_Author_D)) d_Author_U)) d_Id).length (apI (List.take (apI (List.take (apI [] d_Author_D).length (apI [] d_Author_D)) d_Author_U).length (apI (List.take (apI [] d_Author_D).length (apI [] d_Author_D)) d_Author_U)) d_Id)) d_Version).length (apI (List.take (apI (List.take (apI (List.take (apI [] d_Author_D).length (apI [] d_Author_D)) d_Author_U).length (apI (List.take (apI [] d_Author_D).length (apI [] d_Author_D)) d_Author_U)) d_Id).length (apI (List.take (apI (List.take (apI [] d_Author_D).length (apI [] d_Author_D)) d_Author_U).length (apI (List.take (apI [] d_Author_D).length (apI [] d_Author_D)) d_Author_U)) d_Id)) d_Version) ++ List.take 32 d_Hash)) d_Kind).length (apY (List.take ((apI (List.take (apI (List.take (apI (List.take (apI [] d_Author_D).length (apI [] d_Author_D)) d_Author_U).length (apI (List.take (apI [] d_Author_D).length (apI [] d_Author_D)) d_Author_U)) d_Id).length (apI (List.take (apI (List.take (apI [] d_Author_D).length (apI [] d_Author_D)) d_Author_U).length (apI (List.take (apI [] d_Author_D).length (apI [] d_Author_D)) d_Author_U)) d_Id)) d_Version).length + (List.take 32 d_Hash).length) (List.take (apI (List.take (apI (List.take (apI (List.take (apI [] d_Author_D).length (apI [] d_Author_D)) d_Author_U).length (apI (List.take (apI [] d_Author_D).length (apI [] d_Author_D)) d_Author_U)) d_Id).length (apI (List.take (apI (List.take (apI [] d_Author_D).length (apI [] d_Author_D)) d_Author_U).length (apI (List.take (apI [] d_Author_D).length (apI [] d_Author_D)) d_Author_U)) d_Id)) d_Version).length (apI (List.take (apI (List.take (apI (List.take (apI [] d_Author_D).length (apI [] d_Author_D)) d_Author_U).length (apI (List.take (apI [] d_Author_D).length (apI [] d_Author_D)) d_Author_U)) d_Id).length (apI (List.take (apI (List.take (apI [] d_Author_D).length (apI [] d_Author_D)) d_Author_U).length (apI (List.take (apI [] d_Author_D).length (apI [] d_Author_D)) d_Author_U)) d_Id)) d_Version) ++ List.take 32 d_Hash)) d_Kind)) (ByteArray.mk (Array.mk (toBytes (false, pu IntKind.u8 (opB d_Op)).snd))))) d_Who_D).length (apI (List.take (apT (List.take (apY (List.take ((apI (List.take (apI (List.take (apI (List.take (apI [] d_Author_D).length (apI [] d_Author_D)) d_Author_U).length (apI (List.take (apI [] d_Author_D).length (apI [] d_Author_D)) d_Author_U)) d_Id).length (apI (List.take (apI (List.take (apI [] d_Author_D).length (apI [] d_Author_D)) d_Author_U).length (apI (List.take (apI [] d_Author_D).length (apI [] d_Author_D)) d_Author_U)) d_Id)) d_Version).length + (List.take 32 d_Hash).length) (List.take (apI (List.take (apI (List.take (apI (List.take (apI [] d_Author_D).length (apI [] d_Author_D)) d_Author_U).length (apI (List.take (apI [] d_Author_D).length (apI [] d_Author_D)) d_Author_U)) d_Id).length (apI (List.take (apI (List.take (apI [] d_Author_D).length (apI [] d_Author_D)) d_Author_U).length (apI (List.take (apI [] d_Author_D).length (apI [] d_Author_D)) d_Author_U)) d_Id)) d_Version).length (apI (List.take (apI (List.take (apI (List.take (apI [] d_Author_D).length (apI [] d_Author_D)) d_Author_U).length (apI (List.take (apI [] d_Author_D).length (apI [] d_Author_D)) d_Author_U)) d_Id).length (apI (List.take (apI (List.take (apI [] d_Author_D).length (apI [] d_Author_D)) d_Author_U).length (apI (List.take (apI [] d_Author_D).length (apI [] d_Author_D)) d_Author_U)) d_Id)) d_Version) ++ List.take 32 d_Hash)) d_Kind).length (apY (List.take ((apI (List.take (apI (List.take (apI (List.take (apI [] d_Author_D).length (apI [] d_Author_D)) d_Author_U).length (apI (List.take (apI [] d_Author_D).length (apI [] d_Author_D)) d_Author_U)) d_Id).length (apI (List.take (apI (List.take (apI [] d_Author_D).length (apI [] d_Author_D)) d_Author_U).length (apI (List.take (apI [] d_Author_D).length (apI [] d_Author_D)) d_Author_U)) d_Id)) d_Version).length + (List.take 32 d_Hash).length) (List.take (apI (List.take (apI (List.take (apI (List.take (apI [] d_Author_D).length (apI [] d_Author_D)) d_Author_U).length (apI (List.take (apI [] d_Author_D).length (apI [] d_Author_D)) d_Author_U)) d_Id).length (apI (List.take (apI (List.take (apI [] d_Author_D).length (apI [] d_Author_D)) d_Author_U).length (apI (List.take (apI [] d_Author_D).length (apI [] d_Author_D)) d_Author_U)) d_Id)) d_Version).length (apI (List.take (apI (List.take (apI (List.take (apI [] d_Author_D).length (apI [] d_Author_D)) d_Author_U).length (apI (List.take (apI [] d_Author_D).length (apI [] d_Author_D)) d_Author_U)) d_Id).length (apI (List.take (apI (List.take (apI [] d_Author_D).length (apI [] d_Author_D)) d_Author_U).length (apI (List.take (apI [] d_Author_D).length (apI [] d_Author_D)) d_Author_U)) d_Id)) d_Version) ++ List.take 32 d_Hash)) d_Kind)) (ByteArray.mk (Array.mk (toBytes (false, pu IntKind.u8 (opB d_Op)).snd)))).length (apT (List.take (apY (List.take ((apI (List.take (apI (List.take (apI (List.take (apI [] d_Author_D).length (apI [] d_Author_D)) d_Author_U).length (apI (List.take (apI [] d_Author_D).length (apI [] d_Author_D)) d_Author_U)) d_Id).length (apI (List.take (apI (List.take (apI [] d_Author_D).length (apI [] d_Author_D)) d_Author_U).length (apI (List.take (apI [] d_Author_D).length (apI [] d_Author_D)) d_Author_U)) d_Id)) d_Version).length + (List.take 32 d_Hash).length) (List.take (apI (List.take (apI (List.take (apI (List.take (apI [] d_Author_D).length (apI [] d_Author_D)) d_Author_U).length (apI (List.take (apI [] d_Author_D).length (apI [] d_Author_D)) d_Author_U)) d_Id).length (apI (List.take (apI (List.take (apI [] d_Author_D).length (apI [] d_Author_D)) d_Author_U).length (apI (List.take (apI [] d_Author_D).length (apI [] d_Author_D)) d_Author_U)) d_Id)) d_Version).length (apI (List.take (apI (List.take (apI (List.take (apI [] d_Author_D).length (apI [] d_Author_D)) d_Author_U).length (apI (List.take (apI [] d_Author_D).length (apI [] d_Author_D)) d_Author_U)) d_Id).length (apI (List.take (apI (List.take (apI [] d_Author_D).length (apI [] d_Author_D)) d_Author_U).length (apI (List.take (apI [] d_Author_D).length (apI [] d_Author_D)) d_Author_U)) d_Id)) d_Version) ++ List.take 32 d_Hash)) d_Kind).length (apY (List.take ((apI (List.take (apI (List.take (apI (List.take (apI [] d_Author_D).length (apI [] d_Author_D)) d_Author_U).length (apI (List.take (apI [] d_Author_D).length (apI [] d_Author_D)) d_Author_U)) d_Id).length (apI (List.take (apI (List.take (apI [] d_Author_D).length (apI [] d_Author_D)) d_Author_U).length (apI (List.take (apI [] d_Author_D).length (apI [] d_Author_D)) d_Author_U)) d_Id)) d_Version).length + (List.take 32 d_Hash).length) (List.take (apI (List.take (apI (List.take (apI (List.take (apI [] d_Author_D).length (apI [] d_Author_D)) d_Author_U).length (apI (List.take (apI [] d_Author_D).length (apI [] d_Author_D)) d_Author_U)) d_Id).length (apI (List.take (apI (List.take (apI [] d_Author_D).length (apI [] d_Author_D)) d_Author_U).length (apI (List.take (apI [] d_Author_D).length (apI [] d_Author_D)) d_Author_U)) d_Id)) d_Version).length (apI (List.take (apI (List.take (apI (List.take (apI [] d_Author_D).length (apI [] d_Author_D)) d_Author_U).length (apI (List.take (apI [] d_Author_D).length (apI [] d_Author_D)) d_Author_U)) d_Id).length (apI (List.take (apI (List.take (apI [] d_Author_D).length (apI [] d_Author_D)) d_Author_U).length (apI (List.take (apI [] d_Author_D).length (apI [] d_Author_D)) d_Author_U)) d_Id)) d_Version) ++ List.take 32 d_Hash)) d_Kind)) (ByteArray.mk (Array.mk (toBytes (false, pu IntKind.u8 (opB d_Op)).snd))))) d_Who_D)) d_Who_U))) [] []) else none else none else none else none else none else none else none else none else none else none else none
theorem e101 (f : Nat) (d_Author_D : Int) (d_Author_U : Int) (d_Id : Int) (d_Version : Int) (d_Hash : List PV) (d_Kind : Int) (d_Op_z : Bool) (d_Op_f : Bool) (d_Op : List PV) (d_Who_D : Int) (d_Who_U : Int) (k : Res → Option Res) : evFn tau F101 Try.f101 (Try.f101.body.get!) an101 [.ro] 6 [.st 73 [.st 45 [.sc (.int .i64 d_Author_D), .sc (.int .i64 d_Author_U)], .sc (.int .i64 d_Id), .sc (.int .i64 d_Version), .ar 37 d_Hash, .sc (.int .i64 d_Kind), .ro 99 d_Op_z d_Op_f d_Op, .st 45 [.sc (.int .i64 d_Who_D), .sc (.int .i64 d_Who_U)]]] [] k = g101 f d_Author_D d_Author_U d_Id d_Version d_Hash d_Kind d_Op_z d_Op_f d_Op d_Who_D d_Who_U k := by kernel_rfl
theorem it101 (f : Nat) : items (Try.f101.body.get!) an101 = [] := by kernel_rfl
theorem ia101 (f : Nat) : ∀ q ∈ items (Try.f101.body.get!) an101, q.Ok tau Try.prog 0 := by
  rw [it101 f]; intro q hq; cases hq
theorem fo101 : Try.prog.funcs[101]? = some Try.f101 := by kernel_rfl
theorem bo101 : Try.f101.body = some (Try.f101.body.get!) := by kernel_rfl
theorem en101 : Enters Try.prog 101 := enters_of fo101 (by kernel_rfl) bo101
end Go.Proofs.Ytcklhipdldpkhaa.Rx

namespace Go.Proofs.Ytcklhipdldpkhaa.Rx
open Go
set_option linter.unusedVariables false
set_option maxRecDepth 100000
set_option maxHeartbeats 0
end Go.Proofs.Ytcklhipdldpkhaa.Rx

namespace Go.Proofs.Ytcklhipdldpkhaa.Rx
open Go
set_option linter.unusedVariables false
set_option maxRecDepth 100000
set_option maxHeartbeats 0
noncomputable def F58 : Fns := addF 114 s114' (addF 98 s98h (addF 97 s97k (F0)))
theorem F58_ok : FnsOk tau Try.prog F58 := (((F0_ok).add ok97k en97).add ok98h en98).add ok114' en114
def an58 : An := (.seq .leaf (.seq .leaf (.seq .leaf .leaf)))
noncomputable def g58 (f : Nat) (e_S_Body_z : Bool) (e_S_Body_f : Bool) (e_S_Body : List PV) (e_S_Mac : List PV) (e_At : Int) (e_Op_z : Bool) (e_Op_f : Bool) (e_Op : List PV) (e_Hash : List PV) (e_Mac : List PV) (k : Res → Option Res) : Option Res := bif allInt IntKind.u8 e_S_Body && true then bif okZ true [] && (ByteArray.mk (Array.mk (toBytes (e_S_Body_z, e_S_Body).snd))).size.ble 65535 then bif roomy ((apT [] (ByteArray.mk (Array.mk (toBytes (e_S_Body_z, e_S_Body).snd)))).length + (List.take 32 e_S_Mac).length) 1 && true then bif okZ false (List.take ((apT [] (ByteArray.mk (Array.mk (toBytes (e_S_Body_z, e_S_Body).snd)))).length + (List.take 32 e_S_Mac).length) (List.take (apT [] (ByteArray.mk (Array.mk (toBytes (e_S_Body_z, e_S_Body).snd)))).length (apT [] (ByteArray.mk (Array.mk (toBytes (e_S_Body_z, e_S_Body).snd)))) ++ List.take 32 e_S_Mac)) then bif cBy e_Op then bif allInt IntKind.u8 (pu IntKind.u8 (opB e_Op)) && true then bif okZ false (List.take (apI (List.take ((apT [] (ByteArray.mk (Array.mk (toBytes (e_S_Body_z, e_S_Body).snd)))).length + (List.take 32 e_S_Mac).length) (List.take (apT [] (ByteArray.mk (Array.mk (toBytes (e_S_Body_z, e_S_Body).snd)))).length (apT [] (ByteArray.mk (Array.mk (toBytes (e_S_Body_z, e_S_Body).snd)))) ++ List.take 32 e_S_Mac)) e_At).length (apI (List.take ((apT [] (ByteArray.mk (Array.mk (toBytes (e_S_Body_z, e_S_Body).snd)))).length + (List.take 32 e_S_Mac).length) (List.take (apT [] (ByteArray.mk (Array.mk (toBytes (e_S_Body_z, e_S_Body).snd)))).length (apT [] (ByteArray.mk (Array.mk (toBytes (e_S_Body_z, e_S_Body).snd)))) ++ List.take 32 e_S_Mac)) e_At)) && (ByteArray.mk (Array.mk (toBytes (false, pu IntKind.u8 (opB e_Op)).snd))).size.ble 65535 then k (Res.mk (.ro 5 false false (List.take (apT (List.take (apI (List.take ((apT [] (ByteArray.mk (Array.mk (toBytes (e_S_Body_z, e_S_Body).snd)))).length + (List.take 32 e_S_Mac).length) (List.take (apT [] (ByteArray.mk (Array.mk (toBytes (e_S_Body_z, e_S_Body).snd)))).length (apT [] (ByteArray.mk (Array.mk (toBytes (e_S_Body_z, e_S_Body).snd)))) ++ List.take 32 e_S_Mac)) e_At).length (apI (List.take ((apT [] (ByteArray.mk (Array.mk (toBytes (e_S_Body_z, e_S_Body).snd)))).length + (List.take 32 e_S_Mac).length) (List.take (apT [] (ByteArray.mk (Array.mk (toBytes (e_S_Body_z, e_S_Body).snd)))).length (apT [] (ByteArray.mk (Array.mk (toBytes (e_S_Body_z, e_S_Body).snd)))) ++ List.take 32 e_S_Mac)) e_At)) (ByteArray.mk (Array.mk (toBytes (false, pu IntKind.u8 (opB e_Op)).snd)))).length (apT (List.take (apI (List.take ((apT [] (ByteArray.mk (Array.mk (toBytes (e_S_Body_z, e_S_Body).snd)))).length + (List.take 32 e_S_Mac).length) (List.take (apT [] (ByteArray.mk (Array.mk (toBytes (e_S_Body_z, e_S_Body).snd)))).length (apT [] (ByteArray.mk (Array.mk (toBytes (e_S_Body_z, e_S_Body).snd)))) ++ List.take 32 e_S_Mac)) e_At).length (apI (List.take ((apT [] (ByteArray.mk (Array.mk (toBytes (e_S_Body_z, e_S_Body).snd)))).length + (List.take 32 e_S_Mac).length) (List.take (apT [] (ByteArray.mk (Array.mk (toBytes (e_S_Body_z, e_S_Body).snd)))).length (apT [] (ByteArray.mk (Array.mk (toBytes (e_S_Body_z, e_S_Body).snd)))) ++ List.take 32 e_S_Mac)) e_At)) (ByteArray.mk (Array.mk (toBytes (false, pu IntKind.u8 (opB e_Op)).snd)))))) [] []) else none else none else none else none else none else none else none
theorem e58 (f : Nat) (e_S_Body_z : Bool) (e_S_Body_f : Bool) (e_S_Body : List PV) (e_S_Mac : List PV) (e_At : Int) (e_Op_z : Bool) (e_Op_f : Bool) (e_Op : List PV) (e_Hash : List PV) (e_Mac : List PV) (k : Res → Option Res) : evFn tau F58 Try.f58 (Try.f58.body.get!) an58 [.ro] 0 [.st 93 [.st 77 [.ro 5 e_S_Body_z e_S_Body_f e_S_Body, .ar 37 e_S_Mac], .sc (.int .i64 e_At), .ro 99 e_Op_z e_Op_f e_Op, .ar 37 e_Hash, .ar 37 e_Mac]] [] k = g58 f e_S_Body_z e_S_Body_f e_S_Body e_S_Mac e_At e_Op_z e_Op_f e_Op e_Hash e_Mac k := by kernel_rfl
theorem it58 (f : Nat) : items (Try.f58.body.get!) an58 = [] := by kernel_rfl
theorem ia58 (f : Nat) : ∀ q ∈ items (Try.f58.body.get!) an58, q.Ok tau Try.prog 0 := by
  rw [it58 f]; intro q hq; cases hq
theorem fo58 : Try.prog.funcs[58]? = some Try.f58 := by kernel_rfl
theorem bo58 : Try.f58.body = some (Try.f58.body.get!) := by kernel_rfl
theorem en58 : Enters Try.prog 58 := enters_of fo58 (by kernel_rfl) bo58
end Go.Proofs.Ytcklhipdldpkhaa.Rx

namespace Go.Proofs.Ytcklhipdldpkhaa.Rx
open Go
set_option linter.unusedVariables false
set_option maxRecDepth 100000
set_option maxHeartbeats 0
noncomputable def F59 : Fns := addF 111 s111' (addF 109 s109k (addF 108 s108k (F0)))
theorem F59_ok : FnsOk tau Try.prog F59 := (((F0_ok).add ok108k en108).add ok109k en109).add ok111' en111
def an59 : An := (.seq .leaf (.seq .leaf (.seq .leaf .leaf)))
noncomputable def g59 (f : Nat) (e_S_Body_z : Bool) (e_S_Body_f : Bool) (e_S_Body : List PV) (e_S_Mac : List PV) (e_At : Int) (e_Op_z : Bool) (e_Op_f : Bool) (e_Op : List PV) (e_Hash : List PV) (e_Mac : List PV) (k : Res → Option Res) : Option Res := bif allInt IntKind.u8 e_S_Body && true then bif (ByteArray.mk (Array.mk (toBytes (e_S_Body_z, e_S_Body).snd))).size.ble 65535 then bif roomy ((apT [] (ByteArray.mk (Array.mk (toBytes (e_S_Body_z, e_S_Body).snd)))).length + (List.take 32 e_S_Mac).length) 1 && true then bif okL ((apT [] (ByteArray.mk (Array.mk (toBytes (e_S_Body_z, e_S_Body).snd)))).length + (List.take 32 e_S_Mac).length) (List.take (apT [] (ByteArray.mk (Array.mk (toBytes (e_S_Body_z, e_S_Body).snd)))).length (apT [] (ByteArray.mk (Array.mk (toBytes (e_S_Body_z, e_S_Body).snd)))) ++ List.take 32 e_S_Mac) then bif cBy e_Op then bif allInt IntKind.u8 (List.take (opB e_Op).length (pu IntKind.u8 (opB e_Op))) && true then bif okL (apI (List.take (apT [] (ByteArray.mk (Array.mk (toBytes (e_S_Body_z, e_S_Body).snd)))).length (apT [] (ByteArray.mk (Array.mk (toBytes (e_S_Body_z, e_S_Body).snd)))) ++ List.take 32 e_S_Mac) e_At).length (apI (List.take (apT [] (ByteArray.mk (Array.mk (toBytes (e_S_Body_z, e_S_Body).snd)))).length (apT [] (ByteArray.mk (Array.mk (toBytes (e_S_Body_z, e_S_Body).snd)))) ++ List.take 32 e_S_Mac) e_At) && (ByteArray.mk (Array.mk (toBytes ((Ent.vec false 5 false (pu IntKind.u8 (opB e_Op))).nil, List.take (opB e_Op).length (List.drop 0 (pu IntKind.u8 (opB e_Op)))).snd))).size.ble 65535 then k (Res.mk (.ow 5 16 [] 0 (apT (apI (List.take (apT [] (ByteArray.mk (Array.mk (toBytes (e_S_Body_z, e_S_Body).snd)))).length (apT [] (ByteArray.mk (Array.mk (toBytes (e_S_Body_z, e_S_Body).snd)))) ++ List.take 32 e_S_Mac) e_At) (ByteArray.mk (Array.mk (toBytes ((Ent.vec false 5 false (pu IntKind.u8 (opB e_Op))).nil, List.take (opB e_Op).length (List.drop 0 (pu IntKind.u8 (opB e_Op)))).snd)))).length none) [] [.vec false 5 false (apT (apI (List.take (apT [] (ByteArray.mk (Array.mk (toBytes (e_S_Body_z, e_S_Body).snd)))).length (apT [] (ByteArray.mk (Array.mk (toBytes (e_S_Body_z, e_S_Body).snd)))) ++ List.take 32 e_S_Mac) e_At) (ByteArray.mk (Array.mk (toBytes ((Ent.vec false 5 false (pu IntKind.u8 (opB e_Op))).nil, List.take (opB e_Op).length (List.drop 0 (pu IntKind.u8 (opB e_Op)))).snd))))]) else none else none else none else none else none else none else none
theorem e59 (f : Nat) (e_S_Body_z : Bool) (e_S_Body_f : Bool) (e_S_Body : List PV) (e_S_Mac : List PV) (e_At : Int) (e_Op_z : Bool) (e_Op_f : Bool) (e_Op : List PV) (e_Hash : List PV) (e_Mac : List PV) (k : Res → Option Res) : evFn tau F59 Try.f59 (Try.f59.body.get!) an59 [] 0 [.st 93 [.st 77 [.ro 5 e_S_Body_z e_S_Body_f e_S_Body, .ar 37 e_S_Mac], .sc (.int .i64 e_At), .ro 99 e_Op_z e_Op_f e_Op, .ar 37 e_Hash, .ar 37 e_Mac]] [] k = g59 f e_S_Body_z e_S_Body_f e_S_Body e_S_Mac e_At e_Op_z e_Op_f e_Op e_Hash e_Mac k := by kernel_rfl
theorem it59 (f : Nat) : items (Try.f59.body.get!) an59 = [] := by kernel_rfl
theorem ia59 (f : Nat) : ∀ q ∈ items (Try.f59.body.get!) an59, q.Ok tau Try.prog 0 := by
  rw [it59 f]; intro q hq; cases hq
theorem fo59 : Try.prog.funcs[59]? = some Try.f59 := by kernel_rfl
theorem bo59 : Try.f59.body = some (Try.f59.body.get!) := by kernel_rfl
theorem en59 : Enters Try.prog 59 := enters_of fo59 (by kernel_rfl) bo59
end Go.Proofs.Ytcklhipdldpkhaa.Rx

-- FN sign.Core | ref9.Core
namespace Go.Proofs.Ytcklhipdldpkhaa.Rx
open Go
set_option linter.unusedVariables false
set_option linter.unusedSimpArgs false
set_option maxRecDepth 100000
set_option maxHeartbeats 1000000
def tx (l : List PV) : ByteArray := ByteArray.mk (Array.mk (toBytes l))
theorem tx_size (l : List PV) : (tx l).size = l.length := toBytes_len l
structure EV where
  (b m : List PV) (at1 : Int) (o : List PV)
noncomputable def coreB0 (e : EV) : List Int := textB (tx e.b) ++ (ints e.m ++ (intB e.at1 ++ textB (tx (pu .u8 (opB e.o)))))
noncomputable def coreB : EV → List Int := hid coreB0
theorem coreB_eq (e : EV) : coreB e = coreB0 e := by rw [coreB, hid_eq]
noncomputable def eOk : EV → Bool := hid fun e => allInt .u8 e.b && (decide (e.b.length ≤ 65535) && (allInt .u8 e.m && (decide (e.m.length = 32) && (cBy e.o && decide ((opB e.o).length ≤ 65535)))))
theorem eOk_iff {e : EV} : eOk e = true ↔ allInt .u8 e.b = true ∧ e.b.length ≤ 65535 ∧ allInt .u8 e.m = true ∧ e.m.length = 32 ∧ cBy e.o = true ∧ (opB e.o).length ≤ 65535 := by
  rw [eOk, hid_eq]; simp only [Bool.and_eq_true, decide_eq_true_eq]
theorem coreB_length {e : EV} (h : eOk e = true) : (coreB e).length = e.b.length + (opB e.o).length + 44 := by
  obtain ⟨h1, h2, h3, h4, h5, h6⟩ := eOk_iff.1 h
  rw [coreB_eq]
  simp only [coreB0, List.length_append, textB_length, ints_length, intB_length, tx_size, pu_length, h4]; omega
theorem core_parts {e : EV} (h : eOk e = true) : apT (apI (apT [] (tx e.b) ++ List.take 32 e.m) e.at1) (tx (pu .u8 (opB e.o))) = pu .u8 (coreB e) := by
  obtain ⟨h1, h2, h3, h4, h5, h6⟩ := eOk_iff.1 h
  rw [coreB_eq, apT_eq, apI_eq, apT_eq, List.take_of_length_le (by omega)]
  simp only [coreB0, pu_append, List.nil_append, List.append_assoc, ← pu_ints h3]
noncomputable def run58' : List PV → List Ent → (Res → Option Res) → Option Res
  | [.st 93 [.st 77 [.ro 5 bz bf b, .ar 37 m], .sc (.int .i64 at1), .ro 99 oz of o, .ar 37 h, .ar 37 mc]], [], k => bif eOk ⟨b, m, at1, o⟩ then k ⟨.ro 5 false false (pu .u8 (coreB ⟨b, m, at1, o⟩)), [], []⟩ else none
  | _, _, _ => none
noncomputable def s58' : Sig := { own := [], run := run58' }
theorem g58_eq (bz bf : Bool) (b m : List PV) (at1 : Int) (oz of : Bool) (o h mc : List PV) (he : eOk ⟨b, m, at1, o⟩ = true) (k : Res → Option Res) : g58 0 bz bf b m at1 oz of o h mc k = k ⟨.ro 5 false false (pu .u8 (coreB ⟨b, m, at1, o⟩)), [], []⟩ := by
  have hl := coreB_length he
  have hp := core_parts he
  obtain ⟨h1, h2, h3, h4, h5, h6⟩ := eOk_iff.1 he
  simp only at hl hp h1 h2 h3 h4 h5 h6
  have ht : ∀ l : List PV, ByteArray.mk (Array.mk (toBytes l)) = tx l := fun l => rfl
  have hm : List.take 32 m = m := List.take_of_length_le (by omega)
  have l1 : (apT [] (tx b)).length = b.length + 2 := by rw [apT_eq]; simp [tx_size]
  have l2 : ∀ (L : List PV) (n : Int), (apI L n).length = L.length + 8 := ap_len2
  have htp : ∀ l : List Int, List.take l.length (pu .u8 l) = pu .u8 l := fun l => List.take_of_length_le (by simp)
  have hcat : ∀ n, n = (apT [] (tx b)).length + m.length → List.take n (apT [] (tx b) ++ m) = apT [] (tx b) ++ m := fun n hn => List.take_of_length_le (by simp; omega)
  rw [hm] at hp
  unfold g58
  simp only [ht, hm, List.take_length, htp, List.drop_zero, hcat _ rfl, tx_size, pu_length]
  refine (bif_t (by rw [h1]; rfl)).trans ((bif_t (by rw [okZ_eq]; show (true && _) = true; rw [Bool.true_and, Nat.ble_eq]; exact h2)).trans ((bif_t (by simp only [roomy, Nat.mul_one, Bool.and_true, decide_eq_true_eq, l1]; omega)).trans ((bif_t (by rw [okZ_t' (by rw [List.length_append, l1]; omega)])).trans ((bif_t h5).trans ((bif_t (by rw [allInt_pu]; rfl)).trans ((bif_t (by rw [okZ_t' (by rw [l2, List.length_append, l1]; omega), Bool.true_and, Nat.ble_eq]; exact h6)).trans ?_))))))
  rw [hp]
  try rfl
theorem ok58' : CallOk tau Try.prog 58 s58' := CallOk.mk' fun xs es k res hl hr => by
  change run58' xs es k = some res at hr
  unfold run58' at hr
  split at hr
  · rename_i bz bf b m at1 oz of o h mc
    obtain ⟨hc, hr⟩ := of_bif hr
    exact fn_at tabOk F58_ok mixed fo58 bo58 an58 [.ro] 0 0 (ia58 0) hl rfl ((e58 0 bz bf b m at1 oz of o h mc k).trans ((g58_eq bz bf b m at1 oz of o h mc hc k).trans hr))
  · cases hr
noncomputable def run59' : List PV → List Ent → (Res → Option Res) → Option Res
  | [.st 93 [.st 77 [.ro 5 bz bf b, .ar 37 m], .sc (.int .i64 at1), .ro 99 oz of o, .ar 37 h, .ar 37 mc]], [], k => bif eOk ⟨b, m, at1, o⟩ then k ⟨.ow 5 16 [] 0 (coreB ⟨b, m, at1, o⟩).length none, [], [.vec false 5 false (pu .u8 (coreB ⟨b, m, at1, o⟩))]⟩ else none
  | _, _, _ => none
noncomputable def s59' : Sig := { own := [], run := run59' }
theorem g59_eq (bz bf : Bool) (b m : List PV) (at1 : Int) (oz of : Bool) (o h mc : List PV) (he : eOk ⟨b, m, at1, o⟩ = true) (k : Res → Option Res) : g59 0 bz bf b m at1 oz of o h mc k = k ⟨.ow 5 16 [] 0 (coreB ⟨b, m, at1, o⟩).length none, [], [.vec false 5 false (pu .u8 (coreB ⟨b, m, at1, o⟩))]⟩ := by
  have hl := coreB_length he
  have hp := core_parts he
  obtain ⟨h1, h2, h3, h4, h5, h6⟩ := eOk_iff.1 he
  simp only at hl hp h1 h2 h3 h4 h5 h6
  have ht : ∀ l : List PV, ByteArray.mk (Array.mk (toBytes l)) = tx l := fun l => rfl
  have hm : List.take 32 m = m := List.take_of_length_le (by omega)
  have l1 : (apT [] (tx b)).length = b.length + 2 := by rw [apT_eq]; simp [tx_size]
  have l2 : ∀ (L : List PV) (n : Int), (apI L n).length = L.length + 8 := ap_len2
  have htp : ∀ l : List Int, List.take l.length (pu .u8 l) = pu .u8 l := fun l => List.take_of_length_le (by simp)
  have hcat : ∀ n, n = (apT [] (tx b)).length + m.length → List.take n (apT [] (tx b) ++ m) = apT [] (tx b) ++ m := fun n hn => List.take_of_length_le (by simp; omega)
  rw [hm] at hp
  unfold g59
  simp only [ht, hm, List.take_length, htp, List.drop_zero, hcat _ rfl, tx_size, pu_length]
  refine (bif_t (by rw [h1]; rfl)).trans ((bif_t (by rw [Nat.ble_eq]; exact h2)).trans ((bif_t (by simp only [roomy, Nat.mul_one, Bool.and_true, decide_eq_true_eq, l1]; omega)).trans ((bif_t (by rw [show (apT [] (tx b)).length + m.length = (apT [] (tx b) ++ m).length from (List.length_append).symm, okL_t' (by rw [List.length_append, l1]; omega)])).trans ((bif_t h5).trans ((bif_t (by rw [allInt_pu]; rfl)).trans ((bif_t (by rw [okL_t' (by rw [l2, List.length_append, l1]; omega), Bool.true_and, Nat.ble_eq]; exact h6)).trans ?_))))))
  rw [hp]
  rw [pu_length]
theorem ok59' : CallOk tau Try.prog 59 s59' := CallOk.mk' fun xs es k res hl hr => by
  change run59' xs es k = some res at hr
  unfold run59' at hr
  split at hr
  · rename_i bz bf b m at1 oz of o h mc
    obtain ⟨hc, hr⟩ := of_bif hr
    exact fn_at tabOk F59_ok mixed fo59 bo59 an59 [] 0 0 (ia59 0) hl rfl ((e59 0 bz bf b m at1 oz of o h mc k).trans ((g59_eq bz bf b m at1 oz of o h mc hc k).trans hr))
  · cases hr

end Go.Proofs.Ytcklhipdldpkhaa.Rx

-- FN delta.Bytes | ref8.Bytes
namespace Go.Proofs.Ytcklhipdldpkhaa.Rx
open Go
set_option linter.unusedVariables false
set_option linter.unusedSimpArgs false
set_option maxRecDepth 100000
set_option maxHeartbeats 1000000
structure DV where
  (ad au id ve : Int) (h : List PV) (kd : Int) (o : List PV) (wd wu : Int)
noncomputable def dlB0 (d : DV) : List Int := intB d.ad ++ (intB d.au ++ (intB d.id ++ (intB d.ve ++ (ints d.h ++ ([IntKind.u8.wrap d.kd] ++ (textB (tx (pu .u8 (opB d.o))) ++ (intB d.wd ++ intB d.wu)))))))
noncomputable def dlB : DV → List Int := hid dlB0
theorem dlB_eq (d : DV) : dlB d = dlB0 d := by rw [dlB, hid_eq]
noncomputable def dOk : DV → Bool := hid fun d => allInt .u8 d.h && (decide (d.h.length = 32) && (cBy d.o && decide ((opB d.o).length ≤ 65535)))
theorem dOk_iff {d : DV} : dOk d = true ↔ allInt .u8 d.h = true ∧ d.h.length = 32 ∧ cBy d.o = true ∧ (opB d.o).length ≤ 65535 := by
  rw [dOk, hid_eq]; simp only [Bool.and_eq_true, decide_eq_true_eq]
theorem dlB_length {d : DV} (h : dOk d = true) : (dlB d).length = (opB d.o).length + 83 := by
  obtain ⟨h1, h2, h3, h4⟩ := dOk_iff.1 h
  rw [dlB_eq]
  simp only [dlB0, List.length_append, textB_length, ints_length, intB_length, tx_size, pu_length, h2, List.length_cons, List.length_nil]; omega
theorem dl_parts {d : DV} (h : dOk d = true) : apI (apI (apT (apY (apI (apI (apI (apI [] d.ad) d.au) d.id) d.ve ++ List.take 32 d.h) d.kd) (tx (pu .u8 (opB d.o)))) d.wd) d.wu = pu .u8 (dlB d) := by
  obtain ⟨h1, h2, h3, h4⟩ := dOk_iff.1 h
  rw [dlB_eq, List.take_of_length_le (by omega)]
  simp only [apT_eq, apI_eq, apY_eq, dlB0, pu_append, List.nil_append, List.append_assoc, ← pu_ints h1]
noncomputable def run101' : List PV → List Ent → (Res → Option Res) → Option Res
  | [.st 73 [.st 45 [.sc (.int .i64 ad), .sc (.int .i64 au)], .sc (.int .i64 id1), .sc (.int .i64 ve), .ar 37 h, .sc (.int .i64 kd), .ro 99 oz of o, .st 45 [.sc (.int .i64 wd), .sc (.int .i64 wu)]]], [], k => bif dOk ⟨ad, au, id1, ve, h, kd, o, wd, wu⟩ then k ⟨.ro 5 false false (pu .u8 (dlB ⟨ad, au, id1, ve, h, kd, o, wd, wu⟩)), [], []⟩ else none
  | _, _, _ => none
noncomputable def s101' : Sig := { own := [], run := run101' }
theorem g101_eq (ad au id1 ve : Int) (h : List PV) (kd : Int) (oz of : Bool) (o : List PV) (wd wu : Int) (he : dOk ⟨ad, au, id1, ve, h, kd, o, wd, wu⟩ = true) (k : Res → Option Res) : g101 0 ad au id1 ve h kd oz of o wd wu k = k ⟨.ro 5 false false (pu .u8 (dlB ⟨ad, au, id1, ve, h, kd, o, wd, wu⟩)), [], []⟩ := by
  have hl := dlB_length he
  have hp := dl_parts he
  obtain ⟨h1, h2, h3, h4⟩ := dOk_iff.1 he
  simp only at hl hp h1 h2 h3 h4
  have ht : ∀ l : List PV, ByteArray.mk (Array.mk (toBytes l)) = tx l := fun l => rfl
  have hm : List.take 32 h = h := List.take_of_length_le (by omega)
  have l1 : ∀ (L : List PV) (n : Int), (apY L n).length = L.length + 1 := ap_len1
  have l2 : ∀ (L : List PV) (n : Int), (apI L n).length = L.length + 8 := ap_len2
  have l3 : ∀ (L : List PV), (apT L (tx (pu .u8 (opB o)))).length = L.length + ((opB o).length + 2) := fun L => by rw [apT_eq]; simp [tx_size]
  have htp : ∀ l : List Int, List.take l.length (pu .u8 l) = pu .u8 l := fun l => List.take_of_length_le (by simp)
  have hcat : ∀ L : List PV, List.take (L.length + h.length) (L ++ h) = L ++ h := fun L => List.take_of_length_le (by simp)
  rw [hm] at hp
  unfold g101
  simp only [ht, hm, List.take_length, htp, List.drop_zero, hcat, tx_size, pu_length]
  refine (bif_t (by rw [okZ_eq]; rfl)).trans ((bif_t (okZ_t' (by simp only [l2, List.length_nil]; omega))).trans ((bif_t (okZ_t' (by simp only [l2, List.length_nil]; omega))).trans ((bif_t (okZ_t' (by simp only [l2, List.length_nil]; omega))).trans ?_)))
  refine (bif_t (by simp only [roomy, Nat.mul_one, Bool.and_true, decide_eq_true_eq, l2, List.length_nil]; omega)).trans ?_
  refine (bif_t (by rw [okZ_t' (by simp only [List.length_append, l2, List.length_nil]; omega)])).trans ((bif_t h3).trans ((bif_t (by rw [allInt_pu]; rfl)).trans ?_))
  refine (bif_t (by rw [okZ_t' (by simp only [l1, List.length_append, l2, List.length_nil]; omega), Bool.true_and, Nat.ble_eq]; exact h4)).trans ?_
  refine (bif_t (okZ_t' (by rw [l3]; simp only [l1, List.length_append, l2, List.length_nil]; omega))).trans ?_
  refine (bif_t (okZ_t' (by rw [l2, l3]; simp only [l1, List.length_append, l2, List.length_nil]; omega))).trans ?_
  rw [hp]
  try rfl
theorem ok101' : CallOk tau Try.prog 101 s101' := CallOk.mk' fun xs es k res hl hr => by
  change run101' xs es k = some res at hr
  unfold run101' at hr
  split at hr
  · rename_i ad au id1 ve h kd oz of o wd wu
    obtain ⟨hc, hr⟩ := of_bif hr
    exact fn_at tabOk F101_ok mixed fo101 bo101 an101 [.ro] 0 6 (ia101 0) hl rfl ((e101 0 ad au id1 ve h kd oz of o wd wu k).trans ((g101_eq ad au id1 ve h kd oz of o wd wu hc k).trans hr))
  · cases hr
end Go.Proofs.Ytcklhipdldpkhaa.Rx

namespace Go.Proofs.Ytcklhipdldpkhaa.Rx
open Go
set_option linter.unusedVariables false
set_option maxRecDepth 100000
set_option maxHeartbeats 0
noncomputable def F102 : Fns := F0
theorem F102_ok : FnsOk tau Try.prog F102 := F0_ok
def an102 : An := (.seq .leaf (.seq (.seq .leaf (.cond (.seq .leaf .leaf) .leaf)) (.seq .leaf .leaf)))
noncomputable def g102 (f : Nat) (k0_z : Bool) (k0_f : Bool) (k0 : List PV) (k1_z : Bool) (k1_f : Bool) (k1 : List PV) (k2_z : Bool) (k2_f : Bool) (k2 : List PV) (d : Int) (k : Res → Option Res) : Option Res := bif decide (d < 0) then k (Res.mk (.tup [.ro 5 true true [], .sc (.bool false)]) [] []) else bif decide (d ≥ 3) then k (Res.mk (.tup [.ro 5 true true [], .sc (.bool false)]) [] []) else bif decide (0 ≤ d) && decide (d < zi 3) && true then bif PV.isRo 5 (getP (PV.st 31 [.ro 5 k0_z k0_f k0, .ro 5 k1_z k1_f k1, .ro 5 k2_z k2_f k2]) [d.toNat]) && true then k (Res.mk (.tup [.ro 5 (getP (PV.st 31 [.ro 5 k0_z k0_f k0, .ro 5 k1_z k1_f k1, .ro 5 k2_z k2_f k2]) [d.toNat]).nl (getP (PV.st 31 [.ro 5 k0_z k0_f k0, .ro 5 k1_z k1_f k1, .ro 5 k2_z k2_f k2]) [d.toNat]).fl (getP (PV.st 31 [.ro 5 k0_z k0_f k0, .ro 5 k1_z k1_f k1, .ro 5 k2_z k2_f k2]) [d.toNat]).els, .sc (.bool true)]) [] []) else none else none
theorem e102 (f : Nat) (k0_z : Bool) (k0_f : Bool) (k0 : List PV) (k1_z : Bool) (k1_f : Bool) (k1 : List PV) (k2_z : Bool) (k2_f : Bool) (k2 : List PV) (d : Int) (k : Res → Option Res) : evFn tau F102 Try.f102 (Try.f102.body.get!) an102 [.ro, .ro] 0 [.st 31 [.ro 5 k0_z k0_f k0, .ro 5 k1_z k1_f k1, .ro 5 k2_z k2_f k2], .sc (.int .i64 d)] [] k = g102 f k0_z k0_f k0 k1_z k1_f k1 k2_z k2_f k2 d k := by kernel_rfl
theorem it102 (f : Nat) : items (Try.f102.body.get!) an102 = [] := by kernel_rfl
theorem ia102 (f : Nat) : ∀ q ∈ items (Try.f102.body.get!) an102, q.Ok tau Try.prog 0 := by
  rw [it102 f]; intro q hq; cases hq
theorem fo102 : Try.prog.funcs[102]? = some Try.f102 := by kernel_rfl
theorem bo102 : Try.f102.body = some (Try.f102.body.get!) := by kernel_rfl
theorem en102 : Enters Try.prog 102 := enters_of fo102 (by kernel_rfl) bo102
noncomputable def run102 : List PV → List Ent → (Res → Option Res) → Option Res
  | [.st 31 [.ro 5 k0_z k0_f k0, .ro 5 k1_z k1_f k1, .ro 5 k2_z k2_f k2], .sc (.int .i64 d)], [], k => g102 0 k0_z k0_f k0 k1_z k1_f k1 k2_z k2_f k2 d k
  | _, _, _ => none
noncomputable def s102 : Sig := { own := [], run := run102 }
theorem ok102 : CallOk tau Try.prog 102 s102 := fn_ok tabOk F102_ok mixed fo102 bo102 an102 [.ro, .ro] 0 [] run102 (ia102 0) fun xs es k res hr => by
  unfold run102 at hr
  split at hr
  · exact ⟨rfl, 0, (e102 0 _ _ _ _ _ _ _ _ _ _  _).trans hr⟩
  · cases hr
end Go.Proofs.Ytcklhipdldpkhaa.Rx

-- FN sign.key
namespace Go.Proofs.Ytcklhipdldpkhaa.Rx
open Go
set_option linter.unusedVariables false
set_option linter.unusedSimpArgs false
set_option maxRecDepth 100000
set_option maxHeartbeats 1000000
noncomputable def kIn : Int → Bool := hid fun d => innB d 2
theorem kIn_eq (d : Int) : kIn d = innB d 2 := by rw [kIn, hid_eq]
noncomputable def run102' : List PV → List Ent → (Res → Option Res) → Option Res
  | [.st 31 [.ro 5 z0 f0 k0, .ro 5 z1 f1 k1, .ro 5 z2 f2 k2], .sc (.int .i64 d)], [], k =>
    k ⟨.tup [.ro 5 (keyZ ⟨[.ro 5 z0 f0 k0, .ro 5 z1 f1 k1, .ro 5 z2 f2 k2], d⟩) (keyL ⟨[.ro 5 z0 f0 k0, .ro 5 z1 f1 k1, .ro 5 z2 f2 k2], d⟩) (keyF ⟨[.ro 5 z0 f0 k0, .ro 5 z1 f1 k1, .ro 5 z2 f2 k2], d⟩), .sc (.bool (kIn d))], [], []⟩
  | _, _, _ => none
noncomputable def s102' : Sig := { own := [], run := run102' }
theorem ok102' : CallOk tau Try.prog 102 s102' := ok102.of fun xs es k res hr => by
  change run102' xs es k = some res at hr
  unfold run102' at hr
  split at hr
  · rename_i z0 f0 k0 z1 f1 k1 z2 f2 k2 d
    show g102 0 z0 f0 k0 z1 f1 k1 z2 f2 k2 d k = some res
    rw [keyZ_eq, keyL_eq, keyF_eq, kIn_eq] at hr
    unfold g102
    by_cases h1 : 0 ≤ d
    · refine (bif_f (by simp; omega)).trans ?_
      by_cases h2 : d ≤ 2
      · refine (bif_f (by simp; omega)).trans ?_
        refine (bif_t (by simp [zi]; omega)).trans ?_
        have hi : innB d 2 = true := by simp [innB]; omega
        have hk : keyF0 [.ro 5 z0 f0 k0, .ro 5 z1 f1 k1, .ro 5 z2 f2 k2] d = getP (PV.st 31 [.ro 5 z0 f0 k0, .ro 5 z1 f1 k1, .ro 5 z2 f2 k2]) [d.toNat] := by unfold keyF0; rw [hi]; rfl
        simp only [hk, hi] at hr
        refine (bif_t ?_).trans hr
        have : d = 0 ∨ d = 1 ∨ d = 2 := by omega
        rcases this with rfl | rfl | rfl <;> rfl
      · refine (bif_t (by simp; omega)).trans ?_
        have hi : innB d 2 = false := by simp [innB]; omega
        have hk : keyF0 [.ro 5 z0 f0 k0, .ro 5 z1 f1 k1, .ro 5 z2 f2 k2] d = .ro 5 true true [] := by unfold keyF0; rw [hi]; rfl
        simp only [hk, hi] at hr
        exact hr
    · refine (bif_t (by simp; omega)).trans ?_
      have hi : innB d 2 = false := by simp [innB]; omega
      have hk : keyF0 [.ro 5 z0 f0 k0, .ro 5 z1 f1 k1, .ro 5 z2 f2 k2] d = .ro 5 true true [] := by unfold keyF0; rw [hi]; rfl
      simp only [hk, hi] at hr
      exact hr
  · cases hr
end Go.Proofs.Ytcklhipdldpkhaa.Rx

namespace Go.Proofs.Ytcklhipdldpkhaa.Rx
open Go
set_option linter.unusedVariables false
set_option maxRecDepth 100000
set_option maxHeartbeats 0
noncomputable def F46 : Fns := addF 102 s102' (addF 101 s101' (addF 80 s80' (F0)))
theorem F46_ok : FnsOk tau Try.prog F46 := (((F0_ok).add ok80' en80).add ok101' en101).add ok102' en102
def an46 : An := (.seq .leaf (.seq .leaf (.seq .leaf (.seq .leaf .leaf))))
noncomputable def g46 (f : Nat) (k0_z : Bool) (k0_f : Bool) (k0 : List PV) (k1_z : Bool) (k1_f : Bool) (k1 : List PV) (k2_z : Bool) (k2_f : Bool) (k2 : List PV) (d_Author_D : Int) (d_Author_U : Int) (d_Id : Int) (d_Version : Int) (d_Hash : List PV) (d_Kind : Int) (d_Op_z : Bool) (d_Op_f : Bool) (d_Op : List PV) (d_Who_D : Int) (d_Who_U : Int) (k : Res → Option Res) : Option Res := bif dOk (DV.mk d_Author_D d_Author_U d_Id d_Version d_Hash d_Kind d_Op d_Who_D d_Who_U) then bif allInt IntKind.u8 (keyF (K3.mk [.ro 5 k0_z k0_f k0, .ro 5 k1_z k1_f k1, .ro 5 k2_z k2_f k2] d_Author_D)) && decide ((keyF (K3.mk [.ro 5 k0_z k0_f k0, .ro 5 k1_z k1_f k1, .ro 5 k2_z k2_f k2] d_Author_D)).length ≤ 1000000000) && (allInt IntKind.u8 (flat [.ro 5 false false (pu IntKind.u8 (dlB (DV.mk d_Author_D d_Author_U d_Id d_Version d_Hash d_Kind d_Op d_Who_D d_Who_U)))]) && decide ((flat [.ro 5 false false (pu IntKind.u8 (dlB (DV.mk d_Author_D d_Author_U d_Id d_Version d_Hash d_Kind d_Op d_Who_D d_Who_U)))]).length ≤ 1000000000)) && true then k (Res.mk (.st 77 [.ro 5 false false (pu IntKind.u8 (dlB (DV.mk d_Author_D d_Author_U d_Id d_Version d_Hash d_Kind d_Op d_Who_D d_Who_U))), .ar 37 (pu IntKind.u8 (macP (ints (keyF (K3.mk [.ro 5 k0_z k0_f k0, .ro 5 k1_z k1_f k1, .ro 5 k2_z k2_f k2] d_Author_D))) (ints (flat [.ro 5 false false (pu IntKind.u8 (dlB (DV.mk d_Author_D d_Author_U d_Id d_Version d_Hash d_Kind d_Op d_Who_D d_Who_U)))]))))]) [] []) else none else none
theorem e46 (f : Nat) (k0_z : Bool) (k0_f : Bool) (k0 : List PV) (k1_z : Bool) (k1_f : Bool) (k1 : List PV) (k2_z : Bool) (k2_f : Bool) (k2 : List PV) (d_Author_D : Int) (d_Author_U : Int) (d_Id : Int) (d_Version : Int) (d_Hash : List PV) (d_Kind : Int) (d_Op_z : Bool) (d_Op_f : Bool) (d_Op : List PV) (d_Who_D : Int) (d_Who_U : Int) (k : Res → Option Res) : evFn tau F46 Try.f46 (Try.f46.body.get!) an46 [.ro] 0 [.st 31 [.ro 5 k0_z k0_f k0, .ro 5 k1_z k1_f k1, .ro 5 k2_z k2_f k2], .st 73 [.st 45 [.sc (.int .i64 d_Author_D), .sc (.int .i64 d_Author_U)], .sc (.int .i64 d_Id), .sc (.int .i64 d_Version), .ar 37 d_Hash, .sc (.int .i64 d_Kind), .ro 99 d_Op_z d_Op_f d_Op, .st 45 [.sc (.int .i64 d_Who_D), .sc (.int .i64 d_Who_U)]]] [] k = g46 f k0_z k0_f k0 k1_z k1_f k1 k2_z k2_f k2 d_Author_D d_Author_U d_Id d_Version d_Hash d_Kind d_Op_z d_Op_f d_Op d_Who_D d_Who_U k := by kernel_rfl
theorem it46 (f : Nat) : items (Try.f46.body.get!) an46 = [] := by kernel_rfl
theorem ia46 (f : Nat) : ∀ q ∈ items (Try.f46.body.get!) an46, q.Ok tau Try.prog 0 := by
  rw [it46 f]; intro q hq; cases hq
theorem fo46 : Try.prog.funcs[46]? = some Try.f46 := by kernel_rfl
theorem bo46 : Try.f46.body = some (Try.f46.body.get!) := by kernel_rfl
theorem en46 : Enters Try.prog 46 := enters_of fo46 (by kernel_rfl) bo46
noncomputable def run46 : List PV → List Ent → (Res → Option Res) → Option Res
  | [.st 31 [.ro 5 k0_z k0_f k0, .ro 5 k1_z k1_f k1, .ro 5 k2_z k2_f k2], .st 73 [.st 45 [.sc (.int .i64 d_Author_D), .sc (.int .i64 d_Author_U)], .sc (.int .i64 d_Id), .sc (.int .i64 d_Version), .ar 37 d_Hash, .sc (.int .i64 d_Kind), .ro 99 d_Op_z d_Op_f d_Op, .st 45 [.sc (.int .i64 d_Who_D), .sc (.int .i64 d_Who_U)]]], [], k => g46 0 k0_z k0_f k0 k1_z k1_f k1 k2_z k2_f k2 d_Author_D d_Author_U d_Id d_Version d_Hash d_Kind d_Op_z d_Op_f d_Op d_Who_D d_Who_U k
  | _, _, _ => none
noncomputable def s46 : Sig := { own := [], run := run46 }
theorem ok46 : CallOk tau Try.prog 46 s46 := fn_ok tabOk F46_ok mixed fo46 bo46 an46 [.ro] 0 [] run46 (ia46 0) fun xs es k res hr => by
  unfold run46 at hr
  split at hr
  · exact ⟨rfl, 0, (e46 0 _ _ _ _ _ _ _ _ _ _ _ _ _ _ _ _ _ _ _ _  _).trans hr⟩
  · cases hr
end Go.Proofs.Ytcklhipdldpkhaa.Rx

namespace Go.Proofs.Ytcklhipdldpkhaa.Rx
open Go
set_option linter.unusedVariables false
set_option maxRecDepth 100000
set_option maxHeartbeats 0
noncomputable def F161 : Fns := F0
theorem F161_ok : FnsOk tau Try.prog F161 := F0_ok
def an161 : An := (.seq .leaf (.seq (.seq .leaf (.cond (.seq .leaf .leaf) .leaf)) (.seq .leaf .leaf)))
noncomputable def g161 (f : Nat) (s_z : Bool) (s_f : Bool) (s : List PV) (k : Res → Option Res) : Option Res :=
  bif s_z then
    k (Res.mk (PV.ro 99 true true []) [] [])
  else bif roomy (0 + s.length) 32 && true then
    k (Res.mk (PV.ro 99 false false (List.take (0 + s.length) s)) [] [])
  else none
theorem e161 (f : Nat) (s_z : Bool) (s_f : Bool) (s : List PV) (k : Res → Option Res) : evFn tau F161 Try.f161 (Try.f161.body.get!) an161 [.ro] 0 [.ro 99 s_z s_f s] [] k = g161 f s_z s_f s k := by kernel_rfl
theorem it161 (f : Nat) : items (Try.f161.body.get!) an161 = [] := by kernel_rfl
theorem ia161 (f : Nat) : ∀ q ∈ items (Try.f161.body.get!) an161, q.Ok tau Try.prog 0 := by
  rw [it161 f]; intro q hq; cases hq
theorem fo161 : Try.prog.funcs[161]? = some Try.f161 := by kernel_rfl
theorem bo161 : Try.f161.body = some (Try.f161.body.get!) := by kernel_rfl
theorem en161 : Enters Try.prog 161 := enters_of fo161 (by kernel_rfl) bo161
noncomputable def run161 : List PV → List Ent → (Res → Option Res) → Option Res
  | [.ro 99 s_z s_f s], [], k => g161 0 s_z s_f s k
  | _, _, _ => none
noncomputable def s161 : Sig := { own := [], run := run161 }
theorem ok161 : CallOk tau Try.prog 161 s161 := fn_ok tabOk F161_ok mixed fo161 bo161 an161 [.ro] 0 [] run161 (ia161 0) fun xs es k res hr => by
  unfold run161 at hr
  split at hr
  · exact ⟨rfl, 0, (e161 0 _ _ _  _).trans hr⟩
  · cases hr
end Go.Proofs.Ytcklhipdldpkhaa.Rx
