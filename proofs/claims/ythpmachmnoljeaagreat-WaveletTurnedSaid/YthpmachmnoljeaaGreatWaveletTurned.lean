/- Any entry, one that WT with one thing turned, too, is done, or refused, as the document says.
  Conditions: none beyond the statement's own. Own work. -/
import Derived.Test.YthpmachmnoljeaaGreatWaveletTurnedP6
import Derived.Test.YthpmachmnoljeaaGreatRows
namespace Go.Proofs.YthpmachmnoljeaaGreat
open Go.ChangeShapes Go.WideShapes Go.ChangeAt Go.RowKit Rx
set_option linter.unusedVariables false
theorem JRw : ownKnob Tryz.prog.godebug = none := by kernel_rfl
theorem JwI : laidOutB Tryz.prog = true := by kernel_rfl
set_option maxRecDepth 100000 in
theorem Jz5 (os : Os) (started : os.Started) (H : Type) (enc : TypeId × Value → H) :
    ReturnsInHanded {} Tryz.checked os 3 .any (Rows.waveletTurnedSpec.pre6 enc Tryz.prog Tryz.f3 Rows.waveletTurnedRow.domain false) (Rows.waveletTurnedSpec.post enc Tryz.prog Tryz.f3 false true false false) := by
  refine returnsInHanded_of_change (C := Tryz.checked) JRw started (by kernel_rfl) fo3
    (ChangeSpec.witness6 (enc := enc) (C := Tryz.checked) false ⟨#[], #[.slice none 0 0, .agg #[.int .i64 0, .int .i64 0, .int .i64 0, .slice none 0 0], .int .i64 0, .int .i64 0, .agg (#[.slice none 0 0] ++ Array.replicate 32 (.int .u8 0) ++ #[.int .i64 0, .slice none 0 0] ++ Array.replicate 64 (.int .u8 0))], []⟩ 8 (by kernel_rfl) (by kernel_rfl) (by kernel_rfl) (by kernel_rfl)) ?_
  intro W base args ds gs before hval0 hW hcnd _
  have hW' := hW
  obtain ⟨p, q, hA0, hV, rfl, hfz, hnd⟩ := hW
  have hpar : Tryz.f3.params.toList = [22, 25, 3, 3, 34] := by kernel_rfl
  have hval : ∀ (j : Nat) t v, ([22, 25, 3, 3, 34] : List TypeId)[j]? = some t → args[j]? = some v → Value.okWide Tryz.prog W .any base t v := by
    intro j t v a b
    exact hval0 j t v (by rw [← Array.getElem?_toList, hpar]; exact a) b
  have hA : DataW.TrodAll enc Tryz.prog W 0 (fun _ => true) true [22, 25, 3, 3, 34] args.toList ds p := by rw [← hpar]; exact hA0
  have hA2 := hA
  obtain ⟨v0, vs0, d0, ds0, p0, q0, e0, rfl, rfl, h0, r0⟩ := trodAll_cons hA2
  obtain ⟨v1, vs1, d1, ds1, p1, q1, e1, rfl, rfl, h1, r1⟩ := trodAll_cons r0
  obtain ⟨v2, vs2, d2, ds2, p2, q2, e2, rfl, rfl, h2, r2⟩ := trodAll_cons r1
  obtain ⟨v3, vs3, d3, ds3, p3, q3, e3, rfl, rfl, h3, r3⟩ := trodAll_cons r2
  obtain ⟨v4, vs4, d4, ds4, p4, q4, e4, rfl, rfl, h4, r4⟩ := trodAll_cons r3
  obtain ⟨_, rfl, rfl⟩ := trodAll_nil r4
  obtain ⟨rfl, rfl⟩ := trodVars_none hV
  refine (Jsn Jn rfl JRv (m := 6) (ts := [22, 25, 3, 3, 34]) JrS (fun t ht => List.all_eq_true.1 (by kernel_rfl : ([22, 25, 3, 3, 34] : List TypeId).all (YV tau 6) = true) t ht) hval hA).mono fun e W' ⟨he, bel⟩ => ?_
  subst he
  obtain ⟨p', hp'⟩ := Gz JwI bel [22, 25, 3, 3, 34] _ _ _ (fun t ht => by
    have := List.all_eq_true.1 (by kernel_rfl : ([22, 25, 3, 3, 34] : List TypeId).all (fun t => Tryz.prog.readableRec t && decide (t < Tryz.prog.types.size)) = true) t ht
    simpa using this) hA
  exact ⟨_, rfl, _, _, _, [], _, [], hW', trodAll_mk1 (shut_bool (by kernel_rfl : Tryz.prog.underlying 4 = some .bool) _), by rw [hpar]; exact hp', rfl, bel.frame _, fun h => by cases h⟩
theorem JN3 : Rows.waveletTurnedRow.holds Tryz.pinned (OpenSpec.ofChange Rows.waveletTurnedSpec) :=
  OpenClaim.holds_of_wide 3 Tryz.f3 rfl rfl rfl rfl rfl rfl rfl ⟨rfl, rfl, rfl, rfl, rfl⟩ rfl rfl rfl rfl rfl (by kernel_rfl) fo3 (by kernel_rfl)
    (of_decide_eq_true (by kernel_rfl)) (by unfold Func.isWrapper; first | (rw [if_pos (by decide +kernel)]; kernel_rfl) | (rw [if_neg (by decide +kernel)]; exact ⟨rfl, rfl⟩))
    (fun os started H enc _ => Jz5 os started H enc)
theorem waveletTurned_proved : Rows.WaveletTurnedSaid := JN3
#print axioms waveletTurned_proved
end Go.Proofs.YthpmachmnoljeaaGreat

