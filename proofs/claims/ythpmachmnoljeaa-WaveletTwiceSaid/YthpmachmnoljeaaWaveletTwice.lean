/- An entry that was done is of another version then; one that is to come, too.
  Conditions: none beyond the statement's own. Own work. -/
import Derived.Test.YthpmachmnoljeaaWaveletTwiceP5
import Derived.Test.YthpmachmnoljeaaRows
namespace Go.Proofs.Ythpmachmnoljeaa
open Go.ChangeShapes Go.WideShapes Go.ChangeAt Go.RowKit Rx
set_option linter.unusedVariables false
theorem JPw : ownKnob Try.prog.godebug = none := by kernel_rfl
theorem Jvz : laidOutB Try.prog = true := by kernel_rfl
set_option maxRecDepth 100000 in
theorem JyB (os : Os) (started : os.Started) (H : Type) (enc : TypeId × Value → H) :
    ReturnsInHanded {} Try.checked os 5 .any (Rows.waveletTwiceSpec.pre6 enc Try.prog Try.f5 Rows.waveletTwiceRow.domain false) (Rows.waveletTwiceSpec.post enc Try.prog Try.f5 false true false false) := by
  refine returnsInHanded_of_change (C := Try.checked) JPw started (by kernel_rfl) fo5
    (ChangeSpec.witness6 (enc := enc) (C := Try.checked) false ⟨#[], #[.slice none 0 0, .int .i64 0], []⟩ 8 (by kernel_rfl) (by kernel_rfl) (by kernel_rfl) (by kernel_rfl)) ?_
  intro W base args ds gs before hval0 hW hcnd _
  have hW' := hW
  obtain ⟨p, q, hA0, hV, rfl, hfz, hnd⟩ := hW
  have hpar : Try.f5.params.toList = [22, 3] := by kernel_rfl
  have hval : ∀ (j : Nat) t v, ([22, 3] : List TypeId)[j]? = some t → args[j]? = some v → Value.okWide Try.prog W .any base t v := by
    intro j t v a b
    exact hval0 j t v (by rw [← Array.getElem?_toList, hpar]; exact a) b
  have hA : DataW.TrodAll enc Try.prog W 0 (fun _ => true) true [22, 3] args.toList ds p := by rw [← hpar]; exact hA0
  have hA2 := hA
  obtain ⟨v0, vs0, d0, ds0, p0, q0, e0, rfl, rfl, h0, r0⟩ := trodAll_cons hA2
  obtain ⟨v1, vs1, d1, ds1, p1, q1, e1, rfl, rfl, h1, r1⟩ := trodAll_cons r0
  obtain ⟨_, rfl, rfl⟩ := trodAll_nil r1
  obtain ⟨rfl, rfl⟩ := trodVars_none hV
  refine (Jrn Jn rfl JPv (m := 6) (ts := [22, 3]) JqS (fun t ht => List.all_eq_true.1 (by kernel_rfl : ([22, 3] : List TypeId).all (YR tau 6) = true) t ht) hval hA).mono fun e W' ⟨he, bel⟩ => ?_
  subst he
  obtain ⟨p', hp'⟩ := Gi Jvz bel [22, 3] _ _ _ (fun t ht => by
    have := List.all_eq_true.1 (by kernel_rfl : ([22, 3] : List TypeId).all (fun t => Try.prog.readableRec t && decide (t < Try.prog.types.size)) = true) t ht
    simpa using this) hA
  exact ⟨_, rfl, _, _, _, [], _, [], hW', trodAll_mk1 (shut_bool (by kernel_rfl : Try.prog.underlying 4 = some .bool) _), by rw [hpar]; exact hp', rfl, bel.frame _, fun h => by cases h⟩
theorem JLY : Rows.waveletTwiceRow.holds Try.pinned (OpenSpec.ofChange Rows.waveletTwiceSpec) :=
  OpenClaim.holds_of_wide 5 Try.f5 rfl rfl rfl rfl rfl rfl rfl ⟨rfl, rfl, rfl, rfl, rfl⟩ rfl rfl rfl rfl rfl (by kernel_rfl) fo5 (by kernel_rfl)
    (of_decide_eq_true (by kernel_rfl)) (by unfold Func.isWrapper; first | (rw [if_pos (by decide +kernel)]; kernel_rfl) | (rw [if_neg (by decide +kernel)]; exact ⟨rfl, rfl⟩))
    (fun os started H enc _ => JyB os started H enc)
theorem waveletTwice_proved : Rows.WaveletTwiceSaid := JLY
#print axioms waveletTwice_proved
end Go.Proofs.Ythpmachmnoljeaa

