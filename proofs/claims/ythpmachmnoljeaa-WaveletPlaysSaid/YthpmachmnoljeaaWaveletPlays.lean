/- Whatever is done, by whomever, a state is, and each call answers, what the document says; what was handed in stays.
  Conditions: none beyond the statement's own. Own work. -/
import Derived.Test.YthpmachmnoljeaaWaveletPlaysP6
import Derived.Test.YthpmachmnoljeaaRows
namespace Go.Proofs.Ythpmachmnoljeaa
open Go.ChangeShapes Go.WideShapes Go.ChangeAt Go.RowKit Rx
set_option linter.unusedVariables false
theorem JO3 : ownKnob Try.prog.godebug = none := by kernel_rfl
theorem Ju0 : laidOutB Try.prog = true := by kernel_rfl
set_option maxRecDepth 100000 in
theorem Jx0 (os : Os) (started : os.Started) (H : Type) (enc : TypeId × Value → H) :
    ReturnsInHanded {} Try.checked os 7 .any (Rows.waveletPlaysSpec.pre6 enc Try.prog Try.f7 Rows.waveletPlaysRow.domain false) (Rows.waveletPlaysSpec.post enc Try.prog Try.f7 false true false false) := by
  refine returnsInHanded_of_change (C := Try.checked) JO3 started (by kernel_rfl) fo7
    (ChangeSpec.witness6 (enc := enc) (C := Try.checked) false ⟨#[], #[.slice none 0 0, .agg #[.int .i64 0, .int .i64 0], .agg #[.int .i64 0, .int .i64 0]], []⟩ 8 (by kernel_rfl) (by kernel_rfl) (by kernel_rfl) (by kernel_rfl)) ?_
  intro W base args ds gs before hval0 hW hcnd _
  have hW' := hW
  obtain ⟨p, q, hA0, hV, rfl, hfz, hnd⟩ := hW
  have hpar : Try.f7.params.toList = [22, 34, 42] := by kernel_rfl
  have hval : ∀ (j : Nat) t v, ([22, 34, 42] : List TypeId)[j]? = some t → args[j]? = some v → Value.okWide Try.prog W .any base t v := by
    intro j t v a b
    exact hval0 j t v (by rw [← Array.getElem?_toList, hpar]; exact a) b
  have hA : DataW.TrodAll enc Try.prog W 0 (fun _ => true) true [22, 34, 42] args.toList ds p := by rw [← hpar]; exact hA0
  have hA2 := hA
  obtain ⟨v0, vs0, d0, ds0, p0, q0, e0, rfl, rfl, h0, r0⟩ := trodAll_cons hA2
  obtain ⟨v1, vs1, d1, ds1, p1, q1, e1, rfl, rfl, h1, r1⟩ := trodAll_cons r0
  obtain ⟨v2, vs2, d2, ds2, p2, q2, e2, rfl, rfl, h2, r2⟩ := trodAll_cons r1
  obtain ⟨_, rfl, rfl⟩ := trodAll_nil r2
  obtain ⟨rfl, rfl⟩ := trodVars_none hV
  refine (Jrd Jn rfl JO2 (m := 6) (ts := [22, 34, 42]) JqI (fun t ht => List.all_eq_true.1 (by kernel_rfl : ([22, 34, 42] : List TypeId).all (YO tau 6) = true) t ht) hval hA).mono fun e W' ⟨he, bel⟩ => ?_
  subst he
  obtain ⟨p', hp'⟩ := Ge Ju0 bel [22, 34, 42] _ _ _ (fun t ht => by
    have := List.all_eq_true.1 (by kernel_rfl : ([22, 34, 42] : List TypeId).all (fun t => Try.prog.readableRec t && decide (t < Try.prog.types.size)) = true) t ht
    simpa using this) hA
  exact ⟨_, rfl, _, _, _, [], _, [], hW', trodAll_mk1 (shut_bool (by kernel_rfl : Try.prog.underlying 4 = some .bool) _), by rw [hpar]; exact hp', rfl, bel.frame _, fun h => by cases h⟩
theorem JLv : Rows.waveletPlaysRow.holds Try.pinned (OpenSpec.ofChange Rows.waveletPlaysSpec) :=
  OpenClaim.holds_of_wide 7 Try.f7 rfl rfl rfl rfl rfl rfl rfl ⟨rfl, rfl, rfl, rfl, rfl⟩ rfl rfl rfl rfl rfl (by kernel_rfl) fo7 (by kernel_rfl)
    (of_decide_eq_true (by kernel_rfl)) (by unfold Func.isWrapper; first | (rw [if_pos (by decide +kernel)]; kernel_rfl) | (rw [if_neg (by decide +kernel)]; exact ⟨rfl, rfl⟩))
    (fun os started H enc _ => Jx0 os started H enc)
theorem waveletPlays_proved : Rows.WaveletPlaysSaid := JLv
#print axioms waveletPlays_proved
end Go.Proofs.Ythpmachmnoljeaa

