/- Who removes all leaves a document that nobody may change any more.
  Conditions: none beyond the statement's own. Own work. -/
import Derived.Test.YthpmachmnoljeaaWaveletLastP5
import Derived.Test.YthpmachmnoljeaaRows
namespace Go.Proofs.Ythpmachmnoljeaa
open Go.ChangeShapes Go.WideShapes Go.ChangeAt Go.RowKit Rx
set_option linter.unusedVariables false
theorem JDa : ownKnob Try.prog.godebug = none := by kernel_rfl
theorem Jno : laidOutB Try.prog = true := by kernel_rfl
set_option maxRecDepth 100000 in
theorem Jqb (os : Os) (started : os.Started) (H : Type) (enc : TypeId × Value → H) :
    ReturnsInHanded {} Try.checked os 6 .any (Rows.waveletLastSpec.pre6 enc Try.prog Try.f6 Rows.waveletLastRow.domain false) (Rows.waveletLastSpec.post enc Try.prog Try.f6 false true false false) := by
  refine returnsInHanded_of_change (C := Try.checked) JDa started (by kernel_rfl) fo6
    (ChangeSpec.witness6 (enc := enc) (C := Try.checked) false ⟨#[], #[.int .i64 0], []⟩ 8 (by kernel_rfl) (by kernel_rfl) (by kernel_rfl) (by kernel_rfl)) ?_
  intro W base args ds gs before hval0 hW hcnd _
  have hW' := hW
  obtain ⟨p, q, hA0, hV, rfl, hfz, hnd⟩ := hW
  have hpar : Try.f6.params.toList = [3] := by kernel_rfl
  have hval : ∀ (j : Nat) t v, ([3] : List TypeId)[j]? = some t → args[j]? = some v → Value.okWide Try.prog W .any base t v := by
    intro j t v a b
    exact hval0 j t v (by rw [← Array.getElem?_toList, hpar]; exact a) b
  have hA : DataW.TrodAll enc Try.prog W 0 (fun _ => true) true [3] args.toList ds p := by rw [← hpar]; exact hA0
  have hA2 := hA
  obtain ⟨v0, vs0, d0, ds0, p0, q0, e0, rfl, rfl, h0, r0⟩ := trodAll_cons hA2
  obtain ⟨_, rfl, rfl⟩ := trodAll_nil r0
  obtain ⟨rfl, rfl⟩ := trodVars_none hV
  refine (Jk0 Jq rfl JC9 (m := 4) (ts := [3]) Jkv (fun t ht => List.all_eq_true.1 (by kernel_rfl : ([3] : List TypeId).all (XL tau 4) = true) t ht) hval hA).mono fun e W' ⟨he, bel⟩ => ?_
  subst he
  obtain ⟨p', hp'⟩ := Z6 Jno bel [3] _ _ _ (fun t ht => by
    have := List.all_eq_true.1 (by kernel_rfl : ([3] : List TypeId).all (fun t => Try.prog.readableRec t && decide (t < Try.prog.types.size)) = true) t ht
    simpa using this) hA
  exact ⟨_, rfl, _, _, _, [], _, [], hW', trodAll_mk1 (shut_bool (by kernel_rfl : Try.prog.underlying 4 = some .bool) _), by rw [hpar]; exact hp', rfl, bel.frame _, fun h => by cases h⟩
theorem JAk : Rows.waveletLastRow.holds Try.pinned (OpenSpec.ofChange Rows.waveletLastSpec) :=
  OpenClaim.holds_of_wide 6 Try.f6 rfl rfl rfl rfl rfl rfl rfl ⟨rfl, rfl, rfl, rfl, rfl⟩ rfl rfl rfl rfl rfl (by kernel_rfl) fo6 (by kernel_rfl)
    (of_decide_eq_true (by kernel_rfl)) (by unfold Func.isWrapper; first | (rw [if_pos (by decide +kernel)]; kernel_rfl) | (rw [if_neg (by decide +kernel)]; exact ⟨rfl, rfl⟩))
    (fun os started H enc _ => Jqb os started H enc)
theorem waveletLast_proved : Rows.WaveletLastSaid := JAk
#print axioms waveletLast_proved
end Go.Proofs.Ythpmachmnoljeaa

