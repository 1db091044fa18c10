/- Each version's hash is over the one ahead and the entry; the texts' lengths and people stay within their bounds.
  Conditions: none beyond the statement's own. Own work. -/
import Derived.Test.YthpmachmnoljeaaWaveletChainP5
import Derived.Test.YthpmachmnoljeaaRows
namespace Go.Proofs.Ythpmachmnoljeaa
open Go.ChangeShapes Go.WideShapes Go.ChangeAt Go.RowKit Rx
set_option linter.unusedVariables false
theorem JOF : ownKnob Try.prog.godebug = none := by kernel_rfl
theorem Ju3 : laidOutB Try.prog = true := by kernel_rfl
set_option maxRecDepth 100000 in
theorem Jx2 (os : Os) (started : os.Started) (H : Type) (enc : TypeId × Value → H) :
    ReturnsInHanded {} Try.checked os 3 .any (Rows.waveletChainSpec.pre6 enc Try.prog Try.f3 Rows.waveletChainRow.domain false) (Rows.waveletChainSpec.post enc Try.prog Try.f3 false true false false) := by
  refine returnsInHanded_of_change (C := Try.checked) JOF started (by kernel_rfl) fo3
    (ChangeSpec.witness6 (enc := enc) (C := Try.checked) false ⟨#[], #[.slice none 0 0], []⟩ 8 (by kernel_rfl) (by kernel_rfl) (by kernel_rfl) (by kernel_rfl)) ?_
  intro W base args ds gs before hval0 hW hcnd _
  have hW' := hW
  obtain ⟨p, q, hA0, hV, rfl, hfz, hnd⟩ := hW
  have hpar : Try.f3.params.toList = [22] := by kernel_rfl
  have hval : ∀ (j : Nat) t v, ([22] : List TypeId)[j]? = some t → args[j]? = some v → Value.okWide Try.prog W .any base t v := by
    intro j t v a b
    exact hval0 j t v (by rw [← Array.getElem?_toList, hpar]; exact a) b
  have hA : DataW.TrodAll enc Try.prog W 0 (fun _ => true) true [22] args.toList ds p := by rw [← hpar]; exact hA0
  have hA2 := hA
  obtain ⟨v0, vs0, d0, ds0, p0, q0, e0, rfl, rfl, h0, r0⟩ := trodAll_cons hA2
  obtain ⟨_, rfl, rfl⟩ := trodAll_nil r0
  obtain ⟨rfl, rfl⟩ := trodVars_none hV
  refine (Jq5 Jn rfl JOE (m := 6) (ts := [22]) JqA (fun t ht => List.all_eq_true.1 (by kernel_rfl : ([22] : List TypeId).all (YP tau 6) = true) t ht) hval hA).mono fun e W' ⟨he, bel⟩ => ?_
  subst he
  obtain ⟨p', hp'⟩ := Gf Ju3 bel [22] _ _ _ (fun t ht => by
    have := List.all_eq_true.1 (by kernel_rfl : ([22] : List TypeId).all (fun t => Try.prog.readableRec t && decide (t < Try.prog.types.size)) = true) t ht
    simpa using this) hA
  exact ⟨_, rfl, _, _, _, [], _, [], hW', trodAll_mk1 (shut_bool (by kernel_rfl : Try.prog.underlying 4 = some .bool) _), by rw [hpar]; exact hp', rfl, bel.frame _, fun h => by cases h⟩
theorem JLi : Rows.waveletChainRow.holds Try.pinned (OpenSpec.ofChange Rows.waveletChainSpec) :=
  OpenClaim.holds_of_wide 3 Try.f3 rfl rfl rfl rfl rfl rfl rfl ⟨rfl, rfl, rfl, rfl, rfl⟩ rfl rfl rfl rfl rfl (by kernel_rfl) fo3 (by kernel_rfl)
    (of_decide_eq_true (by kernel_rfl)) (by unfold Func.isWrapper; first | (rw [if_pos (by decide +kernel)]; kernel_rfl) | (rw [if_neg (by decide +kernel)]; exact ⟨rfl, rfl⟩))
    (fun os started H enc _ => Jx2 os started H enc)
theorem waveletChain_proved : Rows.WaveletChainSaid := JLi
#print axioms waveletChain_proved
end Go.Proofs.Ythpmachmnoljeaa

