/- SignDeltas: any valid delta is signed as the document says, and opened; with a byte turned, or by other keys, it is opened, or refused, as it says.
  Conditions: none beyond the statement's own. Own work. -/
import Derived.Test.YtcklhipdldpkhaaSignDeltasP5
import Derived.Test.YtcklhipdldpkhaaRows
namespace Go.Proofs.Ytcklhipdldpkhaa
open Go.ChangeShapes Go.WideShapes Go.ChangeAt Go.RowKit Rx
set_option linter.unusedVariables false
theorem JDC : ownKnob Try.prog.godebug = none := by kernel_rfl
theorem JlF : laidOutB Try.prog = true := by kernel_rfl
set_option maxRecDepth 100000 in
theorem JoC (os : Os) (started : os.Started) (H : Type) (enc : TypeId × Value → H) :
    ReturnsInHanded {} Try.checked os 13 .any (Rows.signDeltasSpec.pre6 enc Try.prog Try.f13 Rows.signDeltasRow.domain false) (Rows.signDeltasSpec.post enc Try.prog Try.f13 false true false false) := by
  refine returnsInHanded_of_change (C := Try.checked) JDC started (by kernel_rfl) Jxk
    (ChangeSpec.witness6 (enc := enc) (C := Try.checked) false ⟨#[], #[.slice none 0 0, .agg (#[.int .i64 0, .int .i64 0, .int .i64 0, .int .i64 0] ++ Array.replicate 32 (.int .u8 0) ++ #[.int .i64 0, .slice none 0 0, .int .i64 0, .int .i64 0]), .int .i64 0, .slice none 0 0, .int .i64 0, .int .u8 0, .slice none 0 0], []⟩ 8 (by kernel_rfl) (by kernel_rfl) (by kernel_rfl) (by kernel_rfl)) ?_
  intro W base args ds gs before hval0 hW hcnd _
  have hW' := hW
  obtain ⟨p, q, hA0, hV, rfl, hfz, hnd⟩ := hW
  have hpar : Try.f13.params.toList = [29, 73, 3, 55, 3, 5, 29] := by kernel_rfl
  have hval : ∀ (j : Nat) t v, ([29, 73, 3, 55, 3, 5, 29] : List TypeId)[j]? = some t → args[j]? = some v → Value.okWide Try.prog W .any base t v := by
    intro j t v a b
    exact hval0 j t v (by rw [← Array.getElem?_toList, hpar]; exact a) b
  have hA : DataW.TrodAll enc Try.prog W 0 (fun _ => true) true [29, 73, 3, 55, 3, 5, 29] args.toList ds p := by rw [← hpar]; exact hA0
  have hA2 := hA
  obtain ⟨v0, vs0, d0, ds0, p0, q0, e0, rfl, rfl, h0, r0⟩ := trodAll_cons hA2
  obtain ⟨v1, vs1, d1, ds1, p1, q1, e1, rfl, rfl, h1, r1⟩ := trodAll_cons r0
  obtain ⟨v2, vs2, d2, ds2, p2, q2, e2, rfl, rfl, h2, r2⟩ := trodAll_cons r1
  obtain ⟨v3, vs3, d3, ds3, p3, q3, e3, rfl, rfl, h3, r3⟩ := trodAll_cons r2
  obtain ⟨v4, vs4, d4, ds4, p4, q4, e4, rfl, rfl, h4, r4⟩ := trodAll_cons r3
  obtain ⟨v5, vs5, d5, ds5, p5, q5, e5, rfl, rfl, h5, r5⟩ := trodAll_cons r4
  obtain ⟨v6, vs6, d6, ds6, p6, q6, e6, rfl, rfl, h6, r6⟩ := trodAll_cons r5
  obtain ⟨_, rfl, rfl⟩ := trodAll_nil r6
  obtain ⟨rfl, rfl⟩ := trodVars_none hV
  refine (Jl8 Jq rfl JDB (m := 4) (ts := [29, 73, 3, 55, 3, 5, 29]) Jje (fun t ht => List.all_eq_true.1 (by kernel_rfl : ([29, 73, 3, 55, 3, 5, 29] : List TypeId).all (X0 tau 4) = true) t ht) hval hA).mono fun e W' ⟨he, bel⟩ => ?_
  subst he
  obtain ⟨p', hp'⟩ := Vq JlF bel [29, 73, 3, 55, 3, 5, 29] _ _ _ (fun t ht => by
    have := List.all_eq_true.1 (by kernel_rfl : ([29, 73, 3, 55, 3, 5, 29] : List TypeId).all (fun t => Try.prog.readableRec t && decide (t < Try.prog.types.size)) = true) t ht
    simpa using this) hA
  exact ⟨_, rfl, _, _, _, [], _, [], hW', trodAll_mk1 (shut_bool (by kernel_rfl : Try.prog.underlying 4 = some .bool) _), by rw [hpar]; exact hp', rfl, bel.frame _, fun h => by cases h⟩
theorem Jxm : Rows.signDeltasRow.holds Try.pinned (OpenSpec.ofChange Rows.signDeltasSpec) :=
  OpenClaim.holds_of_wide 13 Try.f13 rfl rfl rfl rfl rfl rfl rfl ⟨rfl, rfl, rfl, rfl, rfl⟩ rfl rfl rfl rfl rfl (by kernel_rfl) Jxk (by kernel_rfl)
    (of_decide_eq_true (by kernel_rfl)) (by unfold Func.isWrapper; first | (rw [if_pos (by decide +kernel)]; kernel_rfl) | (rw [if_neg (by decide +kernel)]; exact ⟨rfl, rfl⟩))
    (fun os started H enc _ => JoC os started H enc)
theorem signDeltas_proved : Rows.SignDeltasSaid := Jxm
#print axioms signDeltas_proved
end Go.Proofs.Ytcklhipdldpkhaa

