/- A message that is signed by another domain s key, or by other keys, is none, unless the document says that it is one.
  Conditions: none beyond the statement's own. Own work. -/
import Derived.Test.YtcklhipdldpkhaaWireKeysP5
import Derived.Test.YtcklhipdldpkhaaRows
import Derived.SizedLaws
namespace Go.Proofs.Ytcklhipdldpkhaa
open Go.ChangeShapes Go.WideShapes Go.ChangeAt Go.RowKit Rx
set_option linter.unusedVariables false
theorem own9 : ownKnob Try.prog.godebug = none := by kernel_rfl
theorem laidOut9 : laidOutB Try.prog = true := by kernel_rfl
set_option maxRecDepth 100000 in
theorem lifted9 (os : Os) (started : os.Started) (H : Type) (enc : TypeId × Value → H) :
    ReturnsInHanded {} Try.checked os 9 .any (Rows.wireKeysSpec.pre6 enc Try.prog Try.f9 Rows.wireKeysRow.domain false) (Rows.wireKeysSpec.post enc Try.prog Try.f9 false true false false) := by
  refine returnsInHanded_of_change_sized (C := Try.checked) own9 started (by kernel_rfl) fo9
    (ChangeSpec.witness6 (enc := enc) (C := Try.checked) false ⟨#[], #[.agg #[.int .i64 0, .int .i64 0, .int .i64 0, .int .i64 0, .int .i64 0, .int .i64 0, .int .i64 0, .int .i64 0, .int .i64 0, .int .i64 0, .int .i64 0, .int .i64 0, .int .i64 0, .slice none 0 0], .slice none 0 0], []⟩ 8 (by kernel_rfl) (by kernel_rfl) (by kernel_rfl) (by kernel_rfl)) ?_
  intro W base args ds gs before hval0 hW hcnd hwt _
  have hW' := hW
  obtain ⟨p, q, hA0, hV, rfl, hfz, hnd⟩ := hW
  have hpar : Try.f9.params.toList = [54, 29] := by kernel_rfl
  have hval : ∀ (j : Nat) t v, ([54, 29] : List TypeId)[j]? = some t → args[j]? = some v → Value.okWide Try.prog W .any base t v := by
    intro j t v a b
    exact hval0 j t v (by rw [← Array.getElem?_toList, hpar]; exact a) b
  have hA : DataW.TrodAll enc Try.prog W 0 (fun _ => true) true [54, 29] args.toList ds p := by rw [← hpar]; exact hA0
  have hA2 := hA
  obtain ⟨v0, vs0, d0, ds0, p0, q0, e0, rfl, rfl, h0, r0⟩ := trodAll_cons hA2
  obtain ⟨v1, vs1, d1, ds1, p1, q1, e1, rfl, rfl, h1, r1⟩ := trodAll_cons r0
  obtain ⟨_, rfl, rfl⟩ := trodAll_nil r1
  obtain ⟨rfl, rfl⟩ := trodVars_none hV
  refine (law_walk_len tabOk rfl ok9' (m := 4) (ts := [54, 29]) (fun pvs hty hlen => run9_true pvs hty fun e nl fl els hp => by
    obtain ⟨bb, cc, hb⟩ := hlen 1 e nl fl els hp
    rw [e0, e1] at hb
    have hv : v1 = .slice bb els.length cc := Option.some.inj hb
    obtain ⟨fu, hf⟩ := h1
    rcases DataW.trod_slice (by kernel_rfl : Try.prog.underlying 29 = some (.slice 5)) hf with ⟨hc, _⟩ | ⟨a, len, cap, elems, rest, n, _, hc, hx, _, _, _, hle, _⟩
    · rw [hv] at hc
      simp only [Value.cells, List.cons.injEq, Value.slice.injEq] at hc
      omega
    · rw [hv] at hc
      simp only [Value.cells, List.cons.injEq, Value.slice.injEq] at hc
      have hd : d1 = .slice (elems.map (·.1)) (rest.map (·.1)) := (Prod.mk.inj hx).1
      rw [hpar, hd] at hwt
      have hby : Try.prog.bytesOf 5 = 1 := by kernel_rfl
      have hun : Try.prog.underlying 29 = some (.slice 5) := by kernel_rfl
      have hmem := List.all_eq_true.1 hwt ((((elems.map (·.1)).length + (rest.map (·.1)).length) * Try.prog.bytesOf 5)) (by
        simp only [List.cons_append, List.nil_append, DataW.weightsEach, List.mem_append]
        right
        left
        simp only [DataW.weights, hun]
        exact List.mem_cons_self)
      rw [hby, decide_eq_true_eq, List.length_map, hle] at hmem
      simp only [reachBytes] at hmem
      omega) (fun t ht => List.all_eq_true.1 (by kernel_rfl : ([54, 29] : List TypeId).all (opens tau 4) = true) t ht) hval hA).mono fun e W' ⟨he, bel⟩ => ?_
  subst he
  obtain ⟨p', hp'⟩ := trodAll_below laidOut9 bel [54, 29] _ _ _ (fun t ht => by
    have := List.all_eq_true.1 (by kernel_rfl : ([54, 29] : List TypeId).all (fun t => Try.prog.readableRec t && decide (t < Try.prog.types.size)) = true) t ht
    simpa using this) hA
  exact ⟨_, rfl, _, _, _, [], _, [], hW', trodAll_mk1 (shut_bool (by kernel_rfl : Try.prog.underlying 4 = some .bool) _), by rw [hpar]; exact hp', rfl, bel.frame _, fun h => by cases h⟩
theorem over9 : Rows.wireKeysRow.holds Try.pinned (OpenSpec.ofChange Rows.wireKeysSpec) :=
  OpenClaim.holds_of_wide 9 Try.f9 rfl rfl rfl rfl rfl rfl rfl ⟨rfl, rfl, rfl, rfl, rfl⟩ rfl rfl rfl rfl rfl (by kernel_rfl) fo9 (by kernel_rfl)
    (of_decide_eq_true (by kernel_rfl)) (by unfold Func.isWrapper; first | (rw [if_pos (by decide +kernel)]; kernel_rfl) | (rw [if_neg (by decide +kernel)]; exact ⟨rfl, rfl⟩))
    (fun os started H enc _ => lifted9 os started H enc)
theorem wireKeys_proved : Rows.WireKeysSaid := over9
#print axioms wireKeys_proved
end Go.Proofs.Ytcklhipdldpkhaa


