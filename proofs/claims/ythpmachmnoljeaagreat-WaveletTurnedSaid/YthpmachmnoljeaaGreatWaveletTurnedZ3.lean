/- An evaluator of the model's code over plain values, and the proof that it is sound. Conditions: none. -/
import Derived.Shelf.Abstract
import Derived.Tactics
import Derived.Orders
import Derived.LoopN
import Derived.Scope
import Derived.Test.YthpmachmnoljeaaGreatWaveletTurnedZ2
noncomputable section
namespace Go.Proofs.YthpmachmnoljeaaGreat.Rx
open Go
set_option linter.unusedVariables false
set_option maxHeartbeats 1000000

theorem Jhu {α : Type} {a : Array α} {x : α} (h : a.toList = [x]) : a = #[x] := by apply Array.ext'; simpa using h
theorem Jhv {α : Type} {a : Array α} {x y : α} (h : a.toList = [x, y]) : a = #[x, y] := by apply Array.ext'; simpa using h
section
variable {τ : Tab} {P : Program} (ok : TabOk τ P) {h : Ents} {o : Oper} {rd : Operand -> PV} {v : PV} {U : Upd} {c : Bool}
include ok
theorem Jz7 {nid : Nat} {b : Builtin} {ts : Array TypeId} {xs : List PV} (hh : XO τ nid h b ts.toList xs = some (c, v, U)) (hc : c = true) (hfr : h nid = none) : YT τ P b ts xs h v U := by
 subst hc
 generalize htl : ts.toList = tl at hh
 unfold XO at hh
 split at hh
 · rename_i t x
   cases hl : JwK τ t x with
   | none => simp [hl] at hh
   | some r =>
     obtain ⟨c, n⟩ := r
     simp only [hl, Option.map_some, Option.some.injEq, Prod.mk.injEq] at hh
     obtain ⟨rfl, rfl, rfl⟩ := hh
     exact JCT ok (Jhu htl) hl
 · exact Jro ok (Jhv htl) hh hfr
 · rename_i t t2 d x
   split at hh
   · rename_i e e' id p off len cap hu
     cases he : e' == e with
     | false => simp [he] at hh
     | true =>
      obtain rfl : e' = e := by simpa using he
      simp only [he, cond_true] at hh
      split at hh
      · rename_i ent c src h1 h2
        split at hh
        · rename_i l h3
          cases hf : ent.free with
          | false => simp [hf] at hh
          | true =>
           simp only [hf, cond_true, Option.some.injEq, Prod.mk.injEq] at hh
           obtain ⟨rfl, rfl, rfl⟩ := hh
           exact JwO ok (Jhv htl) hu h1 h3 hf h2
        · cases hh
      · cases hh
   · cases hh
 · rename_i t d
   split at hh
   · rename_i e e' id p off len cap hu
     cases he : e' == e with
     | false => simp [he] at hh
     | true =>
      obtain rfl : e' = e := by simpa using he
      simp only [he, cond_true] at hh
      split at hh
      · rename_i ent z h1 h2
        split at hh
        · rename_i l h3
          cases hf : ent.free with
          | false => simp [hf] at hh
          | true =>
           simp only [hf, cond_true, Option.some.injEq, Prod.mk.injEq, true_and] at hh
           obtain ⟨rfl, rfl⟩ := hh
           exact Jr9 ok (Jhu htl) hu h1 h3 hf h2
        · cases hh
      · cases hh
   · cases hh
 · rename_i t d
   split at hh
   · rename_i e e' id p off len n hu
     cases he : e' == e with
     | false => simp [he] at hh
     | true =>
      simp only [he, cond_true, Option.some.injEq, Prod.mk.injEq, true_and] at hh
      obtain ⟨rfl, rfl⟩ := hh
      obtain rfl : e' = e := by simpa using he
      exact Jrm ok (Jhu htl) hu
   · rename_i e e' nl fl l hu
     cases he : (e' == e && (nl || fl)) with
     | false => simp [he] at hh
     | true =>
      simp only [he, cond_true, Option.some.injEq, Prod.mk.injEq, true_and] at hh
      obtain ⟨rfl, rfl⟩ := hh
      simp only [Bool.and_eq_true, beq_iff_eq] at he
      obtain ⟨rfl, he2⟩ := he
      exact Jrn ok (Jhu htl) hu he2
   · cases hh
 · rename_i k x k' y
   by_cases hk : k = k'
   · subst hk
     simp only [decide_true, cond_true, Option.some.injEq, Prod.mk.injEq, true_and] at hh
     obtain ⟨rfl, rfl⟩ := hh
     exact JCU ok (Jhv htl)
   · simp [hk] at hh
 · rename_i k x k' y
   by_cases hk : k = k'
   · subst hk
     simp only [decide_true, cond_true, Option.some.injEq, Prod.mk.injEq, true_and] at hh
     obtain ⟨rfl, rfl⟩ := hh
     exact JCV ok (Jhv htl)
   · simp [hk] at hh
 · rename_i k x k' y
   by_cases hk : k = k'
   · subst hk
     simp only [decide_true, cond_true, Option.some.injEq, Prod.mk.injEq, true_and] at hh
     obtain ⟨rfl, rfl⟩ := hh
     exact JlP ok
   · simp [hk] at hh
 · simp only [Option.some.injEq, Prod.mk.injEq, true_and] at hh
   obtain ⟨rfl, rfl⟩ := hh
   exact JwM ok
 · simp only [Option.some.injEq, Prod.mk.injEq, true_and] at hh
   obtain ⟨rfl, rfl⟩ := hh
   exact JwN ok
 · cases hh
theorem Jcz {im : Im} {ow : Own} (ts : List TypeId) (f : Operand -> Value) : ∀ (l : List Operand) (k : Nat), (∀ x ∈ l, Jg τ im ow (rd x) (f x)) ->
  JF τ im ow ((l.zipIdx k).map fun (x, i) => match ts[i]? with | some t => J2 τ t (rd x) | none => rd x) (l.map f)
 | [], k, hl => by have _ := ok; simp [JF]
 | x :: l, k, hl => by
   simp only [List.zipIdx_cons, List.map_cons, JF]
   refine ⟨_, _, rfl, ?_, Jcz ts f l (k + 1) fun y hy => hl y (List.mem_cons_of_mem _ hy)⟩
   have h1 := hl x List.mem_cons_self
   split
   · exact XP ok h1
   · exact h1
theorem Jsa {ow : Own} {w : World} : ∀ (l l' : List PV) (U : Upd) (hc : Ents) (im : Im), Frz h hc -> Inv τ im ow hc w -> vaL τ h l = some (l', U) ->
  ∃ im', Good τ im ow hc w im' ow (JK hc U) w /\ Frz h (JK hc U) /\ ∀ us, JF τ im ow l us -> JF τ im' ow l' us
 | [], l', U, hc, im, hf, hi, hh => by
   simp only [vaL, Option.some.injEq, Prod.mk.injEq] at hh
   obtain ⟨rfl, rfl⟩ := hh
   exact ⟨im, Good.refl hi rfl, hf, fun us hu => hu⟩
 | p :: ps, l', U, hc, im, hf, hi, hh => by
   simp only [vaL] at hh
   cases h1 : (bif JrW p then Qs τ h p else some (p, [])) with
   | none => rw [h1] at hh; cases hh
   | some a =>
    cases h2 : vaL τ h ps with
    | none => rw [h1, h2] at hh; cases hh
    | some b =>
     simp only [h1, h2, Option.some.injEq, Prod.mk.injEq] at hh
     obtain ⟨rfl, rfl⟩ := hh
     have step : ∃ im1, Good τ im ow hc w im1 ow (JK hc a.2) w /\ Frz h (JK hc a.2) /\ ∀ u, Jg τ im ow p u -> Jg τ im1 ow a.1 u := by
      cases hv : JrW p with
      | true =>
       rw [hv, cond_true] at h1
       obtain ⟨im1, g1, g2, g3, _⟩ := YQ ok p a.1 a.2 hc im hf hi h1
       exact ⟨im1, g1, g2, fun u hu => (g3 u hu).up⟩
      | false =>
       rw [hv, cond_false] at h1
       obtain rfl := Option.some.inj h1
       exact ⟨im, Good.refl hi rfl, hf, fun u hu => hu⟩
     obtain ⟨im1, g1, g2, g3⟩ := step
     obtain ⟨im2, k1, k2, k3⟩ := Jsa ps b.1 b.2 (JK hc a.2) im1 g2 g1.inv h2
     rw [WI]
     refine ⟨im2, g1.trans k1, k2, fun us hu => ?_⟩
     simp only [JF] at hu ⊢
     obtain ⟨u, r, rfl, m1, m2⟩ := hu
     exact ⟨u, r, rfl, Jg.mono k1.imX (fun _ _ h => h) _ _ (g3 _ m1), k3 _ (JF.mono g1.imX (fun _ _ h => h) _ _ m2)⟩
theorem JCW {nid : Nat} {b : Builtin} {ts : Array TypeId} {xs : List PV} (hh : Y7 τ nid h b ts.toList xs = some (c, v, U)) (hc : c = true) (hfr : h nid = none) : YT τ P b ts xs h v U := by
 unfold Y7 at hh
 cases hx : xs.any JrW with
 | false => rw [hx, cond_false] at hh; exact Jz7 ok hh hc hfr
 | true =>
  rw [hx, cond_true] at hh
  cases hl : vaL τ h xs with
  | none => rw [hl] at hh; cases hh
  | some r =>
   obtain ⟨ys, u⟩ := r
   rw [hl] at hh
   simp only at hh
   cases he : XO τ nid (JK h u) b ts.toList ys with
   | none => rw [he] at hh; cases hh
   | some q =>
    simp only [he, Option.map_some, Option.some.injEq, Prod.mk.injEq] at hh
    obtain ⟨h1, rfl, rfl⟩ := hh
    intro im ow w us ty cs hs hi
    obtain ⟨im1, g1, g2, g3⟩ := Jsa ok xs ys u h im (Frz.refl h) hi hl
    have hn : JK h u nid = none := by
     rcases g2 nid with k1 | ⟨e1, k1, _⟩
     · rw [k1, hfr]
     · rw [hfr] at k1; cases k1
    have hq : XO τ nid (JK h u) b ts.toList ys = some (c, q.2.1, q.2.2) := by rw [he, ← h1]
    obtain ⟨uu, w', im', ow', m1, m2, m3⟩ := Jz7 ok hq hc hn im1 ow w us ty cs (g3 _ hs) g1.inv
    exact ⟨uu, w', im', ow', m1, by rw [WI]; exact g1.trans m2, m3⟩
theorem JlQ {cl : Call} {b : Builtin} (ho : o.op = .call cl) (hb : cl.callee = .builtin b) (hh : Y7 τ (Qb o) h b cl.argTypes.toList (cl.args.toList.zipIdx.map fun (x, i) => match cl.argTypes.toList[i]? with | some t => J2 τ t (rd x) | none => rd x) = some (c, v, U)) (hc : c = true) (hn : h (Qb o) = none) :
  JS τ P o rd h v U := by
 intro im ow a w hop hi
 have hargs : JF τ im ow (cl.args.toList.zipIdx.map fun (x, i) => match cl.argTypes.toList[i]? with | some t => J2 τ t (rd x) | none => rd x) (cl.args.map a.eval).toList := by
  rw [Array.toList_map]
  exact Jcz ok cl.argTypes.toList a.eval cl.args.toList 0 fun x hx => hop x (by simp only [ho, Op.operands, Call.operands, hb]; simpa using hx)
 obtain ⟨u, w', im', ow', g1, g2, g3⟩ := JCW ok hh hc hn im ow w _ o.type (cl.args.map fun | .const _ => true | _ => false) hargs hi
 refine ⟨u, w', im', ow', .inl ?_, g2, g3⟩
 simp only [execOp, ho, resolve, hb, Sem.run_bind, Sem.run_pure, Result.andThen_ok, invoke]
 exact g1
theorem VV {t x lo hi mx} (ho : o.op = .slice t x lo hi mx) {im ow} {a : Act} (hop : ∀ x ∈ o.op.operands, Jg τ im ow (rd x) (a.eval x)) :
  (∀ y, lo = some y -> Jg τ im ow (rd y) (a.eval y)) /\ (∀ y, hi = some y -> Jg τ im ow (rd y) (a.eval y)) /\ (∀ y, mx = some y -> Jg τ im ow (rd y) (a.eval y)) := by
 have _ := ok
 refine ⟨fun y hy => hop y ?_, fun y hy => hop y ?_, fun y hy => hop y ?_⟩ <;> simp [ho, Op.operands, hy]
theorem Jsb {t x lo hi mx} (ho : o.op = .slice t x lo hi mx) (hh : Jhh τ h t (rd x) (lo.map rd) (hi.map rd) (mx.map rd) = some (c, v, U)) (hc : c = true) : JS τ P o rd h v U := by
 subst hc
 unfold Jhh at hh
 split at hh
 · rename_i hu
   split at hh
   · rename_i a l b h' hm h1 h2
     have hmx : mx = none := by simpa using hm
     subst hmx
     simp only [Option.some.injEq, Prod.mk.injEq, Bool.and_eq_true, decide_eq_true_eq] at hh
     obtain ⟨⟨⟨⟨⟨q1, q2⟩, q3⟩, q4⟩, q5⟩, rfl, rfl⟩ := hh
     exact Jhp ok ho hu q1 h1 q2 h2 q3 q4 q5
   · cases hh
 · rename_i n e hu
   split at hh
   · rename_i id p a l b h' hx hm h1 h2
     have hmx : mx = none := by simpa using hm
     subst hmx
     cases hp : (ZZ τ h id p t && JoS h id) with
     | false => simp [hp] at hh
     | true =>
      simp only [hp, cond_true, Option.some.injEq, Prod.mk.injEq, Bool.and_eq_true, decide_eq_true_eq] at hh
      have hp2 := Bool.and_eq_true_iff.1 hp
      obtain ⟨⟨⟨⟨q2, q3⟩, q4⟩, q5⟩, rfl, rfl⟩ := hh
      exact Jhq ok ho hu hx hp2.1 hp2.2 h1 q2 h2 q3 q4 q5
   · cases hh
 · rename_i e hu
   split at hh
   · rename_i e' nl fl els hx
     cases he : e' == e with
     | false => simp [he] at hh
     | true =>
      obtain rfl : e' = e := by simpa using he
      simp only [he, cond_true] at hh
      split at hh
      · rename_i hm
        have hmx : mx = none := by simpa using hm
        subst hmx
        split at hh
        · rename_i a l b h' h1 h2
          simp only [Option.some.injEq, Prod.mk.injEq, Bool.and_eq_true, decide_eq_true_eq] at hh
          obtain ⟨⟨⟨⟨q2, q3⟩, q4⟩, q5⟩, rfl, rfl⟩ := hh
          refine Jdh ok (g := 0) ho hu hx ?_ q4 q5 (fun hh => (hh rfl).elim) _ ?_
          · intro im ow ac w cc hop hcc _
            obtain ⟨o1, o2, _⟩ := VV ok ho hop
            simp only [Option.map_none, if_true]
            exact Za (WK ok o1 h1 q2) (WK ok o2 h2 q3) q4 (by omega)
          · intro hn hf
            simp only [hn, Bool.false_or, Bool.and_eq_true] at hf
            refine .inl ⟨rfl, hf.1, ?_⟩
            have hhi : hi = none := by cases hi <;> simp_all
            subst hhi
            simp only [Option.map_none, bnd, Option.some.injEq, Prod.mk.injEq] at h2
            exact h2.2.symm
        · cases hh
      · rename_i m hm
        have hmx : ∃ my, mx = some my /\ rd my = m := by cases mx <;> simp_all
        obtain ⟨my, rfl, rfl⟩ := hmx
        split at hh
        · rename_i a l b h' cc g h1 h2 h3
          simp only [Option.some.injEq, Prod.mk.injEq, Bool.and_eq_true, decide_eq_true_eq] at hh
          obtain ⟨⟨⟨⟨⟨⟨⟨q2, q3⟩, q4⟩, q5⟩, q6⟩, q7⟩, q8⟩, rfl, rfl⟩ := hh
          refine Jdh ok (g := g) ho hu hx ?_ q6 (by omega) (fun _ => ⟨q7, q8⟩) _ ?_
          · intro im ow ac w cc hop hcc _
            obtain ⟨o1, o2, o3⟩ := VV ok ho hop
            simp only [reduceCtorEq, if_false]
            refine Jdg (WK ok o1 h1 q2) (WK ok o2 h2 q3) ?_ (WK ok (x := some my) o3 h3 q4) (by simp) q6 q7 (by omega)
            cases hi <;> simp_all
          · intro hn hf
            simp only [hn, Bool.false_or, beq_iff_eq] at hf
            exact .inr ⟨by simp, hf⟩
        · cases hh
   · rename_i e' id p off len cap hx
     cases he : e' == e with
     | false => simp [he] at hh
     | true =>
      obtain rfl : e' = e := by simpa using he
      simp only [he, cond_true] at hh
      split at hh
      · rename_i ent hent
        split at hh
        · rename_i l0 hrow
          split at hh
          · rename_i hm
            have hmx : mx = none := by simpa using hm
            subst hmx
            split at hh
            · rename_i a l b h' h1 h2
              simp only [Option.some.injEq, Prod.mk.injEq, Bool.and_eq_true, decide_eq_true_eq] at hh
              obtain ⟨⟨⟨⟨q2, q3⟩, q4⟩, q5⟩, rfl, rfl⟩ := hh
              have := Jdi ok (g := 0) ho hu hx hent hrow (l := l) (h' := h') ?_ q4 q5 (fun hh => (hh rfl).elim)
              · simpa using this
              · intro im ow ac w cc hop hcc _
                obtain ⟨o1, o2, _⟩ := VV ok ho hop
                simp only [Option.map_none, if_true]
                exact Za (WK ok o1 h1 q2) (WK ok o2 h2 q3) q4 (by omega)
            · cases hh
          · rename_i m hm
            have hmx : ∃ my, mx = some my /\ rd my = m := by cases mx <;> simp_all
            obtain ⟨my, rfl, rfl⟩ := hmx
            split at hh
            · rename_i a l b h' cc g h1 h2 h3
              simp only [Option.some.injEq, Prod.mk.injEq, Bool.and_eq_true, decide_eq_true_eq] at hh
              obtain ⟨⟨⟨⟨⟨⟨⟨q2, q3⟩, q4⟩, q5⟩, q6⟩, q7⟩, q8⟩, rfl, rfl⟩ := hh
              have := Jdi ok (g := g) ho hu hx hent hrow (l := l) (h' := h') ?_ q6 (by omega) (fun _ => ⟨q7, q8⟩)
              · simpa using this
              · intro im ow ac w cc hop hcc _
                obtain ⟨o1, o2, o3⟩ := VV ok ho hop
                simp only [reduceCtorEq, if_false]
                refine Jdg (WK ok o1 h1 q2) (WK ok o2 h2 q3) ?_ (WK ok (x := some my) o3 h3 q4) (by simp) q6 q7 (by omega)
                cases hi <;> simp_all
            · cases hh
        · cases hh
      · cases hh
   · cases hh
 · cases hh
theorem JwP {src dst x} (ho : o.op = .convert src dst x) (hh : Jlk τ (Qb o) h src dst (rd x) = some (c, v, U)) (hc : c = true) (hn : h (Qb o) = none) : JS τ P o rd h v U := by
 subst hc
 unfold Jlk at hh
 simp only [JrV, JCR] at hh
 split at hh
 · rename_i k k' h1 h2
   simp only [Option.some.injEq, Prod.mk.injEq] at hh
   obtain ⟨q1, rfl, rfl⟩ := hh
   exact JlF ok ho h1 h2 q1
 · rename_i k f h1 h2
   simp only [Option.some.injEq, Prod.mk.injEq] at hh
   obtain ⟨q1, rfl, rfl⟩ := hh
   exact JlG ok ho h1 h2 q1
 · rename_i f k h1 h2
   simp only [Option.some.injEq, Prod.mk.injEq, Bool.and_eq_true, decide_eq_true_eq] at hh
   obtain ⟨⟨⟨⟨q1, q2⟩, q3⟩, q4⟩, rfl, rfl⟩ := hh
   cases hz : (f.decode (rd x).flo).toInt .zero with
   | none => rw [hz] at q2; cases q2
   | some n =>
     rw [hz] at q3 q4
     exact JlH ok ho h1 h2 q1 hz q3 q4
 · rename_i h1 h2
   simp only [Option.some.injEq, Prod.mk.injEq] at hh
   obtain ⟨q1, rfl, rfl⟩ := hh
   exact JlI ok ho h1 h2 q1
 · rename_i e h1 h2
   split at hh
   · rename_i h3
     simp only [Option.some.injEq, Prod.mk.injEq, Bool.and_eq_true] at hh
     obtain ⟨⟨q1, q2⟩, rfl, rfl⟩ := hh
     exact JlJ ok ho h1 h2 h3 q1 hn (by simpa [Je] using q2)
   · cases hh
 · rename_i e h1 h2
   split at hh
   · rename_i h3
     split at hh
     · rename_i r hr
       simp only [Option.some.injEq, Prod.mk.injEq] at hh
       obtain ⟨q1, rfl, rfl⟩ := hh
       exact JlK ok ho h1 h2 h3 (nl := r.1) (l := r.2) hr q1
     · cases hh
   · cases hh
 · rename_i e e3 h1 h2
   split at hh
   · rename_i e' id off len cap h3 hx
     split at hh
     · rename_i e2 nl els hid
       cases hsd : (src == dst && e2 == e) with
       | false => rw [hsd] at hh; cases hh
       | true =>
        rw [hsd, cond_true] at hh
        simp only [Option.some.injEq, Prod.mk.injEq, decide_eq_true_eq] at hh
        obtain ⟨q1, rfl, rfl⟩ := hh
        have hsd := Bool.and_eq_true_iff.1 hsd
        exact Jht ok ho (by simpa using hsd.1) h1 h3 hx hid (by simpa using hsd.2) q1
     · cases hh
   · cases hh
 · cases hh
theorem Jsc {t x y} (ho : o.op = .index t x y) (hh : Wj τ o rd h = some (c, v, U)) (hc : c = true) : JS τ P o rd h v U := by
 subst hc
 simp only [Wj, ho] at hh
 split at hh
 · rename_i m e k n hu hy
   simp only [Option.some.injEq, Prod.mk.injEq, Bool.and_eq_true, decide_eq_true_eq] at hh
   obtain ⟨⟨⟨⟨q1, q2⟩, q3⟩, q4⟩, rfl, rfl⟩ := hh
   rw [JaG τ depth e _ q4]
   exact Jhn ok ho hu q1 hy q2 q3
 · rename_i k n hu hy
   simp only [Option.some.injEq, Prod.mk.injEq, Bool.and_eq_true, decide_eq_true_eq] at hh
   obtain ⟨⟨⟨q1, q2⟩, q3⟩, rfl, rfl⟩ := hh
   exact Jho ok ho hu q1 hy q2 q3
 · cases hh
theorem Jhw {t x y} (ho : o.op = .indexAddr t x y) (hh : Wj τ o rd h = some (c, v, U)) (hc : c = true) : JS τ P o rd h v U := by
 subst hc
 simp only [Wj, ho] at hh
 split at hh
 · rename_i e e' id p off len cap k n hu hx hy
   cases he : e' == e with
   | false => simp [he] at hh
   | true =>
    obtain rfl : e' = e := by simpa using he
    simp only [he, cond_true, Option.some.injEq, Prod.mk.injEq, Bool.and_eq_true, decide_eq_true_eq] at hh
    obtain ⟨⟨q2, q3⟩, rfl, rfl⟩ := hh
    exact JdH ok ho hu hx hy q2 q3
 · rename_i e e' nl fl l k n hu hx hy
   cases he : e' == e with
   | false => simp [he] at hh
   | true =>
    obtain rfl : e' = e := by simpa using he
    simp only [he, cond_true, Option.some.injEq, Prod.mk.injEq, Bool.and_eq_true, decide_eq_true_eq] at hh
    obtain ⟨⟨⟨q2, q3⟩, q4⟩, rfl, rfl⟩ := hh
    rw [JaG τ depth e' _ q4]
    exact JdI ok ho hu hx hy q2 q3
 · rename_i e e' l k n hu hx hy
   cases he : e' == e with
   | false => simp [he] at hh
   | true =>
    obtain rfl : e' = e := by simpa using he
    simp only [he, cond_true, Option.some.injEq, Prod.mk.injEq, Bool.and_eq_true, decide_eq_true_eq] at hh
    obtain ⟨⟨q2, q3⟩, rfl, rfl⟩ := hh
    exact JdJ ok ho hu hx hy q2 q3
 · rename_i m e id p k n hu hx hy
   cases hp : (ZZ τ h id p t && decide (1 < m)) with
   | false => simp [hp] at hh
   | true =>
    simp only [hp, cond_true, Option.some.injEq, Prod.mk.injEq, Bool.and_eq_true, decide_eq_true_eq] at hh
    have hp2 := Bool.and_eq_true_iff.1 hp
    obtain ⟨⟨q2, q3⟩, rfl, rfl⟩ := hh
    exact Jcw ok ho hu hx hp2.1 (of_decide_eq_true hp2.2) hy q2 q3
 · cases hh
theorem Jsd {t parts} (ho : o.op = .build t parts) (hh : Wj τ o rd h = some (c, v, U)) : JS τ P o rd h v U := by
 simp only [Wj, ho] at hh
 split at hh
 · rename_i fds u z hu hz
   cases hs : J3 τ (fun i => (fds.toList[i]?).map (·.type)) h true z (parts.toList.map fun p => (p.1, rd p.2)) with
   | none => rw [hs] at hh; cases hh
   | some r =>
    simp only [hs, Option.map_some, Option.some.injEq, Prod.mk.injEq] at hh
    obtain ⟨_, rfl, rfl⟩ := hh
    have hut : u = t := by
     obtain ⟨_, i, vz, _, _, _, _, g5⟩ := ok.zer t _ hz
     have := g5 (fun _ => none) JB
     simp only [Rep] at this
     exact this.1
    subst hut
    exact JjZ ok ho hu hz hs
 · rename_i n e u z hu hz
   cases hs : J3 τ (fun _ => some e) h true z (parts.toList.map fun p => (p.1, rd p.2)) with
   | none => rw [hs] at hh; cases hh
   | some r =>
    simp only [hs, Option.map_some, Option.some.injEq, Prod.mk.injEq] at hh
    obtain ⟨_, rfl, rfl⟩ := hh
    have hut : u = t := by
     obtain ⟨_, i, vz, _, _, _, _, g5⟩ := ok.zer t _ hz
     have := g5 (fun _ => none) JB
     simp only [Rep] at this
     exact this.1
    subst hut
    exact Jj1 ok ho hu hz hs
 · rename_i n e u z hu hz
   cases hs : J3 τ (fun _ => some e) h true z (parts.toList.map fun p => (p.1, rd p.2)) with
   | none => rw [hs] at hh; cases hh
   | some r =>
    simp only [hs, Option.map_some, Option.some.injEq, Prod.mk.injEq] at hh
    obtain ⟨_, rfl, rfl⟩ := hh
    have hut : u = t := by
     obtain ⟨_, i, vz, _, _, _, _, g5⟩ := ok.zer t _ hz
     have := g5 (fun _ => none) JB
     simp only [Rep] at this
     exact this.1
    subst hut
    exact Jj0 ok ho hu hz hs
 · cases hh
theorem JwQ {t x} (ho : o.op = .load t x) (hh : Wj τ o rd h = some (c, v, U)) (hc : c = true) : JS τ P o rd h v U := by
 subst hc
 simp only [Wj, ho] at hh
 split at hh
 · rename_i id p hx
   split at hh
   · rename_i ent he
     split at hh
     · rename_i u via v0 hg
       cases hu : u == t with
       | false => simp [hu] at hh
       | true =>
        obtain rfl : u = t := by simpa using hu
        simp only [hu, cond_true] at hh
        cases via with
        | true =>
         simp only [cond_true, Option.some.injEq, Prod.mk.injEq] at hh
         obtain ⟨q1, rfl, rfl⟩ := hh
         rw [JaG τ depth u _ q1]
         exact Jdf ok ho hx he hg
        | false =>
         simp only [cond_false, Option.some.injEq, Prod.mk.injEq] at hh
         obtain ⟨q1, rfl, rfl⟩ := hh
         exact Jdf ok ho hx he hg
     · cases hh
   · cases hh
 · rename_i u v0 hx
   cases hu : (u == t && (τ.und t).isSome) with
   | false => rw [hu] at hh; cases hh
   | true =>
     simp only [hu, cond_true, Option.some.injEq, Prod.mk.injEq, true_and] at hh
     simp only [Bool.and_eq_true, beq_iff_eq, Option.isSome_iff_exists] at hu
     obtain ⟨rfl, hd⟩ := hu
     obtain ⟨rfl, rfl⟩ := hh
     exact Jlt ok ho hx hd
 · rename_i u v0 hx
   cases hu : (u == t && (τ.und t).isSome) with
   | false => rw [hu] at hh; cases hh
   | true =>
     simp only [hu, cond_true, Option.some.injEq, Prod.mk.injEq, true_and] at hh
     simp only [Bool.and_eq_true, beq_iff_eq, Option.isSome_iff_exists] at hu
     obtain ⟨rfl, hd⟩ := hu
     obtain ⟨rfl, rfl⟩ := hh
     exact Jlu ok ho hx hd
 · cases hh
theorem Jse {t x y} (ho : o.op = .store t x y) (hh : Wj τ o rd h = some (c, v, U)) (hc : c = true) : JS τ P o rd h v U := by
 subst hc
 simp only [Wj, ho] at hh
 split at hh
 · rename_i id p hx
   split at hh
   · rename_i ent he
     split at hh
     · rename_i u via v0 hg
       cases hu : (u == t && ent.free && WT τ t (J2 τ t (rd y))) with
       | false => simp [hu] at hh
       | true =>
        simp only [hu, cond_true] at hh
        simp only [Bool.and_eq_true, beq_iff_eq] at hu
        obtain ⟨⟨rfl, hf⟩, hfit⟩ := hu
        split at hh
        · rename_i fz e nl els
          cases hpp : (τ.isPtr u && !τ.isPtr e) with
          | true => rw [hpp] at hh; cases hh
          | false =>
          rw [hpp, cond_false] at hh
          cases hel : Jc8 τ u h (J2 τ u (rd y)) with
          | none => rw [hel] at hh; cases hh
          | some r =>
           simp only [hel, Option.map_some, Option.some.injEq, Prod.mk.injEq] at hh
           obtain ⟨q1, rfl, rfl⟩ := hh
           refine Jhm ok ho hx he ⟨fz, nl, els, rfl⟩ hg hf (y' := r.1) (U := r.2) hel (fun q hq => ?_) ?_
           · have := List.all_eq_true.1 q1 q hq
             simpa using this
           · intro fz' e' nl' els' hee ow i l
             cases hee
             intro hv
             simp only [vow] at hv ⊢
             cases hpu : τ.isPtr u with
             | false => rw [hpu] at hv; cases hv
             | true =>
              rw [hpu] at hpp hv
              have hpe : τ.isPtr e = true := by simpa using hpp
              rw [hpe]; exact hv
        · rename_i hnv
          simp only [Option.some.injEq, Prod.mk.injEq, true_and] at hh
          obtain ⟨rfl, rfl⟩ := hh
          exact Jhl ok ho hx he (fun fz e nl els hh => hnv fz e nl els hh) hg hf hfit
     · cases hh
   · cases hh
 · cases hh
end
end Go.Proofs.YthpmachmnoljeaaGreat.Rx
end

noncomputable section
namespace Go.Proofs.YthpmachmnoljeaaGreat.Rx
open Go
set_option linter.unusedVariables false
set_option maxHeartbeats 1000000

section
variable {τ : Tab} {P : Program} (ok : TabOk τ P) {h : Ents} {o : Oper} {rd : Operand -> PV} {v : PV} {U : Upd} {c : Bool}
include ok
theorem JwR (hh : Wj τ o rd h = some (c, v, U)) (hc : c = true) (hnn : JrZ o.op = true -> h (Qb o) = none) : JS τ P o rd h v U := by
 cases ho : o.op with
 | move x =>
  simp only [Wj, ho, Option.some.injEq, Prod.mk.injEq] at hh
  obtain ⟨_, rfl, rfl⟩ := hh
  exact JoX ok (.inl ho)
 | assign x =>
  simp only [Wj, ho, Option.some.injEq, Prod.mk.injEq] at hh
  obtain ⟨_, rfl, rfl⟩ := hh
  exact JoX ok (.inr ho)
 | pick p a b =>
  simp only [Wj, ho] at hh
  split at hh
  · rename_i hp
    simp only [Option.some.injEq, Prod.mk.injEq] at hh
    obtain ⟨_, rfl, rfl⟩ := hh
    exact JoY ok (b := true) ho hp
  · rename_i hp
    simp only [Option.some.injEq, Prod.mk.injEq] at hh
    obtain ⟨_, rfl, rfl⟩ := hh
    exact JoY ok (b := false) ho hp
  · cases hh
 | alloc t =>
  have hn := hnn (by rw [ho]; rfl)
  simp only [Wj, ho] at hh
  cases hz : τ.zer t with
  | none => rw [hz] at hh; cases hh
  | some z =>
    simp only [hz, Option.map_some, Option.some.injEq, Prod.mk.injEq] at hh
    obtain ⟨_, rfl, rfl⟩ := hh
    exact Jr5 ok ho hz hn
 | box t x =>
  have hn := hnn (by rw [ho]; rfl)
  simp only [Wj, ho] at hh
  cases hf : (WT τ t (J2 τ t (rd x)) && (τ.und t).isSome) with
  | false => rw [hf] at hh; cases hh
  | true =>
    simp only [hf, cond_true, Option.some.injEq, Prod.mk.injEq] at hh
    simp only [Bool.and_eq_true, Option.isSome_iff_exists] at hf
    obtain ⟨_, rfl, rfl⟩ := hh
    exact JCS ok ho hf.1 hf.2 hn
 | build t parts => exact Jsd ok ho hh
 | buildSlice t len parts =>
  have hn := hnn (by rw [ho]; rfl)
  simp only [Wj, ho] at hh
  split at hh
  · rename_i e hu
    split at hh
    · rename_i z hz
      cases hl : decide (len * τ.siz e <= 16777216) with
      | false => rw [hl] at hh; cases hh
      | true =>
       rw [hl, cond_true] at hh
       cases hva : ((parts.toList.any fun p => JHf (rd p.2)) && !τ.isPtr e) with
       | true =>
        rw [hva, cond_true] at hh
        cases hs : J3 τ (fun _ => some e) h true (List.replicate len z) (parts.toList.map fun p => (p.1, rd p.2)) with
        | none => rw [hs] at hh; cases hh
        | some r =>
         simp only [hs, Option.map_some, Option.some.injEq, Prod.mk.injEq] at hh
         obtain ⟨_, rfl, rfl⟩ := hh
         exact JlM ok ho hu hz (of_decide_eq_true hl) (l := r.1) (U := r.2) hs
       | false =>
        rw [hva, cond_false] at hh
        cases hs : J3 τ (fun _ => some e) h false (List.replicate len z) (parts.toList.map fun p => (p.1, rd p.2)) with
        | none => rw [hs] at hh; cases hh
        | some r =>
         simp only [hs, Option.map_some, Option.some.injEq, Prod.mk.injEq] at hh
         obtain ⟨_, rfl, rfl⟩ := hh
         exact Jgg ok ho hu hz (of_decide_eq_true hl) (l := r.1) (U := r.2) hs hn
    · cases hh
  · cases hh
 | load t x => exact JwQ ok ho hh hc
 | store t x y => exact Jse ok ho hh hc
 | nilCheck x =>
  simp only [Wj, ho] at hh
  split at hh
  · rename_i id p hx
    simp only [Option.some.injEq, Prod.mk.injEq] at hh
    obtain ⟨_, rfl, rfl⟩ := hh
    rw [← hx]
    exact Z6 ok ho (.inl ⟨_, _, hx⟩)
  · rename_i t v0 hx
    simp only [Option.some.injEq, Prod.mk.injEq] at hh
    obtain ⟨_, rfl, rfl⟩ := hh
    rw [← hx]
    exact Z6 ok ho (.inr (.inl ⟨_, _, hx⟩))
  · rename_i f a b hx
    simp only [Option.some.injEq, Prod.mk.injEq] at hh
    obtain ⟨_, rfl, rfl⟩ := hh
    rw [← hx]
    exact Z6 ok ho (.inr (.inr ⟨_, _, _, hx⟩))
  · cases hh
 | binOp op t x y t2 =>
  simp only [Wj, ho] at hh
  cases hb : JoT τ op t h (rd x) (rd y) with
  | none => rw [hb] at hh; cases hh
  | some r =>
    obtain ⟨c', v'⟩ := r
    simp only [hb, Option.map_some, Option.some.injEq, Prod.mk.injEq] at hh
    obtain ⟨rfl, rfl, rfl⟩ := hh
    subst hc
    exact Jr7 ok ho hb
 | unOp op t x =>
  simp only [Wj, ho] at hh
  split at hh
  · rename_i hu
    simp only [Option.some.injEq, Prod.mk.injEq] at hh
    obtain ⟨q1, rfl, rfl⟩ := hh
    exact Jhr ok ho (.inl ⟨rfl, hu, q1.trans hc, rfl⟩) hc
  · rename_i k hu
    simp only [Option.some.injEq, Prod.mk.injEq] at hh
    obtain ⟨q1, rfl, rfl⟩ := hh
    exact Jhr ok ho (.inr (.inl ⟨k, rfl, hu, q1.trans hc, rfl⟩)) hc
  · rename_i k hu
    simp only [Option.some.injEq, Prod.mk.injEq] at hh
    obtain ⟨q1, rfl, rfl⟩ := hh
    exact Jhr ok ho (.inr (.inr ⟨k, rfl, hu, q1.trans hc, rfl⟩)) hc
  · cases hh
 | convert src dst x =>
  have hn := hnn (by rw [ho]; rfl)
  simp only [Wj, ho] at hh
  exact JwP ok ho hh hc hn
 | makeFunc fn first cap =>
  simp only [Wj, ho, Option.some.injEq, Prod.mk.injEq] at hh
  obtain ⟨_, rfl, rfl⟩ := hh
  exact JjT ok ho
 | makeSlice t l k =>
  have hn := hnn (by rw [ho]; rfl)
  simp only [Wj, ho] at hh
  split at hh
  · rename_i e a b hu hl hk
    cases hz : τ.zer e with
    | none => rw [hz] at hh; cases hh
    | some z =>
      simp only [hz, Option.map_some, Option.some.injEq, Prod.mk.injEq] at hh
      obtain ⟨q1, rfl, rfl⟩ := hh
      subst hc
      simp only [Bool.and_eq_true, decide_eq_true_eq] at q1
      rw [JrY]
      exact Jhs ok ho hu hl hk hz q1.1.1 q1.1.2 q1.2 hn
  · cases hh
 | slice t x lo hi mx =>
  simp only [Wj, ho] at hh
  exact Jsb ok ho hh hc
 | fieldAddr t x i =>
  simp only [Wj, ho] at hh
  split at hh
  · rename_i fds id p hu hx
    cases hp : (ZZ τ h id p t && decide (i < fds.size)) with
    | false => rw [hp] at hh; cases hh
    | true =>
      simp only [hp, cond_true, Option.some.injEq, Prod.mk.injEq] at hh
      have hp2 := Bool.and_eq_true_iff.1 hp
      obtain ⟨_, rfl, rfl⟩ := hh
      exact Jcv ok ho hx hu hp2.1 (of_decide_eq_true hp2.2)
  · rename_i fds u v0 hu hx
    split at hh
    · rename_i f hf
      cases hp : u == t with
      | false => rw [hp] at hh; cases hh
      | true =>
       obtain rfl : u = t := by simpa using hp
       simp only [hp, cond_true, Option.some.injEq, Prod.mk.injEq] at hh
       obtain ⟨_, rfl, rfl⟩ := hh
       exact JdG ok ho hx hu hf
    · cases hh
  · cases hh
 | field t x i =>
  simp only [Wj, ho] at hh
  split at hh
  · rename_i fds u l hu hx
    cases hp : (u == t && decide (i < l.length)) with
    | false => rw [hp] at hh; cases hh
    | true =>
      simp only [hp, cond_true, Option.some.injEq, Prod.mk.injEq] at hh
      have hp2 := Bool.and_eq_true_iff.1 hp
      obtain rfl : u = t := by simpa using hp2.1
      obtain ⟨_, rfl, rfl⟩ := hh
      exact Jr6 ok ho hx hu (of_decide_eq_true hp2.2)
  · cases hh
 | indexAddr t x y => exact Jhw ok ho hh hc
 | index t x y => exact Jsc ok ho hh hc
 | extract x i =>
  simp only [Wj, ho] at hh
  split at hh
  · rename_i l hx
    cases hp : decide (i < l.length) with
    | false => rw [hp] at hh; cases hh
    | true =>
      simp only [hp, cond_true, Option.some.injEq, Prod.mk.injEq] at hh
      obtain ⟨_, rfl, rfl⟩ := hh
      exact Jlv ok ho hx (of_decide_eq_true hp)
  · cases hh
 | call cl =>
  have hn := hnn (by rw [ho]; rfl)
  simp only [Wj, ho] at hh
  split at hh
  · rename_i b hb
    exact JlQ ok ho hb hh hc hn
  · cases hh
 | _ => simp only [Wj, ho] at hh; cases hh
end
end Go.Proofs.YthpmachmnoljeaaGreat.Rx
end

noncomputable section
namespace Go.Proofs.YthpmachmnoljeaaGreat.Rx
open Go
set_option linter.unusedVariables false
set_option maxHeartbeats 1000000

theorem Xr {ρ : Nat -> Nat} : ∀ (l : List PV), (Wi ρ l).length = l.length
 | [] => rfl
 | p :: ps => by simp only [Wi, List.length_cons, Xr ps]
section
variable {τ : Tab} {im : Im} {ρ : Nat -> Nat}
mutual
theorem Rep.ren : ∀ (p : PV) (ow ow' : Own) (hr : ∀ i ∈ p.ids, ∀ l, ow i = some l -> ow' (ρ i) = some l) (t : TypeId) (cs : List Value), Rep τ im ow p t cs -> Rep τ im ow' (p.ren ρ) t cs
 | .top, ow, ow', hr, t, cs, h => by simpa only [PV.ren, Rep] using h
 | .sc v, ow, ow', hr, t, cs, h => by simpa only [PV.ren, Rep] using h
 | .ro e nl fl els, ow, ow', hr, t, cs, h => by simpa only [PV.ren, Rep] using h
 | .ow e id p off len cap, ow, ow', hr, t, cs, h => by
  simp only [PV.ren, Rep] at h ⊢
  obtain ⟨h1, u, h2, loc, h3, h4⟩ := h
  exact ⟨h1, u, h2, loc, hr id (by simp [PV.ids]) _ h3, h4⟩
 | .ptr id p, ow, ow', hr, t, cs, h => by
  simp only [PV.ren, Rep] at h ⊢
  obtain ⟨h1, u, h2, loc, b, o, ty, h3, h4⟩ := h
  exact ⟨h1, u, h2, loc, b, o, ty, hr id (by simp [PV.ids]) _ h3, h4⟩
 | .rp _ _, ow, ow', hr, t, cs, h => by simp only [Rep] at h
 | .va _ _, ow, ow', hr, t, cs, h => by simp only [Rep] at h
 | .vr _ _, ow, ow', hr, t, cs, h => by simp only [Rep] at h
 | .ar t' els, ow, ow', hr, t, cs, h => by simpa only [PV.ren, Rep] using h
 | .st t' fs, ow, ow', hr, t, cs, h => by
  simp only [PV.ren, Rep] at h ⊢
  obtain ⟨h1, h2⟩ := h
  refine ⟨h1, ?_⟩
  rcases h2 with ⟨fds, h3, h4⟩ | ⟨n, e, h3, h4, h5⟩
  · exact .inl ⟨fds, h3, JR.ren fs ow ow' (fun i hi => hr i (by simpa [PV.ids] using hi)) _ _ h4⟩
  · exact .inr ⟨n, e, h3, by rw [Xr fs, h4], Jm.ren fs ow ow' (fun i hi => hr i (by simpa [PV.ids] using hi)) _ _ h5⟩
 | .tup _, ow, ow', hr, t, cs, h => by simp only [Rep] at h
 | .fn f a b, ow, ow', hr, t, cs, h => by
  simp only [PV.ren, Rep] at h ⊢
  obtain ⟨h1, u, v, h2, h3, h4⟩ := h
  exact ⟨h1, u, v, h2, JF.ren a ow ow' (fun i hi => hr i (by simp [PV.ids, hi])) _ h3, JF.ren b ow ow' (fun i hi => hr i (by simp [PV.ids, hi])) _ h4⟩
theorem Jm.ren : ∀ (l : List PV) (ow ow' : Own) (hr : ∀ i ∈ Qu l, ∀ l, ow i = some l -> ow' (ρ i) = some l) (e : TypeId) (cs : List Value), Jm τ im ow l e cs -> Jm τ im ow' (Wi ρ l) e cs
 | [], ow, ow', hr, e, cs, h => by simpa only [Wi, Jm] using h
 | p :: ps, ow, ow', hr, e, cs, h => by
  simp only [Wi, Jm] at h ⊢
  obtain ⟨c1, c2, h1, h2, h3⟩ := h
  exact ⟨c1, c2, h1, Rep.ren p ow ow' (fun i hi => hr i (by simp [Qu, hi])) _ _ h2, Jm.ren ps ow ow' (fun i hi => hr i (by simp [Qu, hi])) _ _ h3⟩
theorem JR.ren : ∀ (l : List PV) (ow ow' : Own) (hr : ∀ i ∈ Qu l, ∀ l, ow i = some l -> ow' (ρ i) = some l) (ts : List TypeId) (cs : List Value), JR τ im ow l ts cs -> JR τ im ow' (Wi ρ l) ts cs
 | [], ow, ow', hr, e, cs, h => by simpa only [Wi, JR] using h
 | p :: ps, ow, ow', hr, e, cs, h => by
  simp only [Wi, JR] at h ⊢
  obtain ⟨t, r, c1, c2, h0, h1, h2, h3⟩ := h
  exact ⟨t, r, c1, c2, h0, h1, Rep.ren p ow ow' (fun i hi => hr i (by simp [Qu, hi])) _ _ h2, JR.ren ps ow ow' (fun i hi => hr i (by simp [Qu, hi])) _ _ h3⟩
theorem Jg.ren : ∀ (p : PV) (ow ow' : Own) (hr : ∀ i ∈ p.ids, ∀ l, ow i = some l -> ow' (ρ i) = some l) (u : Value), Jg τ im ow p u -> Jg τ im ow' (p.ren ρ) u
 | .top, ow, ow', hr, u, h => by simp only [PV.ren, Jg]
 | .sc v, ow, ow', hr, u, h => by simpa only [PV.ren, Jg] using h
 | .ro e nl fl els, ow, ow', hr, u, h => by simpa only [PV.ren, Jg] using h
 | .ow e id p off len cap, ow, ow', hr, u, h => by
  simp only [PV.ren, Jg] at h ⊢
  obtain ⟨loc, h3, h4⟩ := h
  exact ⟨loc, hr id (by simp [PV.ids]) _ h3, h4⟩
 | .ptr id p, ow, ow', hr, u, h => by
  simp only [PV.ren, Jg] at h ⊢
  obtain ⟨loc, b, o, ty, h3, h4⟩ := h
  exact ⟨loc, b, o, ty, hr id (by simp [PV.ids]) _ h3, h4⟩
 | .rp _ _, ow, ow', hr, u, h => by simpa only [PV.ren, Jg] using h
 | .va e els, ow, ow', hr, u, h => by
  simp only [PV.ren, Jg] at h ⊢
  rw [Xr]
  exact h.mono (fun _ _ h => h) (fun l hl => Jm.ren els ow ow' (fun i hi => hr i (by simpa [PV.ids] using hi)) _ _ hl)
 | .vr t v, ow, ow', hr, u, h => by
  simp only [PV.ren, Jg] at h ⊢
  obtain ⟨a, cells, el, fr, pre, mid, post, h1, h2, h3, h4, h5, h6⟩ := h
  exact ⟨a, cells, el, fr, pre, mid, post, h1, h2, h3, h4, h5, Rep.ren v ow ow' (fun i hi => hr i (by simpa [PV.ids] using hi)) _ _ h6⟩
 | .ar t' els, ow, ow', hr, u, h => by simpa only [PV.ren, Jg] using h
 | .st t' fs, ow, ow', hr, u, h => by
  simp only [PV.ren, Jg] at h ⊢
  obtain ⟨cs, h1, h2⟩ := h
  refine ⟨cs, h1, ?_⟩
  rcases h2 with ⟨fds, h3, h4⟩ | ⟨n, e, h3, h4, h5⟩
  · exact .inl ⟨fds, h3, JR.ren fs ow ow' (fun i hi => hr i (by simpa [PV.ids] using hi)) _ _ h4⟩
  · exact .inr ⟨n, e, h3, by rw [Xr fs, h4], Jm.ren fs ow ow' (fun i hi => hr i (by simpa [PV.ids] using hi)) _ _ h5⟩
 | .tup l, ow, ow', hr, u, h => by
  simp only [PV.ren, Jg] at h ⊢
  obtain ⟨us, h1, h2⟩ := h
  exact ⟨us, h1, JF.ren l ow ow' (fun i hi => hr i (by simpa [PV.ids] using hi)) _ h2⟩
 | .fn f a b, ow, ow', hr, u, h => by
  simp only [PV.ren, Jg] at h ⊢
  obtain ⟨x, y, h2, h3, h4⟩ := h
  exact ⟨x, y, h2, JF.ren a ow ow' (fun i hi => hr i (by simp [PV.ids, hi])) _ h3, JF.ren b ow ow' (fun i hi => hr i (by simp [PV.ids, hi])) _ h4⟩
theorem JF.ren : ∀ (l : List PV) (ow ow' : Own) (hr : ∀ i ∈ Qu l, ∀ l, ow i = some l -> ow' (ρ i) = some l) (us : List Value), JF τ im ow l us -> JF τ im ow' (Wi ρ l) us
 | [], ow, ow', hr, us, h => by simpa only [Wi, JF] using h
 | p :: ps, ow, ow', hr, us, h => by
  simp only [Wi, JF] at h ⊢
  obtain ⟨u, r, h1, h2, h3⟩ := h
  exact ⟨u, r, h1, Jg.ren p ow ow' (fun i hi => hr i (by simp [Qu, hi])) _ h2, JF.ren ps ow ow' (fun i hi => hr i (by simp [Qu, hi])) _ h3⟩
end
theorem EntRep.ren {ow ow' : Own} {i j : Nat} {e : Ent} {w : World} (hi : ∀ l, ow i = some l -> ow' j = some l) (hr : ∀ i ∈ e.ids τ, ∀ l, ow i = some l -> ow' (ρ i) = some l) (h : EntRep τ im ow i e w) : EntRep τ im ow' j (e.ren τ ρ) w := by
 obtain ⟨loc, h1, h2⟩ := h
 refine ⟨loc, hi _ h1, ?_⟩
 cases e with
 | dead => trivial
 | box fz t v =>
  obtain ⟨g1, g2, b, cells, el, fr, pre, mid, post, m1, m2, m3, m4, m5, m6, m7⟩ := h2
  exact ⟨g1, g2, b, cells, el, fr, pre, mid, post, m1, m2, m3, m4, m5, Rep.ren v ow ow' (fun i hi => hr i (by simpa [Ent.ids] using hi)) _ _ m6, m7⟩
 | vec fz t nl els =>
  have hlen : (bif τ.isPtr t then Wi ρ els else els).length = els.length := by cases τ.isPtr t <;> simp [Xr]
  obtain ⟨g1, g2, g3⟩ := h2
  refine ⟨by rw [hlen]; exact g1, g2, ?_⟩
  rcases g3 with ⟨k1, rfl⟩ | ⟨k1, b, cells, el, fr, pre, mid, post, m1, m2, m3, m4, m5, m6, m7⟩
  · refine .inl ⟨k1, ?_⟩
    cases τ.isPtr t <;> rfl
  · refine .inr ⟨k1, b, cells, el, fr, pre, mid, post, m1, m2, m3, m4, m5, ?_, m7⟩
    cases hp : τ.isPtr t with
    | false => simp only [vow, hp, Bool.false_eq_true, if_false, cond_false] at m6 ⊢; exact m6
    | true =>
     simp only [vow, hp, if_true, cond_true] at m6 ⊢
     exact Jm.ren els ow ow' (fun i hi => hr i (by simpa [Ent.ids, hp] using hi)) _ _ m6
theorem Ent.free_ren (e : Ent) : (e.ren τ ρ).free = e.free := by cases e <;> rfl
end

structure View (τ : Tab) (ids : List Nat) (ρ : Nat -> Nat) (ow : Own) (h : Ents) (ow1 : Own) (h1 : Ents) : Prop where
 ent : ∀ i ∈ ids, h1 (ρ i) = (h i).map (Ent.ren τ ρ)
 own : ∀ i ∈ ids, ow1 (ρ i) = ow i
 only : ∀ j, (∃ e, h1 j = some e) ∨ (∃ l, ow1 j = some l) -> ∃ i ∈ ids, ρ i = j
 inj : ∀ i ∈ ids, ∀ j ∈ ids, ρ i = ρ j -> i = j
 closed : ∀ i ∈ ids, ∀ e, h i = some e -> ∀ j ∈ e.ids τ, j ∈ ids
theorem View.reps {τ : Tab} {ids : List Nat} {ρ : Nat -> Nat} {ow ow1 : Own} {h h1 : Ents} (v : View τ ids ρ ow h ow1 h1) {l : List Nat} (hl : ∀ i ∈ l, i ∈ ids) : ∀ i ∈ l, ∀ k, ow i = some k -> ow1 (ρ i) = some k :=
 fun i hi k hk => by rw [v.own i (hl i hi)]; exact hk
theorem View.live {τ : Tab} {ids : List Nat} {ρ : Nat -> Nat} {ow ow1 : Own} {h h1 : Ents} (v : View τ ids ρ ow h ow1 h1) {j b : Nat} (hl : Live h1 ow1 j b) : ∃ i ∈ ids, ρ i = j /\ Live h ow i b := by
 obtain ⟨e, l, g1, g2, g3, g4⟩ := hl
 obtain ⟨i, hi, rfl⟩ := v.only j (.inl ⟨e, g1⟩)
 rw [v.ent i hi] at g1
 rw [v.own i hi] at g3
 cases hh : h i with
 | none => rw [hh] at g1; cases g1
 | some e0 =>
  rw [hh] at g1
  simp only [Option.map_some, Option.some.injEq] at g1
  subst g1
  exact ⟨i, hi, rfl, e0, l, hh, by rw [Ent.free_ren] at g2; exact g2, g3, g4⟩
theorem View.inv {τ : Tab} {ids : List Nat} {ρ : Nat -> Nat} {im : Im} {ow ow1 : Own} {h h1 : Ents} {w : World} (v : View τ ids ρ ow h ow1 h1) (hi : Inv τ im ow h w) : Inv τ im ow1 h1 w where
 imOk := hi.imOk
 ent := fun j e hj => by
  obtain ⟨i, hm, rfl⟩ := v.only j (.inl ⟨e, hj⟩)
  rw [v.ent i hm] at hj
  cases hh : h i with
  | none => rw [hh] at hj; cases hj
  | some e0 =>
   rw [hh] at hj
   simp only [Option.map_some, Option.some.injEq] at hj
   subst hj
   exact EntRep.ren (fun l hl => by rw [v.own i hm]; exact hl) (v.reps fun k hk => v.closed i hm e0 hh k hk) (hi.ent i e0 hh)
 inj := fun j k b h1 h2 => by
  obtain ⟨i, _, rfl, g1⟩ := v.live h1
  obtain ⟨i', _, rfl, g2⟩ := v.live h2
  rw [hi.inj i i' b g1 g2]
 dom := fun j l hl => by
  obtain ⟨i, hm, rfl⟩ := v.only j (.inr ⟨l, hl⟩)
  rw [v.own i hm] at hl
  obtain ⟨e, he⟩ := hi.dom i l hl
  exact ⟨_, by rw [v.ent i hm, he]; rfl⟩
structure Back (τ : Tab) (ids : List Nat) (ρ σ : Nat -> Nat) (ow : Own) (h : Ents) (ow2 : Own) (h2 : Ents) (ow' : Own) (h' : Ents) : Prop where
 back : ∀ i ∈ ids, σ (ρ i) = i
 ent : ∀ j e, h2 j = some e -> h' (σ j) = some (e.ren τ σ)
 own : ∀ j l, ow2 j = some l -> ow' (σ j) = some l
 fresh : ∀ j e, h2 j = some e -> (∃ i ∈ ids, ρ i = j) ∨ h (σ j) = none
 ent' : ∀ g, (∃ j e, h2 j = some e /\ σ j = g) ∨ (h' g = h g /\ ow' g = ow g /\ g ∉ ids)
 inj : ∀ j k e f, h2 j = some e -> h2 k = some f -> σ j = σ k -> j = k
theorem Good.lift {τ : Tab} {ids : List Nat} {ρ σ : Nat -> Nat} {im im2 : Im} {ow ow1 ow2 ow' : Own} {h h1 h2 h' : Ents} {w w' : World} (hi : Inv τ im ow h w) (v : View τ ids ρ ow h ow1 h1) (g : Good τ im ow1 h1 w im2 ow2 h2 w')
   (bk : Back τ ids ρ σ ow h ow2 h2 ow' h') : Good τ im ow h w im2 ow' h' w' := by
 have hown : ∀ i l, ow i = some l -> ow' i = some l := by
   intro i l hl
   rcases bk.ent' i with ⟨j, e, hj, rfl⟩ | ⟨_, ho, _⟩
   · rcases bk.fresh j e hj with ⟨i', hm, rfl⟩ | hn
     · rw [bk.back i' hm] at hl ⊢
       have := bk.own (ρ i') l (g.owX _ _ (by rw [v.own i' hm]; exact hl))
       rwa [bk.back i' hm] at this
     · obtain ⟨e', he'⟩ := hi.dom _ l hl
       rw [hn] at he'; cases he'
   · rw [ho]; exact hl
 have hlv : ∀ i b, Live h' ow' i b -> (∃ j, σ j = i /\ Live h2 ow2 j b) ∨ (i ∉ ids /\ Live h ow i b) := by
   rintro i b ⟨e, l, q1, q2, q3, q4⟩
   rcases bk.ent' i with ⟨j, e', hj, rfl⟩ | ⟨he, ho, hni⟩
   · left
     refine ⟨j, rfl, ?_⟩
     rw [bk.ent j e' hj] at q1
     simp only [Option.some.injEq] at q1
     subst q1
     obtain ⟨l', hl', _⟩ := g.inv.ent j e' hj
     have := bk.own j l' hl'
     rw [q3] at this
     simp only [Option.some.injEq] at this
     subst this
     exact ⟨e', l, hj, by rw [Ent.free_ren] at q2; exact q2, hl', q4⟩
   · right
     exact ⟨hni, e, l, by rw [← he]; exact q1, q2, by rw [← ho]; exact q3, q4⟩
 have hnl : ∀ i b, i ∉ ids -> Live h ow i b -> ∀ j, ¬ Live h1 ow1 j b := by
   intro i b hni hl j hj
   obtain ⟨i', hm, _, hl'⟩ := v.live hj
   exact hni (hi.inj i i' b hl hl' ▸ hm)
 refine { imX := g.imX, owX := hown, inv := ?_, size := g.size, keep := fun b hb hn => g.keep b hb fun j hj => ?_, newim := fun b o hb => ?_, newlive := fun i b hl => ?_, rest := g.rest }
 · refine { imOk := g.inv.imOk, ent := fun i e he => ?_, inj := fun i j b q1 q2 => ?_, dom := fun i l hl => ?_ }
   · rcases bk.ent' i with ⟨j, e', hj, rfl⟩ | ⟨hee, ho, hni⟩
     · rw [bk.ent j e' hj] at he
       simp only [Option.some.injEq] at he
       subst he
       exact EntRep.ren (fun l hl => bk.own j l hl) (fun k _ l hl => bk.own k l hl) (g.inv.ent j e' hj)
     · rw [hee] at he
       have hE := hi.ent i e he
       cases e with
       | dead =>
         obtain ⟨l, hl, _⟩ := hE
         exact ⟨l, hown i l hl, trivial⟩
       | box fz t v0 =>
         refine EntRep.keep g.imX hown (fun l b hb hl hlb => ?_) (fun hf l b hl hlb => ?_) hE
         · cases fz with
           | false => exact g.keep b hb (hnl i b hni ⟨_, l, he, rfl, hl, hlb⟩)
           | true =>
            refine g.keep b hb fun j hj => ?_
            have h0 := Live.im_none (v.inv hi) hj
            obtain ⟨l', q1, q2, _, b', cells, el, fr, pre, mid, post, m1, m2, _, _, _, _, m7, _⟩ := hE
            rw [hl] at q1; obtain rfl := Option.some.inj q1
            rw [hlb] at m1; obtain rfl := Option.some.inj m1
            rw [m7 rfl] at h0; cases h0
         · have hlive : Live h ow i b := ⟨_, l, he, hf, hl, hlb⟩
           have h0 := Live.im_none hi hlive
           have hlt := Live.lt hi hlive
           cases hb2 : im2 b with
           | none => rfl
           | some o =>
            rcases g.newim b o hb2 with k | k | ⟨j, k⟩
            · rw [h0] at k; cases k
            · omega
            · exact (hnl i b hni hlive j k).elim
       | vec fz t nl els =>
         refine EntRep.keep g.imX hown (fun l b hb hl hlb => ?_) (fun hf l b hl hlb => ?_) hE
         · cases fz with
           | false => exact g.keep b hb (hnl i b hni ⟨_, l, he, rfl, hl, hlb⟩)
           | true =>
            refine g.keep b hb fun j hj => ?_
            have h0 := Live.im_none (v.inv hi) hj
            obtain ⟨l', q1, q2, _, ⟨m1, _⟩ | ⟨_, b', cells, el, fr, pre, mid, post, m1, m2, _, _, _, _, m7, _⟩⟩ := hE
            · rw [hl] at q1; obtain rfl := Option.some.inj q1
              rw [hlb] at m1; cases m1
            · rw [hl] at q1; obtain rfl := Option.some.inj q1
              rw [hlb] at m1; obtain rfl := Option.some.inj m1
              rw [m7 rfl] at h0; cases h0
         · have hlive : Live h ow i b := ⟨_, l, he, hf, hl, hlb⟩
           have h0 := Live.im_none hi hlive
           have hlt := Live.lt hi hlive
           cases hb2 : im2 b with
           | none => rfl
           | some o =>
            rcases g.newim b o hb2 with k | k | ⟨j, k⟩
            · rw [h0] at k; cases k
            · omega
            · exact (hnl i b hni hlive j k).elim
   · rcases hlv i b q1 with ⟨j1, rfl, k1⟩ | ⟨n1, k1⟩ <;> rcases hlv j b q2 with ⟨j2, rfl, k2⟩ | ⟨n2, k2⟩
     · rw [g.inv.inj j1 j2 b k1 k2]
     · rcases g.newlive j1 b k1 with k | ⟨j', k⟩
       · have := Live.lt hi k2; omega
       · exact (hnl _ b n2 k2 j' k).elim
     · rcases g.newlive j2 b k2 with k | ⟨j', k⟩
       · have := Live.lt hi k1; omega
       · exact (hnl _ b n1 k1 j' k).elim
     · exact hi.inj i j b k1 k2
   · rcases bk.ent' i with ⟨j, e', hj, rfl⟩ | ⟨hee, ho, hni⟩
     · exact ⟨_, bk.ent j e' hj⟩
     · rw [ho] at hl; rw [hee]; exact hi.dom i l hl
 · obtain ⟨i, _, _, hl⟩ := v.live hj
   exact hn i hl
 · rcases g.newim b o hb with k | k | ⟨j, k⟩
   · exact .inl k
   · exact .inr (.inl k)
   · obtain ⟨i, _, _, hl⟩ := v.live k
     exact .inr (.inr ⟨i, hl⟩)
 · rcases hlv i b hl with ⟨j, _, k⟩ | ⟨_, k⟩
   · rcases g.newlive j b k with k | ⟨j', k⟩
     · exact .inl k
     · obtain ⟨i', _, _, hl'⟩ := v.live k
       exact .inr ⟨i', hl'⟩
   · exact .inr ⟨i, k⟩
end Go.Proofs.YthpmachmnoljeaaGreat.Rx
end

noncomputable section
namespace Go.Proofs.YthpmachmnoljeaaGreat.Rx
open Go
set_option linter.unusedVariables false
set_option maxHeartbeats 1000000

/-! ### values that lead JB -/
section
variable {τ : Tab} {im im' : Im}
mutual
theorem Rep.plain : ∀ (p : PV) (ow ow' : Own) (t : TypeId) (cs : List Value), plain p = true -> Rep τ im ow p t cs -> Rep τ im' ow' p t cs
 | .top, ow, ow', t, cs, hp, h => by simpa only [Rep] using h
 | .sc v, ow, ow', t, cs, hp, h => by simpa only [Rep] using h
 | .ro e nl fl els, ow, ow', t, cs, hp, h => by simp [Rx.plain] at hp
 | .ow e id p off len cap, ow, ow', t, cs, hp, h => by simp [Rx.plain] at hp
 | .ptr id p, ow, ow', t, cs, hp, h => by simp [Rx.plain] at hp
 | .rp _ _, ow, ow', t, cs, hp, h => by simp [Rx.plain] at hp
 | .va _ _, ow, ow', t, cs, hp, h => by simp [Rx.plain] at hp
 | .vr _ _, ow, ow', t, cs, hp, h => by simp [Rx.plain] at hp
 | .ar t' els, ow, ow', t, cs, hp, h => by simpa only [Rep] using h
 | .st t' fs, ow, ow', t, cs, hp, h => by
  simp only [Rx.plain] at hp
  simp only [Rep] at h ⊢
  obtain ⟨h1, h2⟩ := h
  refine ⟨h1, ?_⟩
  rcases h2 with ⟨fds, h3, h4⟩ | ⟨n, e, h3, h4, h5⟩
  · exact .inl ⟨fds, h3, JR.plain fs ow ow' _ _ hp h4⟩
  · exact .inr ⟨n, e, h3, h4, Jm.plain fs ow ow' _ _ hp h5⟩
 | .tup _, ow, ow', t, cs, hp, h => by simp only [Rep] at h
 | .fn f a b, ow, ow', t, cs, hp, h => by simp [Rx.plain] at hp
theorem Jm.plain : ∀ (l : List PV) (ow ow' : Own) (e : TypeId) (cs : List Value), Y8 l = true -> Jm τ im ow l e cs -> Jm τ im' ow' l e cs
 | [], ow, ow', e, cs, hp, h => by simpa only [Jm] using h
 | p :: ps, ow, ow', e, cs, hp, h => by
  simp only [Y8, Bool.and_eq_true] at hp
  simp only [Jm] at h ⊢
  obtain ⟨c1, c2, h1, h2, h3⟩ := h
  exact ⟨c1, c2, h1, Rep.plain p ow ow' _ _ hp.1 h2, Jm.plain ps ow ow' _ _ hp.2 h3⟩
theorem JR.plain : ∀ (l : List PV) (ow ow' : Own) (ts : List TypeId) (cs : List Value), Y8 l = true -> JR τ im ow l ts cs -> JR τ im' ow' l ts cs
 | [], ow, ow', e, cs, hp, h => by simpa only [JR] using h
 | p :: ps, ow, ow', e, cs, hp, h => by
  simp only [Y8, Bool.and_eq_true] at hp
  simp only [JR] at h ⊢
  obtain ⟨t, r, c1, c2, h0, h1, h2, h3⟩ := h
  exact ⟨t, r, c1, c2, h0, h1, Rep.plain p ow ow' _ _ hp.1 h2, JR.plain ps ow ow' _ _ hp.2 h3⟩
theorem Jg.plain : ∀ (p : PV) (ow ow' : Own) (u : Value), plain p = true -> Jg τ im ow p u -> Jg τ im' ow' p u
 | .top, ow, ow', u, hp, h => by simp only [Jg]
 | .sc v, ow, ow', u, hp, h => by simpa only [Jg] using h
 | .ro e nl fl els, ow, ow', u, hp, h => by simp [Rx.plain] at hp
 | .ow e id p off len cap, ow, ow', u, hp, h => by simp [Rx.plain] at hp
 | .ptr id p, ow, ow', u, hp, h => by simp [Rx.plain] at hp
 | .rp _ _, ow, ow', u, hp, h => by simp [Rx.plain] at hp
 | .va _ _, ow, ow', u, hp, h => by simp [Rx.plain] at hp
 | .vr _ _, ow, ow', u, hp, h => by simp [Rx.plain] at hp
 | .ar t' els, ow, ow', u, hp, h => by simpa only [Jg] using h
 | .st t' fs, ow, ow', u, hp, h => by
  simp only [Rx.plain] at hp
  simp only [Jg] at h ⊢
  obtain ⟨cs, h1, h2⟩ := h
  refine ⟨cs, h1, ?_⟩
  rcases h2 with ⟨fds, h3, h4⟩ | ⟨n, e, h3, h4, h5⟩
  · exact .inl ⟨fds, h3, JR.plain fs ow ow' _ _ hp h4⟩
  · exact .inr ⟨n, e, h3, h4, Jm.plain fs ow ow' _ _ hp h5⟩
 | .tup l, ow, ow', u, hp, h => by
  simp only [Rx.plain] at hp
  simp only [Jg] at h ⊢
  obtain ⟨us, h1, h2⟩ := h
  exact ⟨us, h1, JF.plain l ow ow' _ hp h2⟩
 | .fn f a b, ow, ow', u, hp, h => by simp [Rx.plain] at hp
theorem JF.plain : ∀ (l : List PV) (ow ow' : Own) (us : List Value), Y8 l = true -> JF τ im ow l us -> JF τ im' ow' l us
 | [], ow, ow', us, hp, h => by simpa only [JF] using h
 | p :: ps, ow, ow', us, hp, h => by
  simp only [Y8, Bool.and_eq_true] at hp
  simp only [JF] at h ⊢
  obtain ⟨u, r, h1, h2, h3⟩ := h
  exact ⟨u, r, h1, Jg.plain p ow ow' _ hp.1 h2, JF.plain ps ow ow' _ hp.2 h3⟩
end
end

/-! ### lists of names -/
theorem elem_iff {i : Nat} {l : List Nat} : l.elem i = true ↔ i ∈ l := by simp
theorem YU : ∀ {l : List Nat}, Xw l = true -> l.Nodup
 | [], _ => List.nodup_nil
 | x :: xs, h => by
  simp only [Xw, Bool.and_eq_true, Bool.not_eq_true'] at h
  rw [List.nodup_cons]
  refine ⟨fun hm => ?_, YU h.2⟩
  rw [elem_iff.2 hm] at h
  cases h.1
theorem JlR : ∀ {l : List Nat} {k n : Nat} {i : Nat}, l.Nodup -> l[k]? = some i -> pos i l n = some (n + k)
 | [], k, n, i, _, h => by simp at h
 | x :: xs, 0, n, i, _, h => by
  simp only [List.getElem?_cons_zero, Option.some.injEq] at h
  subst h
  simp [pos]
 | x :: xs, k + 1, n, i, hn, h => by
  simp only [List.getElem?_cons_succ] at h
  have hne : (x == i) = false := by
   simp only [beq_eq_false_iff_ne]
   rintro rfl
   exact (List.nodup_cons.1 hn).1 (List.mem_of_getElem? h)
  simp only [pos, hne, cond_false]
  rw [JlR (List.nodup_cons.1 hn).2 h]
  congr 1; omega
theorem Zc {l : List Nat} {k i : Nat} (hn : l.Nodup) (h : l[k]? = some i) : inn l i = k := by simp [inn, JlR hn h]
theorem GH {l : List Nat} {i : Nat} (h : i ∈ l) : ∃ k, l[k]? = some i /\ k < l.length := by
 obtain ⟨k, hk, rfl⟩ := List.mem_iff_getElem.1 h
 exact ⟨k, List.getElem?_eq_getElem hk, hk⟩
theorem Jsf {l : List Nat} (hn : l.Nodup) {k m i : Nat} (h1 : l[k]? = some i) (h2 : l[m]? = some i) : k = m := by
 have e1 := Zc hn h1
 have e2 := Zc hn h2
 omega
theorem Jhx {l : List Nat} {k i : Nat} (h : l[k]? = some i) : l.getD k 0 = i := by simp [List.getD_eq_getElem?_getD, h]
theorem Yi {ids : List Nat} {nid k : Nat} (h : k < 16) : JaA ids nid k = ids.getD k 0 := by simp [JaA, h]
theorem Yj {ids : List Nat} {nid k : Nat} (h : 16 <= k) : JaA ids nid k = nid + (k - 16) := by
 have : decide (k < 16) = false := by simp; omega
 simp [JaA, this]
theorem Jgu {lk : Ents} {nid n k : Nat} (h : Jeg lk nid n = true) (hk : k < n) : lk (nid + k) = none := by
 simp only [Jeg, List.all_eq_true, List.mem_range] at h
 have := h k hk
 simpa using this
theorem Jgv (h : Ents) (a b : Upd) : JK h (a ++ b) = JK (JK h a) b := by
 induction a generalizing h with
 | nil => rfl
 | cons x r ih => simp only [List.cons_append, JK]; exact ih _
theorem Zd {h : Ents} : ∀ {U : Upd} {i : Nat}, (∀ q ∈ U, q.1 ≠ i) -> JK h U i = h i := fun {U i} hq => JaH hq
theorem VW {τ : Tab} {ρ : Nat -> Nat} {nid : Nat} : ∀ {l : List Ent} {n : Nat} {q : Nat × Ent}, q ∈ Jc9 τ ρ nid l n -> ∃ k, k < l.length /\ q.1 = nid + (n + k)
 | [], n, q, h => by simp [Jc9] at h
 | e :: r, n, q, h => by
  simp only [Jc9, List.mem_cons] at h
  rcases h with rfl | h
  · exact ⟨0, by simp, rfl⟩
  · obtain ⟨k, h1, h2⟩ := VW h
    exact ⟨k + 1, by simpa using h1, by rw [h2]; omega⟩
theorem Jj4 {τ : Tab} {ρ : Nat -> Nat} {nid : Nat} : ∀ {l : List Ent} {n k : Nat} {e : Ent} {h : Ents}, l[k]? = some e -> JK h (Jc9 τ ρ nid l n) (nid + (n + k)) = some (e.ren τ ρ)
 | [], n, k, e, h, hk => by simp at hk
 | x :: r, n, 0, e, h, hk => by
  simp only [List.getElem?_cons_zero, Option.some.injEq] at hk
  subst hk
  simp only [Jc9, JK]
  rw [Zd fun q hq => by obtain ⟨k, _, h2⟩ := VW hq; omega]
  simp [JU]
 | x :: r, n, k + 1, e, h, hk => by
  simp only [List.getElem?_cons_succ] at hk
  simp only [Jc9, JK]
  have := Jj4 (τ := τ) (ρ := ρ) (nid := nid) (n := n + 1) (h := JU h (nid + n) (x.ren τ ρ)) hk
  rw [show n + (k + 1) = n + 1 + k from by omega]
  exact this
theorem Jev {τ : Tab} {ρ : Nat -> Nat} : ∀ {ids : List Nat} {l : List Ent} {q : Nat × Ent}, q ∈ Jgd τ ρ ids l -> q.1 ∈ ids
 | [], l, q, h => by simp [Jgd] at h
 | i :: is, [], q, h => by simp [Jgd] at h
 | i :: is, e :: r, q, h => by
  simp only [Jgd, List.mem_cons] at h
  rcases h with rfl | h
  · simp
  · exact List.mem_cons_of_mem _ (Jev h)
theorem Jo0 {τ : Tab} {ρ : Nat -> Nat} : ∀ {ids : List Nat} {l : List Ent} {k i : Nat} {e : Ent} {h : Ents}, ids.Nodup -> ids[k]? = some i -> l[k]? = some e -> JK h (Jgd τ ρ ids l) i = some (e.ren τ ρ)
 | [], l, k, i, e, h, hn, h1, h2 => by simp at h1
 | j :: is, [], k, i, e, h, hn, h1, h2 => by simp at h2
 | j :: is, x :: r, 0, i, e, h, hn, h1, h2 => by
  simp only [List.getElem?_cons_zero, Option.some.injEq] at h1 h2
  subst h1 h2
  simp only [Jgd, JK]
  rw [Zd fun q hq => by rintro rfl; exact (List.nodup_cons.1 hn).1 (Jev hq)]
  simp [JU]
 | j :: is, x :: r, k + 1, i, e, h, hn, h1, h2 => by
  simp only [List.getElem?_cons_succ] at h1 h2
  simp only [Jgd, JK]
  exact Jo0 (List.nodup_cons.1 hn).2 h1 h2
theorem Jrp {τ : Tab} {ids : List Nat} {nid : Nat} {r : Res} {h : Ents} {k : Nat} {e : Ent} (hk : r.news[k]? = some e) : JK h (Jda τ ids nid r) (nid + k) = some (e.ren τ (JaA ids nid)) := by
 rw [Jda, Jgv]
 have := Jj4 (τ := τ) (ρ := JaA ids nid) (nid := nid) (n := 0) (h := JK h (Jgd τ (JaA ids nid) ids r.pars)) hk
 rwa [Nat.zero_add] at this
theorem Jrq {τ : Tab} {ids : List Nat} {nid : Nat} {r : Res} {h : Ents} {k i : Nat} {e : Ent} (hn : ids.Nodup) (h1 : ids[k]? = some i) (h2 : r.pars[k]? = some e) (hf : ∀ k, k < r.news.length -> nid + k ≠ i) : JK h (Jda τ ids nid r) i = some (e.ren τ (JaA ids nid)) := by
 rw [Jda, Jgv, Zd fun q hq => by obtain ⟨k, h1, h2⟩ := VW hq; rw [h2, Nat.zero_add]; exact hf k h1]
 exact Jo0 hn h1 h2
theorem Jj5 {τ : Tab} {ids : List Nat} {nid : Nat} {r : Res} {h : Ents} {i : Nat} (h1 : i ∉ ids) (hf : ∀ k, k < r.news.length -> nid + k ≠ i) : JK h (Jda τ ids nid r) i = h i := by
 refine Zd fun q hq => ?_
 rcases List.mem_append.1 hq with hq | hq
 · rintro rfl; exact h1 (Jev hq)
 · obtain ⟨k, h1, h2⟩ := VW hq; rw [h2, Nat.zero_add]; exact hf k h1
theorem Ws {a b : List Ent} {i : Nat} (h : i < 16) : JQ a b i = a[i]? := by simp [JQ, h]
theorem W2 {a b : List Ent} {i : Nat} (h : 16 <= i) : JQ a b i = b[i - 16]? := by
 have : ¬ i < 16 := by omega
 simp [JQ, this]
end Go.Proofs.YthpmachmnoljeaaGreat.Rx
end

noncomputable section
namespace Go.Proofs.YthpmachmnoljeaaGreat.Rx
open Go
set_option linter.unusedVariables false
set_option maxHeartbeats 1000000

def Jc (τ : Tab) (P : Program) (g : FuncId) (sg : Sig) : Prop :=
 ∀ xs es k res, es.length <= 15 -> sg.run xs es k = some res -> ∃ r, k r = some res /\
  ∀ im ow w (us : Array Value), JF τ im ow xs us.toList -> Inv τ im ow (JQ es []) w ->
   Calls P g us w fun e w' => ∃ u im' ow', e = .returned u /\ Jg τ im' ow' r.val u /\ Good τ im ow (JQ es []) w im' ow' (JQ r.pars r.news) w'
def Jo1 (τ : Tab) (D : Array Value -> World -> (Ending -> World -> Prop) -> Prop) (sg : Sig) : Prop :=
 ∀ xs es k res, es.length <= 15 -> sg.run xs es k = some res -> ∃ r, k r = some res /\
  ∀ im ow w (us : Array Value), JF τ im ow xs us.toList -> Inv τ im ow (JQ es []) w ->
   D us w fun e w' => ∃ u im' ow', e = .returned u /\ Jg τ im' ow' r.val u /\ Good τ im ow (JQ es []) w im' ow' (JQ r.pars r.news) w'
def JHj (P : Program) (g : FuncId) (us : Array Value) (w : World) (Φ : Ending -> World -> Prop) : Prop :=
 ∃ u w', (callFunc g us).run P w = .ok (.value u) w' /\ Φ (.returned u) w'
section
variable {τ : Tab} {P : Program} (ok : TabOk τ P) {ow : Own} {h : Ents} {w w' : World}
include ok
theorem JwS {hc : Ents} {im : Im} {own : Bool} {p p' : PV} {U : Upd} (hf : Frz h hc) (hi : Inv τ im ow hc w) (hh : Jgc τ h own p = some (p', U)) :
  ∃ im', Good τ im ow hc w im' ow (JK hc U) w /\ Frz h (JK hc U) /\ ∀ u, Jg τ im ow p u -> Jg τ im' ow p' u := by
 have close : Qs τ h p = some (p', U) -> ∃ im', Good τ im ow hc w im' ow (JK hc U) w /\ Frz h (JK hc U) /\ ∀ u, Jg τ im ow p u -> Jg τ im' ow p' u := by
  intro hcl
  obtain ⟨im', g1, g2, g3, _⟩ := YQ ok p p' U hc im hf hi hcl
  exact ⟨im', g1, g2, fun u hu => (g3 u hu).up⟩
 have same : p' = p -> U = [] -> ∃ im', Good τ im ow hc w im' ow (JK hc U) w /\ Frz h (JK hc U) /\ ∀ u, Jg τ im ow p u -> Jg τ im' ow p' u := by
  rintro rfl rfl
  exact ⟨im, Good.refl hi rfl, hf, fun u hu => hu⟩
 cases p with
 | ptr id q => simp only [Jgc, Option.some.injEq, Prod.mk.injEq] at hh; exact same hh.1.symm hh.2.symm
 | fn f a b => simp only [Jgc, Option.some.injEq, Prod.mk.injEq] at hh; exact same hh.1.symm hh.2.symm
 | rp t v => simp only [Jgc, Option.some.injEq, Prod.mk.injEq] at hh; exact same hh.1.symm hh.2.symm
 | tup l => simp only [Jgc] at hh; cases hh
 | ow e id q off len cap =>
  cases own with
  | true => simp only [Jgc, cond_true, Option.some.injEq, Prod.mk.injEq] at hh; exact same hh.1.symm hh.2.symm
  | false => simp only [Jgc, cond_false] at hh; exact close hh
 | _ => simp only [Jgc] at hh; exact close hh
theorem Jhy : ∀ (fl : List Bool) (l l' : List PV) (U : Upd) (hc : Ents) (im : Im), Frz h hc -> Inv τ im ow hc w -> Jlm τ h fl l = some (l', U) ->
  ∃ im', Good τ im ow hc w im' ow (JK hc U) w /\ Frz h (JK hc U) /\ ∀ us, JF τ im ow l us -> JF τ im' ow l' us
 | fl, [], l', U, hc, im, hf, hi, hh => by
   simp only [Jlm, Option.some.injEq, Prod.mk.injEq] at hh
   obtain ⟨rfl, rfl⟩ := hh
   exact ⟨im, Good.refl hi rfl, hf, fun us hu => hu⟩
 | fl, p :: ps, l', U, hc, im, hf, hi, hh => by
   simp only [Jlm] at hh
   cases h1 : Jgc τ h (fl.headD false) p with
   | none => rw [h1] at hh; cases hh
   | some a =>
    cases h2 : Jlm τ h fl.tail ps with
    | none => rw [h1, h2] at hh; cases hh
    | some b =>
     simp only [h1, h2, Option.some.injEq, Prod.mk.injEq] at hh
     obtain ⟨rfl, rfl⟩ := hh
     obtain ⟨im1, g1, g2, g3⟩ := JwS ok (p' := a.1) (U := a.2) hf hi h1
     obtain ⟨im2, k1, k2, k3⟩ := Jhy fl.tail ps b.1 b.2 (JK hc a.2) im1 g2 g1.inv h2
     rw [WI]
     refine ⟨im2, g1.trans k1, k2, fun us hu => ?_⟩
     simp only [JF] at hu ⊢
     obtain ⟨u, r, rfl, m1, m2⟩ := hu
     exact ⟨u, r, rfl, Jg.mono k1.imX (fun _ _ h => h) _ _ (g3 _ m1), k3 _ (JF.mono g1.imX (fun _ _ h => h) _ _ m2)⟩
theorem Good.stand {im : Im} (hi : Inv τ im ow h w) (hsz : w.heap.size <= w'.heap.size) (hk : ∀ b, b < w.heap.size -> w'.heap[b]? = w.heap[b]?) (hr : Rest w w') : Good τ im ow h w im ow h w' := by
 have _ := ok
 have i1 : ∀ b o, im b = some o -> w'.heap[b]? = some o := fun b o hb => by rw [hk b (QU (hi.imOk b o hb))]; exact hi.imOk b o hb
 have i2 : ∀ i e, h i = some e -> EntRep τ im ow i e w' := fun i e he => EntRep.keep (fun _ _ h => h) (fun _ _ h => h) (fun l b hb _ _ => hk b hb) (fun hf l b hl hb => Live.im_none hi ⟨e, l, he, hf, hl, hb⟩) (hi.ent i e he)
 have inv : Inv τ im ow h w' := ⟨i1, i2, hi.inj, hi.dom⟩
 exact ⟨fun _ _ h => h, fun _ _ h => h, inv, hsz, fun b hb _ => hk b hb, fun b o hb => .inl hb, fun i b hl => .inr ⟨i, hl⟩, hr⟩
theorem Jrr {D : Array Value -> World -> (Ending -> World -> Prop) -> Prop} (hD : ∀ us w Φ Ψ, D us w Φ -> (∀ e w', Φ e w' -> Ψ e w') -> D us w Ψ) {nid : Nat} {ids : List Nat} {xs : List PV} {h1 : Ents} {r : Res} (hlen : ids.length <= 15) (hnd : ids.Nodup) (hcl : We τ h1 ids = true) (hxs : ∀ j ∈ Qu xs, j ∈ ids) (hpl : r.pars.length = ids.length) (hfr : Jeg h1 nid r.news.length = true)
  (hcall : ∀ im ow w (us : Array Value), JF τ im ow (Wi (inn ids) xs) us.toList -> Inv τ im ow (JQ (ids.map fun i => ((h1 i).getD .dead).ren τ (inn ids)) []) w ->
    D us w fun e w' => ∃ u im' ow', e = .returned u /\ Jg τ im' ow' r.val u /\ Good τ im ow (JQ (ids.map fun i => ((h1 i).getD .dead).ren τ (inn ids)) []) w im' ow' (JQ r.pars r.news) w')
  {im : Im} {us : Array Value} (hus : JF τ im ow xs us.toList) (hi : Inv τ im ow h1 w) :
    D us w fun e w' => ∃ u im' ow', e = .returned u /\ Jg τ im' ow' (r.val.ren (JaA ids nid)) u /\ Good τ im ow h1 w im' ow' (JK h1 (Jda τ ids nid r)) w' := by
 have _ := ok
 have hin : ∀ i ∈ ids, ∃ e, h1 i = some e /\ ∀ j ∈ e.ids τ, j ∈ ids := by
  intro i hm
  have := List.all_eq_true.1 hcl i hm
  cases he : h1 i with
  | none => rw [he] at this; cases this
  | some e =>
    rw [he] at this
    exact ⟨e, rfl, fun j hj => elem_iff.1 (List.all_eq_true.1 this j hj)⟩
 have hnew : ∀ k, k < r.news.length -> ∀ i ∈ ids, nid + k ≠ i := by
  rintro k hk i hm rfl
  obtain ⟨e, he, _⟩ := hin _ hm
  rw [Jgu hfr hk] at he; cases he
 let ow1 : Own := fun j => if j < ids.length then ow (ids.getD j 0) else none
 have hv : View τ ids (inn ids) ow h1 ow1 (JQ (ids.map fun i => ((h1 i).getD .dead).ren τ (inn ids)) []) := by
  refine { ent := fun i hm => ?_, own := fun i hm => ?_, only := fun j hj => ?_, inj := fun i hi' j hj he => ?_, closed := fun i hm e he j hj => ?_ }
  · obtain ⟨k, hk, hkl⟩ := GH hm
    obtain ⟨e, he, _⟩ := hin i hm
    rw [Zc hnd hk, Ws (by omega), List.getElem?_map, hk, he]
    simp [he]
  · obtain ⟨k, hk, hkl⟩ := GH hm
    rw [Zc hnd hk]
    simp only [ow1, hkl, if_true, Jhx hk]
  · have hlt : j < ids.length := by
      rcases hj with ⟨e, hj⟩ | ⟨l, hj⟩
      · by_cases h16 : j < 16
        · rw [Ws h16, List.getElem?_map] at hj
          cases hk : ids[j]? with
          | none => rw [hk] at hj; cases hj
          | some i => exact (List.getElem?_eq_some_iff.1 hk).1
        · rw [W2 (by omega)] at hj; simp at hj
      · simp only [ow1] at hj
        split at hj
        · assumption
        · cases hj
    exact ⟨ids[j], List.getElem_mem hlt, Zc hnd (List.getElem?_eq_getElem hlt)⟩
  · obtain ⟨k, hk, _⟩ := GH hi'
    obtain ⟨m, hm, _⟩ := GH hj
    rw [Zc hnd hk, Zc hnd hm] at he
    subst he
    rw [hk] at hm; cases hm; rfl
  · obtain ⟨e', he', hc'⟩ := hin i hm
    rw [he] at he'; cases he'
    exact hc' j hj
 have hargs := JF.ren (ρ := inn ids) xs ow ow1 (hv.reps hxs) us.toList hus
 refine hD _ _ _ _ (hcall im ow1 w us hargs (hv.inv hi)) fun e w' hR => ?_
 obtain ⟨u, im2, ow2, rfl, hval, G⟩ := hR
 let ow' : Own := fun g => if nid <= g /\ g < nid + r.news.length then ow2 (16 + (g - nid)) else ow g
 have hdom : ∀ j e, JQ r.pars r.news j = some e -> (j < ids.length /\ ids[j]? = some (ids.getD j 0) /\ r.pars[j]? = some e) ∨ (16 <= j /\ j - 16 < r.news.length /\ r.news[j - 16]? = some e) := by
  intro j e he
  by_cases h16 : j < 16
  · rw [Ws h16] at he
    have hlt := (List.getElem?_eq_some_iff.1 he).1
    rw [hpl] at hlt
    exact .inl ⟨hlt, by simp [List.getD_eq_getElem?_getD, List.getElem?_eq_getElem hlt], he⟩
  · rw [W2 (by omega)] at he
    exact .inr ⟨by omega, (List.getElem?_eq_some_iff.1 he).1, he⟩
 have hmemj : ∀ j, ids[j]? = some (ids.getD j 0) -> ids.getD j 0 ∈ ids := fun j hj => List.mem_of_getElem? hj
 have howj : ∀ j l, ow2 j = some l -> ow' (JaA ids nid j) = some l := by
  intro j l hl
  obtain ⟨e, he⟩ := G.inv.dom j l hl
  rcases hdom j e he with ⟨q1, q2, q3⟩ | ⟨q1, q2, q3⟩
  · rw [Yi (by omega)]
    have hm := hmemj j q2
    obtain ⟨e0, he0, _⟩ := hin _ hm
    obtain ⟨l0, hl0, _⟩ := hi.ent _ e0 he0
    have h10 : ow1 j = some l0 := by simp only [ow1, q1, if_true]; exact hl0
    have h20 := G.owX j l0 h10
    rw [hl] at h20; cases h20
    have hnr : ¬ (nid <= ids.getD j 0 /\ ids.getD j 0 < nid + r.news.length) := by
      rintro ⟨r1, r2⟩
      exact hnew (ids.getD j 0 - nid) (by omega) _ hm (by omega)
    simp only [ow', if_neg hnr]
    exact hl0
  · rw [Yj q1]
    have hr' : nid <= nid + (j - 16) /\ nid + (j - 16) < nid + r.news.length := ⟨by omega, by omega⟩
    simp only [ow', if_pos hr']
    rw [show 16 + (nid + (j - 16) - nid) = j from by omega]
    exact hl
 have bk : Back τ ids (inn ids) (JaA ids nid) ow h1 ow2 (JQ r.pars r.news) ow' (JK h1 (Jda τ ids nid r)) := by
  refine { back := fun i hm => ?_, ent := fun j e he => ?_, own := howj, fresh := fun j e he => ?_, ent' := fun g => ?_, inj := fun j k e f he hf hs => ?_ }
  · obtain ⟨k, hk, hkl⟩ := GH hm
    rw [Zc hnd hk, Yi (by omega), Jhx hk]
  · rcases hdom j e he with ⟨q1, q2, q3⟩ | ⟨q1, q2, q3⟩
    · rw [Yi (by omega)]
      exact Jrq hnd q2 q3 fun k hk => hnew k hk _ (hmemj j q2)
    · rw [Yj q1]
      exact Jrp q3
  · rcases hdom j e he with ⟨q1, q2, q3⟩ | ⟨q1, q2, q3⟩
    · exact .inl ⟨_, hmemj j q2, Zc hnd q2⟩
    · rw [Yj q1]; exact .inr (Jgu hfr q2)
  · by_cases hg : nid <= g /\ g < nid + r.news.length
    · have hlt : g - nid < r.news.length := by omega
      refine .inl ⟨16 + (g - nid), r.news[g - nid], ?_, by rw [Yj (by omega)]; omega⟩
      rw [W2 (by omega), show 16 + (g - nid) - 16 = g - nid from by omega, List.getElem?_eq_getElem hlt]
    · by_cases hm : g ∈ ids
      · obtain ⟨k, hk, hkl⟩ := GH hm
        have hlt : k < r.pars.length := by omega
        refine .inl ⟨k, r.pars[k], by rw [Ws (by omega), List.getElem?_eq_getElem hlt], by rw [Yi (by omega), Jhx hk]⟩
      · refine .inr ⟨Jj5 hm fun k hk => by omega, by simp only [ow', if_neg hg], hm⟩
  · rcases hdom j e he with ⟨q1, q2, q3⟩ | ⟨q1, q2, q3⟩ <;> rcases hdom k f hf with ⟨p1, p2, p3⟩ | ⟨p1, p2, p3⟩
    · rw [Yi (by omega), Yi (by omega)] at hs
      rw [← hs] at p2
      exact Jsf hnd q2 p2
    · rw [Yi (by omega), Yj p1] at hs
      exact (hnew (k - 16) p2 _ (hmemj j q2) hs.symm).elim
    · rw [Yj q1, Yi (by omega)] at hs
      exact (hnew (j - 16) q2 _ (hmemj k p2) hs).elim
    · rw [Yj q1, Yj p1] at hs
      omega
 exact ⟨u, im2, ow', rfl, Jg.ren r.val ow2 ow' (fun i _ l hl => howj i l hl) u hval, Good.lift hi hv G bk⟩
theorem Jgw {D : Array Value -> World -> (Ending -> World -> Prop) -> Prop} (hD : ∀ us w Φ Ψ, D us w Φ -> (∀ e w', Φ e w' -> Ψ e w') -> D us w Ψ) {sg : Sig} {nid : Nat} {args : List PV} {k : PV -> Upd -> Option Res} {res : Res} (hc : Jo1 τ D sg) (hh : Jln τ sg nid h args k = some res) :
  ∃ v U, k v U = some res /\ ∀ im ow w (us : Array Value), JF τ im ow args us.toList -> Inv τ im ow h w -> D us w fun e w' => ∃ u im' ow', e = .returned u /\ Jg τ im' ow' v u /\ Good τ im ow h w im' ow' (JK h U) w' := by
 unfold Jln at hh
 cases ha : Jlm τ h sg.own args with
 | none => rw [ha] at hh; cases hh
 | some a =>
  obtain ⟨xs, u⟩ := a
  rw [ha] at hh
  simp only at hh
  generalize XU τ (JK h u) 40 (Qu xs) [] = ids at hh
  cases hck : (decide (ids.length <= 15) && Xw ids && We τ (JK h u) ids && (Qu xs).all (fun j => ids.elem j)) with
  | false => simp only [hck, cond_false] at hh; cases hh
  | true =>
   simp only [hck, cond_true] at hh
   have q1 := Bool.and_eq_true_iff.1 hck
   have q2 := Bool.and_eq_true_iff.1 q1.1
   have q3 := Bool.and_eq_true_iff.1 q2.1
   have hlen : ids.length <= 15 := of_decide_eq_true q3.1
   have hnd := YU q3.2
   have hxs : ∀ j ∈ Qu xs, j ∈ ids := fun j hj => elem_iff.1 (List.all_eq_true.1 q1.2 j hj)
   obtain ⟨r, hr, hcall⟩ := hc _ _ _ _ (by simpa using hlen) hh
   cases hp : (ids.isEmpty && plain r.val && r.news.isEmpty) with
   | true =>
    simp only [hp, cond_true] at hr
    simp only [Bool.and_eq_true, List.isEmpty_iff] at hp
    obtain ⟨⟨rfl, hpv⟩, hn0⟩ := hp
    refine ⟨r.val, [], hr, fun im ow w us hus hi => ?_⟩
    obtain ⟨im1, g1, _, g3⟩ := Jhy ok sg.own args xs u h im (Frz.refl h) hi ha
    have hemp : ∀ i, (JQ (List.map (fun i => ((JK h u i).getD .dead).ren τ (inn [])) []) [] : Ents) i = none := fun i => by unfold JQ; split <;> rfl
    have hInv0 : Inv τ im1 JB (JQ (List.map (fun i => ((JK h u i).getD .dead).ren τ (inn [])) []) []) w := { imOk := g1.inv.imOk, ent := fun i e he => (by rw [hemp] at he; cases he), inj := fun i j b h1 _ => (by obtain ⟨e, l, q, _⟩ := h1; rw [hemp] at q; cases q), dom := fun i l hl => by cases hl }
    have hxs' : JF τ im1 JB (Wi (inn []) xs) us.toList := JF.ren xs ow JB (fun i hi' => by cases hxs i hi') us.toList (g3 _ hus)
    refine hD _ _ _ _ (hcall im1 JB w us hxs' hInv0) fun e w' hR => ?_
    obtain ⟨v, im2, ow2, rfl, hval, G⟩ := hR
    exact ⟨v, im, ow, rfl, Jg.plain r.val ow2 ow v hpv hval, Good.stand ok hi G.size (fun b hb => G.keep b hb fun i hl => by obtain ⟨e, l, q, _⟩ := hl; rw [hemp] at q; cases q) G.rest⟩
   | false =>
    simp only [hp, cond_false] at hr
    cases hk2 : (decide (r.pars.length = ids.length) && Jeg (JK h u) nid r.news.length) with
    | false => simp only [hk2, cond_false] at hr; cases hr
    | true =>
     simp only [hk2, cond_true] at hr
     have q4 := Bool.and_eq_true_iff.1 hk2
     refine ⟨_, _, hr, fun im ow w us hus hi => ?_⟩
     obtain ⟨im1, g1, _, g3⟩ := Jhy ok sg.own args xs u h im (Frz.refl h) hi ha
     refine hD _ _ _ _ (Jrr ok hD hlen hnd q2.2 hxs (of_decide_eq_true q4.1) q4.2 hcall (g3 _ hus) g1.inv) fun e w' hR => ?_
     obtain ⟨v, im2, ow2, rfl, hval, G⟩ := hR
     exact ⟨v, im2, ow2, rfl, hval, by rw [WI]; exact g1.trans G⟩
end
end Go.Proofs.YthpmachmnoljeaaGreat.Rx
end

noncomputable section
namespace Go.Proofs.YthpmachmnoljeaaGreat.Rx
open Go
set_option linter.unusedVariables false
set_option maxHeartbeats 1000000

theorem JcA (hp : List (Nat × Ent)) (i : Nat) (e : Ent) : JA (JjN hp i e) = JU (JA hp) i e := by
 induction hp with
 | nil =>
  funext j
  simp only [JjN, JA, JU]
  by_cases hj : j = i
  · subst hj; simp
  · have : (i == j) = false := by simp; omega
    simp [this, hj]
 | cons x r ih =>
  obtain ⟨k, y⟩ := x
  funext j
  cases hk : k == i with
  | true =>
    obtain rfl : k = i := by simpa using hk
    simp only [JjN, hk, cond_true, JA, JU]
    by_cases hj : j = k
    · subst hj; simp
    · have : (k == j) = false := by simp; omega
      simp [this, hj]
  | false =>
    have hne : k ≠ i := by simpa using hk
    simp only [JjN, hk, cond_false, JA, ih, JU]
    by_cases hj : j = i
    · subst hj; simp [hk]
    · simp [hj]
theorem XY : ∀ (U : Upd) (hp : List (Nat × Ent)), JA (Jre hp U) = JK (JA hp) U
 | [], hp => rfl
 | (i, e) :: r, hp => by simp only [Jre, JK, XY r, JcA]

theorem Jgx {α : Type} (p : PV) (k : PV -> α) : Jlo p k = k p := by
 cases p with
 | sc v => cases v <;> rfl
 | _ => rfl
theorem Jgy {α : Type} : ∀ (l : List PV) (k : List PV -> α), Jhi l k = k l
 | [], k => rfl
 | p :: ps, k => by simp only [Jhi, Jgx, Jgy ps]
theorem Jgz {α : Type} : ∀ (l : List (Nat × Ent)) (k : List (Nat × Ent) -> α), Jct l k = k l
 | [], k => rfl
 | (i, e) :: r, k => by cases e <;> simp only [Jct, Jgx, Jgz r]
theorem Jj6 {τ : Tab} (h : ∀ β x k, τ.hold β x k = k x) (p : PV) (k : PV -> Option Res) : JjO τ p k = k p := by
 cases p with
 | sc v => cases v <;> simp only [JjO, h]
 | _ => simp only [JjO, h]
theorem Jj7 {τ : Tab} (h : ∀ β x k, τ.hold β x k = k x) : ∀ (u : Upd) (k : Upd -> Option Res), Jgo τ u k = k u
 | [], k => rfl
 | (i, e) :: r, k => by cases e <;> simp only [Jgo, Jj6 h, Jj7 h r, h]
theorem JgA {τ : Tab} (h : ∀ β x k, τ.hold β x k = k x) (v : PV) (u : Upd) (k : PV -> Upd -> Option Res) : Jhj τ v u k = k v u := by simp only [Jhj, Jj6 h, Jj7 h]
theorem JgB {α : Type} (s : Sta) (k : Sta -> α) : Jei s k = k s := by simp only [Jei, Jgy, Jgz]
def FrR (τ : Tab) (im : Im) (ow : Own) (fr : List PV) (a : Act) : Prop := a.tmps.size = fr.length /\ a.defers = [] /\ ∀ i, Jg τ im ow (fr.getD i .top) (a.tmps.getD i undef)
def Yg (fr : List PV) (d : Option Nat) (v : PV) : List PV := match d with | some d => fr.set d v | none => fr
theorem Jhz (s : Sta) (d : Option Nat) (v : PV) : (s.put d v).fr = Yg s.fr d v := by cases d <;> rfl
theorem Jsg (s : Sta) (d : Option Nat) (v : PV) : (s.put d v).hp = s.hp := by cases d <;> rfl
section
variable {τ : Tab} {P : Program} {im im' : Im} {ow ow' : Own} {fr : List PV} {a : Act}
theorem FrR.mono (him : ∀ b o, im b = some o -> im' b = some o) (how : ∀ i l, ow i = some l -> ow' i = some l) (h : FrR τ im ow fr a) : FrR τ im' ow' fr a := ⟨h.1, h.2.1, fun i => Jg.mono him how _ _ (h.2.2 i)⟩
theorem FrR.put {d : Option Nat} {v : PV} {u : Value} (him : ∀ b o, im b = some o -> im' b = some o) (how : ∀ i l, ow i = some l -> ow' i = some l) (h : FrR τ im ow fr a) (hv : Jg τ im' ow' v u) : FrR τ im' ow' (Yg fr d v) (a.put d u) := by
 have h' := h.mono him how
 cases d with
 | none => exact h'
 | some d =>
  refine ⟨by simp [Act.put, Yg, h.1], h.2.1, fun i => ?_⟩
  simp only [Yg, Act.put, List.getD_eq_getElem?_getD, List.getElem?_set, Array.getD_eq_getD_getElem?, Array.getElem?_setIfInBounds]
  have hi := h'.2.2 i
  simp only [List.getD_eq_getElem?_getD, Array.getD_eq_getD_getElem?] at hi
  by_cases hd : d = i
  · subst hd
    by_cases hlt : d < fr.length
    · have : d < a.tmps.size := by rw [h.1]; exact hlt
      simp [hlt, this, hv]
    · have : ¬ d < a.tmps.size := by rw [h.1]; exact hlt
      have e1 : fr[d]? = none := List.getElem?_eq_none (by omega)
      simp only [if_true, hlt, if_false, this] at hi ⊢
      simp [Jg]
  · simp only [if_neg hd]; exact hi
theorem Jsh (h : FrR τ im ow fr a) (x : Operand) : Jg τ im ow (rdF fr x) (a.eval x) := by
 cases x with
 | tmp t => exact h.2.2 t
 | const v =>
  cases v <;> first | (simp only [rdF, Jg, Act.eval]; done) | (simp only [rdF, Jg, Act.eval, Value.oneCell']; exact ⟨trivial, trivial⟩)
 | func f => simp only [rdF, Jg, Act.eval]; exact ⟨#[], #[], rfl, by simp [JF], by simp [JF]⟩
 | global g => simp only [rdF, Jg]

theorem JF.app : ∀ {l m : List PV} {us vs : List Value}, JF τ im ow l us -> JF τ im ow m vs -> JF τ im ow (l ++ m) (us ++ vs)
 | [], m, us, vs, h1, h2 => by simp only [JF] at h1; subst h1; simpa using h2
 | p :: ps, m, us, vs, h1, h2 => by
  simp only [JF] at h1
  obtain ⟨u, r, rfl, g1, g2⟩ := h1
  simp only [List.cons_append, JF]
  exact ⟨u, _, rfl, g1, JF.app g2 h2⟩
def JhA (τ : Tab) (P : Program) (o : Oper) (fr : List PV) (h : Ents) (v : PV) (U : Upd) : Prop :=
 ∀ (im : Im) (ow : Own) (a : Act) (w : World), (∀ x ∈ o.op.operands, Jg τ im ow (rdF fr x) (a.eval x)) -> Inv τ im ow h w ->
  ∀ (K : Act -> World -> Prop) (Q : Exit -> Act -> World -> Prop), (∀ u w' im' ow', Jg τ im' ow' v u -> Good τ im ow h w im' ow' (JK h U) w' -> K (a.put o.dst u) w') -> o.wp P a w K Q
def Jp (τ : Tab) (P : Program) (F : Fns) : Prop := ∀ g sg, F g = some sg -> (Jc τ P g sg /\ Enters P g) ∨ Jo1 τ (JHj P g) sg
variable (ok : TabOk τ P)
include ok
theorem Jj8 {F : Fns} (hF : Jp τ P F) {o : Oper} {h : Ents} {k : PV -> Upd -> Option Res} {res : Res} (hh : JoU τ F o fr h k = some res) : ∃ v U, k v U = some res /\ JhA τ P o fr h v U := by
 unfold JoU at hh
 cases hu : Jeh τ (rdF fr) o with
 | none =>
  rw [hu] at hh
  simp only at hh
  cases he : Wj τ o (rdF fr) h with
  | none => rw [he] at hh; cases hh
  | some q =>
   obtain ⟨c, v, u⟩ := q
   rw [he] at hh
   simp only at hh
   cases hc : (c && (!JrZ o.op || (h (Qb o)).isNone)) with
   | false => rw [hc] at hh; cases hh
   | true =>
     rw [hc, cond_true] at hh
     have hc2 := Bool.and_eq_true_iff.1 hc
     refine ⟨v, u, hh, fun im ow a w hop hi K Q hK => ?_⟩
     have hov := JwR ok he hc2.1 (fun hn => by simpa [hn] using hc2.2)
     obtain ⟨u', w', im', ow', g1, g2, g3⟩ := hov im ow a w hop hi
     rcases g1 with g1 | ⟨g1, rfl⟩
     · exact Jde g1 (hK _ _ _ _ g3 g2)
     · exact Jlq g1 (hK _ _ _ _ g3 g2)
 | some q =>
  obtain ⟨g, xs⟩ := q
  rw [hu] at hh
  simp only at hh
  cases hg : F g with
  | none => rw [hg] at hh; cases hh
  | some sg =>
   rw [hg] at hh
   simp only at hh
   have hop2 : ∀ (im : Im) (ow : Own) (a : Act), (∀ x ∈ o.op.operands, Jg τ im ow (rdF fr x) (a.eval x)) -> ∃ us, JF τ im ow xs us.toList /\ ∀ w, ∃ r, (execOp a.eval o).run P w = r /\ r = (callFunc g us).run P w := by
     intro im ow a hop
     unfold Jeh at hu
     cases ho : o.op with
     | call cl =>
       rw [ho] at hu
       simp only at hu
       cases hcl : cl.callee with
       | value f =>
        rw [hcl] at hu
        simp only at hu
        split at hu
        · rename_i g' fa fb hf
          simp only [Option.some.injEq, Prod.mk.injEq] at hu
          obtain ⟨rfl, rfl⟩ := hu
          have hfv := hop f (by simp [ho, Op.operands, Call.operands, hcl])
          rw [hf] at hfv
          simp only [Jg] at hfv
          obtain ⟨x, y, hx1, hx2, hx3⟩ := hfv
          have hargs := Jcz ok (rd := rdF fr) cl.argTypes.toList a.eval cl.args.toList 0 (im := im) (ow := ow) fun z hz => hop z (by simp only [ho, Op.operands, Call.operands, hcl]; simp; right; exact Array.mem_toList_iff.1 hz)
          have hrep : JF τ im ow (fa ++ (cl.args.toList.zipIdx.map fun (x, i) => match cl.argTypes.toList[i]? with | some t => J2 τ t (rdF fr x) | none => rdF fr x) ++ fb) (x ++ cl.args.map a.eval ++ y).toList := by
           rw [Array.toList_append, Array.toList_append, Array.toList_map]
           exact JF.app (JF.app hx2 hargs) hx3
          refine ⟨_, hrep, fun w => ⟨_, rfl, ?_⟩⟩
          simp only [execOp, ho, resolve, hcl, hx1, Deferred.ofValue, Sem.run_bind, Sem.run_pure, Result.andThen_ok, invoke]
        · cases hu
       | _ => rw [hcl] at hu; cases hu
     | _ => rw [ho] at hu; cases hu
   rcases hF g sg hg with ⟨hc, hen⟩ | hc
   · obtain ⟨v, U, hk, hcall⟩ := Jgw (D := Calls P g) ok (fun _ _ _ _ h1 h2 => h1.mono h2) hc hh
     refine ⟨v, U, hk, fun im ow a w hop hi K Q hK => ?_⟩
     obtain ⟨us, hrep, hr⟩ := hop2 im ow a hop
     obtain ⟨r, hrun, hrr⟩ := hr w
     rw [hrr, hen us w] at hrun
     unfold Oper.wp
     rw [hrun, Oper.upon_enter]
     refine (hcall im ow w _ hrep hi).mono fun e w' hR => ?_
     obtain ⟨u, im', ow', rfl, q1, q2⟩ := hR
     exact hK u w' im' ow' q1 q2
   · obtain ⟨v, U, hk, hcall⟩ := Jgw (D := JHj P g) ok (fun _ _ _ _ h1 h2 => by obtain ⟨u, w', h3, h4⟩ := h1; exact ⟨u, w', h3, h2 _ _ h4⟩) hc hh
     refine ⟨v, U, hk, fun im ow a w hop hi K Q hK => ?_⟩
     obtain ⟨us, hrep, hr⟩ := hop2 im ow a hop
     obtain ⟨r, hrun, hrr⟩ := hr w
     obtain ⟨u, w', h3, u', im', ow', h5, q1, q2⟩ := hcall im ow w _ hrep hi
     rw [hrr, h3] at hrun
     cases h5
     exact Jde hrun (hK u w' im' ow' q1 q2)
omit ok
theorem Jew {ops : Array Oper} {o : Oper} {k : Bool -> List PV -> Option Res} {res : Res} (hh : JdM ops o fr k = some res) :
  ∃ wt fr', k wt fr' = some res /\ fr' = fr /\ ∀ (im : Im) (ow : Own) (fr2 : List PV) (a : Act), FrR τ im ow fr2 a -> (∀ x ∈ QP ops o, fr2.getD x .top = fr.getD x .top) -> Region.wanted o (yielded ops a.tmps) = wt := by
 unfold JdM at hh
 cases hg : o.guard with
 | none =>
  rw [hg] at hh
  exact ⟨true, fr, hh, rfl, fun _ _ _ _ _ _ => by simp [Region.wanted, hg]⟩
 | some q =>
  obtain ⟨g, want⟩ := q
  rw [hg] at hh
  simp only at hh
  cases hd : (ops.toList[g]?).bind (·.dst) with
  | none => rw [hd] at hh; cases hh
  | some d =>
   rw [hd] at hh
   simp only at hh
   split at hh
   · rename_i b hb
     have hset : fr.set d (.sc (.bool b)) = fr := by
      rw [← hb]
      apply List.ext_getElem?
      intro i
      rw [List.getElem?_set]
      split
      · rename_i hi
        subst hi
        split
        · rename_i hlt; simp [List.getD_eq_getElem?_getD, List.getElem?_eq_getElem hlt]
        · rename_i hlt; rw [List.getElem?_eq_none (by omega)]
      · rfl
     have hgs : QP ops o = [d] := by simp only [QP, hg, hd]
     have hy : ∀ (im : Im) (ow : Own) (fr2 : List PV) (a : Act), FrR τ im ow fr2 a -> (∀ x ∈ QP ops o, fr2.getD x .top = fr.getD x .top) -> yielded ops a.tmps g = some b := by
      intro im ow fr2 a hf hag
      have h1 := hf.2.2 d
      have hb := (hag d (by rw [hgs]; simp)).trans hb
      rw [hb] at h1
      simp only [Jg] at h1
      have hlt : d < fr2.length := by
        rcases Nat.lt_or_ge d fr2.length with h | h
        · exact h
        · rw [List.getD_eq_getElem?_getD, List.getElem?_eq_none h] at hb; cases hb
      have hlt2 : d < a.tmps.size := by rw [hf.1]; exact hlt
      have h2 : a.tmps[d]? = some (.bool b) := by
        rw [Array.getElem?_eq_getElem hlt2]
        have := h1.1
        simpa [Array.getD, hlt2] using this
      have h3 : (ops[g]?).bind (·.dst) = some d := by rw [← hd]; simp
      simp [yielded, h3, h2]
     cases b with
     | true =>
      simp only [cond_true] at hh
      exact ⟨_, _, hh, hset, fun im ow fr2 a hf hag => by cases want <;> simp [Region.wanted, hg, hy im ow fr2 a hf hag]⟩
     | false =>
      simp only [cond_false] at hh
      exact ⟨_, _, hh, hset, fun im ow fr2 a hf hag => by cases want <;> simp [Region.wanted, hg, hy im ow fr2 a hf hag]⟩
   · rename_i l hb
     cases l with
     | cons _ _ => cases hh
     | nil =>
      have hgs : QP ops o = [d] := by simp only [QP, hg, hd]
      have hh : k false fr = some res := hh
      refine ⟨false, fr, hh, rfl, fun im ow fr2 a hf hag => ?_⟩
      have h1 := hf.2.2 d
      rw [(hag d (by rw [hgs]; simp)).trans hb] at h1
      have h2 : a.tmps.getD d undef = undef := by
        simp only [Jg, JF] at h1
        obtain ⟨us, h1, h3⟩ := h1
        rw [h1, show us = #[] from Array.toList_inj.1 h3]; rfl
      have h3 : (ops[g]?).bind (·.dst) = some d := by rw [← hd]; simp
      have hy : yielded ops a.tmps g = none := by
        unfold yielded
        rw [h3]
        show (match a.tmps[d]? with | some (.bool b) => some b | _ => none) = none
        rw [Array.getD_eq_getD_getElem?] at h2
        cases h4 : a.tmps[d]? with
        | none => rfl
        | some x => rw [h4] at h2; have h2 : x = undef := h2; rw [h2]; rfl
      simp [Region.wanted, hg, hy]
   · cases hh
include ok
theorem Jex {F : Fns} (hF : Jp τ P F) {ops : Array Oper} : ∀ {rest : List Oper} {s : Sta} {k : Sta -> Option Res} {res : Res}, Jgp τ F ops rest s k = some res ->
  ∃ s', k s' = some res /\ ∀ (im : Im) (ow : Own) (a : Act) (w : World), FrR τ im ow s.fr a -> Inv τ im ow (JA s.hp) w -> ∀ Q : Exit -> Act -> World -> Prop,
   (∀ a' w' im' ow', Good τ im ow (JA s.hp) w im' ow' (JA s'.hp) w' -> FrR τ im' ow' s'.fr a' -> Q .normal a' w') -> wpList P ops Q rest a w
 | [], s, k, res, hh => ⟨s, hh, fun im ow a w hf hi Q hQ => wpList_nil (hQ a w im ow (Good.refl hi rfl) hf)⟩
 | o :: r, s, k, res, hh => by
   simp only [Jgp] at hh
   obtain ⟨wt, fr', hk, rfl, hw⟩ := Jew (τ := τ) hh
   cases wt with
   | true =>
    simp only [cond_true] at hk
    obtain ⟨v, U, hk2, hst⟩ := Jj8 ok hF hk
    rw [JgA ok.hold, JgB] at hk2
    obtain ⟨s', hk3, hrec⟩ := Jex hF hk2
    refine ⟨s', hk3, fun im ow a w hf hi Q hQ => wpList_step fun K hK => ?_⟩
    rw [hw im ow _ a hf (fun _ _ => rfl), if_pos rfl]
    refine hst im ow a w (fun x _ => Jsh hf x) hi K Q fun u w' im' ow' hv hg => hK _ _ ?_
    refine hrec im' ow' _ w' ?_ ?_ Q fun a2 w2 im2 ow2 g2 f2 => hQ a2 w2 im2 ow2 ?_ f2
    · rw [Jhz]; exact hf.put hg.imX hg.owX hv
    · rw [XY]; exact hg.inv
    · rw [XY] at g2; exact hg.trans g2
   | false =>
    simp only [cond_false] at hk
    obtain ⟨s', hk3, hrec⟩ := Jex hF hk
    refine ⟨s', hk3, fun im ow a w hf hi Q hQ => wpList_step fun K hK => ?_⟩
    rw [hw im ow _ a hf (fun _ _ => rfl), if_neg (by simp)]
    refine hK _ _ ?_
    refine hrec im ow _ w ?_ ?_ Q fun a2 w2 im2 ow2 g2 f2 => hQ a2 w2 im2 ow2 ?_ f2
    · rw [Jhz]; exact hf.put (fun _ _ h => h) (fun _ _ h => h) (by simp only [Jg, JF]; exact ⟨#[], rfl, rfl⟩)
    · rw [Jsg]; exact hi
    · rw [Jsg] at g2; exact g2
end
end Go.Proofs.YthpmachmnoljeaaGreat.Rx
end

noncomputable section
namespace Go.Proofs.YthpmachmnoljeaaGreat.Rx
open Go
set_option linter.unusedVariables false
set_option maxHeartbeats 1000000

mutual
theorem PV.ren_id : ∀ p : PV, p.ren (fun i => i) = p
 | .top => rfl
 | .sc v => rfl
 | .ro _ _ _ _ => rfl
 | .ow _ _ _ _ _ _ => rfl
 | .ptr _ _ => rfl
 | .rp _ _ => rfl
 | .ar _ _ => rfl
 | .st t fs => by simp only [PV.ren, Ze fs]
 | .tup l => by simp only [PV.ren, Ze l]
 | .va e l => by simp only [PV.ren, Ze l]
 | .vr t v => by simp only [PV.ren, PV.ren_id v]
 | .fn f a b => by simp only [PV.ren, Ze a, Ze b]
theorem Ze : ∀ l : List PV, Wi (fun i => i) l = l
 | [] => rfl
 | p :: ps => by simp only [Wi, PV.ren_id p, Ze ps]
end
theorem Ent.ren_id {τ : Tab} (e : Ent) : e.ren τ (fun i => i) = e := by
 cases e with
 | box z t v => simp only [Ent.ren, PV.ren_id]
 | vec z t n l => simp only [Ent.ren, Ze]; cases τ.isPtr t <;> rfl
 | dead => rfl
theorem QV : ∀ (U : Upd) (j : Nat), (∃ e, (∃ q ∈ U, q.1 = j) /\ ∀ h : Ents, JK h U j = some e) ∨ ((∀ q ∈ U, q.1 ≠ j) /\ ∀ h : Ents, JK h U j = h j)
 | [], j => .inr ⟨fun q hq => (by cases hq), fun h => rfl⟩
 | (i, e) :: r, j => by
  rcases QV r j with ⟨e', ⟨q, hq, hj⟩, h1⟩ | ⟨h1, h2⟩
  · exact .inl ⟨e', ⟨q, List.mem_cons_of_mem _ hq, hj⟩, fun h => h1 _⟩
  · by_cases hj : i = j
    · subst hj
      refine .inl ⟨e, ⟨(i, e), List.mem_cons_self, rfl⟩, fun h => ?_⟩
      simp only [JK, h2]; simp [JU]
    · refine .inr ⟨fun q hq => ?_, fun h => ?_⟩
      · rcases List.mem_cons.1 hq with rfl | hq
        · exact hj
        · exact h1 q hq
      · simp only [JK, h2, JU]; rw [if_neg (Ne.symm hj)]
section
variable {τ : Tab} {P : Program} (ok : TabOk τ P)
include ok
theorem JlS {o : Oper} {fr fr' : List PV} {h h' : Ents} {er : List Nat} {v : PV} {U : Upd} (hs : JhA τ P o fr (Jej h er) v U) (hcl : We τ h er = true) (hops : ∀ j ∈ Qu (o.op.operands.toList.map (rdF fr)), j ∈ er)
   (hrd : ∀ x ∈ o.op.operands, rdF fr' x = rdF fr x) (hag : ∀ i ∈ er, h' i = h i) (hnew : ∀ q ∈ U, q.1 ∉ er -> h' q.1 = none) : JhA τ P o fr' h' v U := by
 have _ := ok
 intro im ow a w hop hi K Q hK
 let ow1 : Own := fun j => if j ∈ er then ow j else none
 have hk : ∀ j, Jej h er j = if j ∈ er then h' j else none := by
   intro j
   unfold Jej
   by_cases hj : j ∈ er
   · rw [elem_iff.2 hj, cond_true, if_pos hj, hag j hj]
   · have : er.elem j = false := by
       cases he : er.elem j with
       | false => rfl
       | true => exact (hj (elem_iff.1 he)).elim
     rw [this, cond_false, if_neg hj]
 have hin : ∀ i ∈ er, ∃ e, h' i = some e /\ ∀ j ∈ e.ids τ, j ∈ er := by
   intro i hm
   have := List.all_eq_true.1 hcl i hm
   rw [hag i hm]
   cases he : h i with
   | none => rw [he] at this; cases this
   | some e =>
     rw [he] at this
     exact ⟨e, rfl, fun j hj => elem_iff.1 (List.all_eq_true.1 this j hj)⟩
 have hv : View τ er (fun i => i) ow h' ow1 (Jej h er) := by
   refine { ent := fun i hm => ?_, own := fun i hm => ?_, only := fun j hj => ?_, inj := fun i _ j _ he => he, closed := fun i hm e he j hj => ?_ }
   · rw [hk, if_pos hm]
     obtain ⟨e, he, _⟩ := hin i hm
     rw [he, Option.map_some, Ent.ren_id]
   · simp only [ow1, if_pos hm]
   · refine ⟨j, ?_, rfl⟩
     rcases hj with ⟨e, hj⟩ | ⟨l, hj⟩
     · rw [hk] at hj
       split at hj
       · assumption
       · cases hj
     · simp only [ow1] at hj
       split at hj
       · assumption
       · cases hj
   · obtain ⟨e', he', hc⟩ := hin i hm
     rw [he] at he'; cases he'
     exact hc j hj
 have hmem : ∀ {l : List Operand} {x : Operand}, x ∈ l -> ∀ i ∈ (rdF fr x).ids, i ∈ Qu (l.map (rdF fr)) := by
   intro l
   induction l with
   | nil => intro x hx; cases hx
   | cons y l ih =>
     intro x hx i hi'
     simp only [List.map_cons, Qu, List.mem_append]
     rcases List.mem_cons.1 hx with rfl | hx
     · exact .inl hi'
     · exact .inr (ih hx i hi')
 refine hs im ow1 a w (fun x hx => ?_) (hv.inv hi) K Q fun u w' im' ow2 hval G => ?_
 · have h1 := hop x hx
   rw [hrd x hx] at h1
   have h2 := Jg.ren (ρ := fun i => i) (rdF fr x) ow ow1 (fun i hi' l hl => by
     have hm := hops i (hmem (Array.mem_toList_iff.2 hx) i hi')
     simp only [ow1, if_pos hm]; exact hl) _ h1
   rwa [PV.ren_id] at h2
 · let ow' : Own := fun g => match ow2 g with | some l => some l | none => ow g
   have hown : ∀ j l, ow2 j = some l -> ow' j = some l := fun j l hl => by simp only [ow', hl]
   have bk : Back τ er (fun i => i) (fun i => i) ow h' ow2 (JK (Jej h er) U) ow' (JK h' U) := by
     refine { back := fun _ _ => rfl, ent := fun j e he => ?_, own := hown, fresh := fun j e he => ?_, ent' := fun g => ?_, inj := fun _ _ _ _ _ _ he => he }
     · rw [Ent.ren_id]
       rcases QV U j with ⟨e', _, h1⟩ | ⟨_, h1⟩
       · rw [h1] at he ⊢; exact he
       · rw [h1] at he ⊢
         rw [hk] at he
         split at he
         · exact he
         · cases he
     · by_cases hj : j ∈ er
       · exact .inl ⟨j, hj, rfl⟩
       · right
         rcases QV U j with ⟨e', ⟨q, hq, rfl⟩, _⟩ | ⟨_, h1⟩
         · exact hnew q hq hj
         · rw [h1, hk, if_neg hj] at he; cases he
     · cases hg : JK (Jej h er) U g with
       | some e => exact .inl ⟨g, e, hg, rfl⟩
       | none =>
         right
         rcases QV U g with ⟨e', _, h1⟩ | ⟨_, h1⟩
         · rw [h1] at hg; cases hg
         · have hge : g ∉ er := by
            intro hm
            obtain ⟨e, he, _⟩ := hin g hm
            rw [h1, hk, if_pos hm, he] at hg; cases hg
           refine ⟨h1 _, ?_, hge⟩
           cases ho : ow2 g with
           | none => simp only [ow', ho]
           | some l =>
            obtain ⟨e, he⟩ := G.inv.dom g l ho
            rw [hg] at he; cases he
   have h2 := Jg.ren (ρ := fun i => i) v ow2 ow' (fun i _ l hl => hown i l hl) u hval
   rw [PV.ren_id] at h2
   exact hK u w' im' ow' h2 (Good.lift hi hv G bk)
end
end Go.Proofs.YthpmachmnoljeaaGreat.Rx
end

noncomputable section
namespace Go.Proofs.YthpmachmnoljeaaGreat.Rx
open Go
set_option linter.unusedVariables false
set_option maxHeartbeats 1000000

structure Rec where
 d : Option Nat
 v : PV
 U : Upd
 f : Foot
 anc : List Nat
def frA : List Rec -> List PV -> List PV
 | [], fr => fr
 | r :: rs, fr => frA rs (Yg fr r.d r.v)
def hA : List Rec -> Ents -> Ents
 | [], h => h
 | r :: rs, h => hA rs (JK h r.U)
def frF (S : Nat -> Bool) : Nat -> List Rec -> List PV -> List PV
 | _, [], fr => fr
 | i, r :: rs, fr => frF S (i + 1) rs (bif S i then Yg fr r.d r.v else fr)
def hF (S : Nat -> Bool) : Nat -> List Rec -> Ents -> Ents
 | _, [], h => h
 | i, r :: rs, h => hF S (i + 1) rs (bif S i then JK h r.U else h)

theorem Jj9 (fr : List PV) (d : Option Nat) (v : PV) : (Yg fr d v).length = fr.length := by cases d <;> simp [Yg]
theorem JdO {fr : List PV} {d : Option Nat} {v : PV} {x : Nat} (h : d ≠ some x) : (Yg fr d v).getD x .top = fr.getD x .top := by
 cases d with
 | none => rfl
 | some d =>
  have hne : d ≠ x := fun e => h (by rw [e])
  simp [Yg, List.getD_eq_getElem?_getD, hne]
theorem JlT {fr fr' : List PV} {d : Option Nat} {v : PV} {x : Nat} (hl : fr.length = fr'.length) (h : fr.getD x .top = fr'.getD x .top) : (Yg fr d v).getD x .top = (Yg fr' d v).getD x .top := by
 by_cases hd : d = some x
 · subst hd; simp [Yg, List.getD_eq_getElem?_getD, List.getElem?_set, hl]
 · rw [JdO hd, JdO hd, h]
theorem Jrs {fr : List PV} {d d' : Option Nat} {v v' : PV} (h : ∀ x, d = some x -> d' ≠ some x) : Yg (Yg fr d v) d' v' = Yg (Yg fr d' v') d v := by
 cases d with
 | none => rfl
 | some d =>
  cases d' with
  | none => rfl
  | some d' =>
   have hne : d ≠ d' := fun e => h d rfl (by rw [e])
   simp only [Yg]; exact List.set_comm _ _ hne
theorem Jrt {h : Ents} {U V : Upd} (hd : ∀ q ∈ U, ∀ r ∈ V, q.1 ≠ r.1) : JK (JK h U) V = JK (JK h V) U := by
 funext j
 rcases QV U j with ⟨e, ⟨q, hq, hqj⟩, h1⟩ | ⟨h1, h2⟩
 · rcases QV V j with ⟨e', ⟨r, hr, hrj⟩, _⟩ | ⟨_, k2⟩
   · exact (hd q hq r hr (hqj.trans hrj.symm)).elim
   · rw [k2, h1, h1]
 · rcases QV V j with ⟨e', _, k1⟩ | ⟨_, k2⟩
   · rw [h2, k1, k1]
   · rw [h2, k2, k2, h2]
theorem JdP (S : Nat -> Bool) : ∀ (a b : List Rec) (k : Nat) (fr : List PV), frF S k (a ++ b) fr = frF S (k + a.length) b (frF S k a fr)
 | [], b, k, fr => rfl
 | r :: a, b, k, fr => by simp only [List.cons_append, frF, JdP S a b, List.length_cons]; congr 1; omega
theorem hF_app (S : Nat -> Bool) : ∀ (a b : List Rec) (k : Nat) (h : Ents), hF S k (a ++ b) h = hF S (k + a.length) b (hF S k a h)
 | [], b, k, h => rfl
 | r :: a, b, k, h => by simp only [List.cons_append, hF, hF_app S a b, List.length_cons]; congr 1; omega
theorem JcB {S S' : Nat -> Bool} : ∀ (rs : List Rec) (k : Nat) (fr : List PV), (∀ j, j < rs.length -> S (k + j) = S' (k + j)) -> frF S k rs fr = frF S' k rs fr
 | [], k, fr, h => rfl
 | r :: rs, k, fr, h => by
  simp only [frF]
  have h0 := h 0 (by simp)
  rw [Nat.add_zero] at h0
  rw [h0]
  exact JcB rs (k + 1) _ fun j hj => by have := h (j + 1) (by simpa using hj); rwa [show k + 1 + j = k + (j + 1) from by omega]
theorem hF_congr {S S' : Nat -> Bool} : ∀ (rs : List Rec) (k : Nat) (h0 : Ents), (∀ j, j < rs.length -> S (k + j) = S' (k + j)) -> hF S k rs h0 = hF S' k rs h0
 | [], k, fr, h => rfl
 | r :: rs, k, fr, h => by
  simp only [hF]
  have h0 := h 0 (by simp)
  rw [Nat.add_zero] at h0
  rw [h0]
  exact hF_congr rs (k + 1) _ fun j hj => by have := h (j + 1) (by simpa using hj); rwa [show k + 1 + j = k + (j + 1) from by omega]
theorem JhB {S : Nat -> Bool} : ∀ (rs : List Rec) (k : Nat) (fr : List PV), (∀ j, j < rs.length -> S (k + j) = true) -> frF S k rs fr = frA rs fr
 | [], k, fr, h => rfl
 | r :: rs, k, fr, h => by
  have h0 := h 0 (by simp)
  rw [Nat.add_zero] at h0
  simp only [frF, frA, h0, cond_true]
  exact JhB rs (k + 1) _ fun j hj => by have := h (j + 1) (by simpa using hj); rwa [show k + 1 + j = k + (j + 1) from by omega]
theorem hF_all {S : Nat -> Bool} : ∀ (rs : List Rec) (k : Nat) (h0 : Ents), (∀ j, j < rs.length -> S (k + j) = true) -> hF S k rs h0 = hA rs h0
 | [], k, fr, h => rfl
 | r :: rs, k, fr, h => by
  have h0 := h 0 (by simp)
  rw [Nat.add_zero] at h0
  simp only [hF, hA, h0, cond_true]
  exact hF_all rs (k + 1) _ fun j hj => by have := h (j + 1) (by simpa using hj); rwa [show k + 1 + j = k + (j + 1) from by omega]
theorem Jka : ∀ (rs : List Rec) (k : Nat) (fr : List PV), frF (fun _ => false) k rs fr = fr
 | [], k, fr => rfl
 | r :: rs, k, fr => by simp only [frF, cond_false]; exact Jka rs _ _
theorem hF_none : ∀ (rs : List Rec) (k : Nat) (h : Ents), hF (fun _ => false) k rs h = h
 | [], k, fr => rfl
 | r :: rs, k, fr => by simp only [hF, cond_false]; exact hF_none rs _ _
section
variable {S : Nat -> Bool}
theorem shift {rs : List Rec} {r0 : Rec} {k : Nat} {p : Nat -> Rec -> Prop} (h : ∀ j r, (r0 :: rs)[j]? = some r -> p (k + j) r) : ∀ j r, rs[j]? = some r -> p (k + 1 + j) r := by
 intro j r hj
 have := h (j + 1) r (by simpa using hj)
 rwa [show k + (j + 1) = k + 1 + j from by omega] at this
theorem JhC {d : Option Nat} {v : PV} : ∀ (rs : List Rec) (k : Nat) (fr : List PV), (∀ j r, rs[j]? = some r -> S (k + j) = true -> ∀ x, d = some x -> r.d ≠ some x) -> frF S k rs (Yg fr d v) = Yg (frF S k rs fr) d v
 | [], k, fr, h => rfl
 | r :: rs, k, fr, h => by
  simp only [frF]
  have h0 := h 0 r rfl
  rw [Nat.add_zero] at h0
  cases hs : S k with
  | true =>
   simp only [cond_true]
   rw [Jrs (h0 hs)]
   exact JhC rs (k + 1) _ (shift (p := fun i r => S i = true -> ∀ x, d = some x -> r.d ≠ some x) h)
  | false =>
   simp only [cond_false]
   exact JhC rs (k + 1) _ (shift (p := fun i r => S i = true -> ∀ x, d = some x -> r.d ≠ some x) h)
theorem hF_upd {U : Upd} : ∀ (rs : List Rec) (k : Nat) (h0 : Ents), (∀ j r, rs[j]? = some r -> S (k + j) = true -> ∀ q ∈ U, ∀ q' ∈ r.U, q.1 ≠ q'.1) -> hF S k rs (JK h0 U) = JK (hF S k rs h0) U
 | [], k, fr, h => rfl
 | r :: rs, k, fr, h => by
  simp only [hF]
  have h0 := h 0 r rfl
  rw [Nat.add_zero] at h0
  cases hs : S k with
  | true =>
   simp only [cond_true]
   rw [Jrt (h0 hs)]
   exact hF_upd rs (k + 1) _ (shift (p := fun i r => S i = true -> ∀ q ∈ U, ∀ q' ∈ r.U, q.1 ≠ q'.1) h)
  | false =>
   simp only [cond_false]
   exact hF_upd rs (k + 1) _ (shift (p := fun i r => S i = true -> ∀ q ∈ U, ∀ q' ∈ r.U, q.1 ≠ q'.1) h)
theorem Jkb {x : Nat} : ∀ (rs : List Rec) (k : Nat) (fr : List PV), (∀ j r, rs[j]? = some r -> S (k + j) = true -> r.d ≠ some x) -> (frF S k rs fr).getD x .top = fr.getD x .top
 | [], k, fr, h => rfl
 | r :: rs, k, fr, h => by
  simp only [frF]
  have h0 := h 0 r rfl
  rw [Nat.add_zero] at h0
  rw [Jkb rs (k + 1) _ (shift (p := fun i r => S i = true -> r.d ≠ some x) h)]
  cases hs : S k with
  | true => exact JdO (h0 hs)
  | false => rfl
theorem hF_post {x : Nat} : ∀ (rs : List Rec) (k : Nat) (h0 : Ents), (∀ j r, rs[j]? = some r -> S (k + j) = true -> ∀ q ∈ r.U, q.1 ≠ x) -> hF S k rs h0 x = h0 x
 | [], k, fr, h => rfl
 | r :: rs, k, fr, h => by
  simp only [hF]
  have h0 := h 0 r rfl
  rw [Nat.add_zero] at h0
  rw [hF_post rs (k + 1) _ (shift (p := fun i r => S i = true -> ∀ q ∈ r.U, q.1 ≠ x) h)]
  cases hs : S k with
  | true => exact JaH (h0 hs)
  | false => rfl
theorem Jo2 {x : Nat} : ∀ (rs : List Rec) (k : Nat) (fr fr' : List PV), fr.length = fr'.length -> fr.getD x .top = fr'.getD x .top -> (∀ j r, rs[j]? = some r -> S (k + j) = false -> r.d ≠ some x) -> (frF S k rs fr).getD x .top = (frA rs fr').getD x .top
 | [], k, fr, fr', hl, hx, h => hx
 | r :: rs, k, fr, fr', hl, hx, h => by
  simp only [frF, frA]
  have h0 := h 0 r rfl
  rw [Nat.add_zero] at h0
  refine Jo2 rs (k + 1) _ _ ?_ ?_ (shift (p := fun i r => S i = false -> r.d ≠ some x) h)
  · cases S k <;> simp [Jj9, hl]
  · cases hs : S k with
    | true => exact JlT hl hx
    | false => rw [cond_false, JdO (h0 hs)]; exact hx
theorem hF_pre {x : Nat} : ∀ (rs : List Rec) (k : Nat) (h0 h0' : Ents), h0 x = h0' x -> (∀ j r, rs[j]? = some r -> S (k + j) = false -> ∀ q ∈ r.U, q.1 ≠ x) -> hF S k rs h0 x = hA rs h0' x
 | [], k, fr, fr', hx, h => hx
 | r :: rs, k, fr, fr', hx, h => by
  simp only [hF, hA]
  have h0 := h 0 r rfl
  rw [Nat.add_zero] at h0
  refine hF_pre rs (k + 1) _ _ ?_ (shift (p := fun i r => S i = false -> ∀ q ∈ r.U, q.1 ≠ x) h)
  cases hs : S k with
  | true =>
   simp only [cond_true]
   rcases QV r.U x with ⟨e, _, h1⟩ | ⟨_, h1⟩
   · rw [h1, h1]
   · rw [h1, h1]; exact hx
  | false => rw [cond_false, JaH (h0 hs)]; exact hx
end
theorem Xs {a b : List Nat} (h : GC a b = false) {x : Nat} (h1 : x ∈ a) (h2 : x ∈ b) : False := by
 have : GC a b = true := List.any_eq_true.2 ⟨x, h1, elem_iff.2 h2⟩
 rw [h] at this; cases this
theorem JgC {anc : List Nat} {f : Foot} : ∀ {fs : List Foot} {n : Nat}, GD anc f fs n = true -> ∀ m g, fs[m]? = some g -> Jdb g f = false ∨ (n + m) ∈ anc
 | [], n, h, m, g, hg => by simp at hg
 | x :: fs, n, h, 0, g, hg => by
  simp only [List.getElem?_cons_zero, Option.some.injEq] at hg
  subst hg
  simp only [GD, Bool.and_eq_true, Bool.or_eq_true, Bool.not_eq_true'] at h
  rcases h.1 with h1 | h1
  · exact .inl h1
  · exact .inr (elem_iff.1 h1)
 | x :: fs, n, h, m + 1, g, hg => by
  simp only [GD, Bool.and_eq_true] at h
  rcases JgC h.2 m g (by simpa using hg) with h1 | h1
  · exact .inl h1
  · exact .inr (by rwa [show n + (m + 1) = n + 1 + m from by omega])
end Go.Proofs.YthpmachmnoljeaaGreat.Rx
end

noncomputable section
namespace Go.Proofs.YthpmachmnoljeaaGreat.Rx
open Go
set_option linter.unusedVariables false
set_option maxHeartbeats 1000000

theorem Jey {m : Nat} : ∀ (l acc : List Nat), m ∈ Jr0 l acc -> m ∈ l ∨ m ∈ acc
 | [], acc, h => .inr h
 | x :: xs, acc, h => by
  simp only [Jr0] at h
  cases he : acc.elem x with
  | true =>
   rw [he, cond_true] at h
   rcases Jey xs acc h with h | h
   · exact .inl (List.mem_cons_of_mem _ h)
   · exact .inr h
  | false =>
   rw [he, cond_false] at h
   rcases Jey xs (x :: acc) h with h | h
   · exact .inl (List.mem_cons_of_mem _ h)
   · rcases List.mem_cons.1 h with rfl | h
     · exact .inl List.mem_cons_self
     · exact .inr h
theorem Jru {α : Type} (n : Nat) (k : Nat -> α) : Jr1 n k = k n := by cases n <;> rfl
theorem JgD {α : Type} : ∀ (l : List Nat) (k : List Nat -> α), Z2 l k = k l
 | [], k => rfl
 | x :: xs, k => by simp only [Z2, Jru, JgD xs]
theorem JlU (o : Oper) (ancs : List (List Nat)) (fs : List Foot) (f : Foot) (fr : List PV) (hp : List (Nat × Ent)) (k : List (List Nat) -> List Foot -> Sta -> Option Res) :
  JaB o ancs fs f fr hp k = bif GD (Gv ancs o) f fs 0 then k (ancs ++ [Gv ancs o]) (fs ++ [f]) { fr := fr, hp := hp } else none := by
 simp only [JaB, JgD]
section
variable {τ : Tab} {P : Program} (ok : TabOk τ P)
def Does (τ : Tab) (P : Program) (ops : Array Oper) (o : Oper) (r : Rec) (fr : List PV) (h : Ents) : Prop :=
 ∀ (im : Im) (ow : Own) (a : Act) (w : World), FrR τ im ow fr a -> Inv τ im ow h w -> ∀ (K : Act -> World -> Prop) (Q : Exit -> Act -> World -> Prop),
  (∀ u w' im' ow', Jg τ im' ow' r.v u -> Good τ im ow h w im' ow' (JK h r.U) w' -> K (a.put o.dst u) w') -> if Region.wanted o (yielded ops a.tmps) then o.wp P a w K Q else K (a.put o.dst undef) w
structure RecOk (τ : Tab) (P : Program) (ops : Array Oper) (o : Oper) (r : Rec) (fr : List PV) (h : Ents) : Prop where
 d : r.d = o.dst
 sw : r.f.sw = o.dst.toList
 ew : r.f.ew = r.U.map (·.1)
 does : ∀ fr' h', (∀ x ∈ r.f.sr, fr'.getD x .top = fr.getD x .top) -> (∀ x, x ∈ r.f.er ∨ x ∈ r.f.ew -> h' x = h x) -> Does τ P ops o r fr' h'
theorem Jsi {l : List Operand} {fr fr' : List PV} (h : ∀ x ∈ Yh l, fr'.getD x .top = fr.getD x .top) : ∀ x ∈ l, rdF fr' x = rdF fr x := by
 induction l with
 | nil => intro x hx; cases hx
 | cons y l ih =>
  intro x hx
  have hrest : ∀ x ∈ Yh l, fr'.getD x .top = fr.getD x .top := fun z hz => h z (by cases y <;> simp [Yh, hz])
  rcases List.mem_cons.1 hx with rfl | hx
  · cases x with
    | tmp t => exact h t (by simp [Yh])
    | const v => rfl
    | func f => rfl
    | global g => rfl
  · exact ih hrest x hx
include ok
theorem Jdm {F : Fns} (hFn : Jp τ P F) {ops : Array Oper} : ∀ {rest : List Oper} {i : Nat} {ancs : List (List Nat)} {fs : List Foot} {s : Sta} {k : Sta -> Option Res} {res : Res}, Z3 τ F ops rest i ancs fs s k = some res ->
  ∃ (R : List Rec) (s' : Sta), k s' = some res /\ R.length = rest.length /\ s'.fr = frA R s.fr /\ JA s'.hp = hA R (JA s.hp) /\
   ∀ j o, rest[j]? = some o -> ∃ r, R[j]? = some r /\ RecOk τ P ops o r (frA (R.take j) s.fr) (hA (R.take j) (JA s.hp)) /\ JdN (i + j) o = true /\
    r.anc = Gv (ancs ++ (R.take j).map (·.anc)) o /\ ∀ m g, (fs ++ (R.take j).map (·.f))[m]? = some g -> Jdb g r.f = false ∨ m ∈ r.anc
 | [], i, ancs, fs, s, k, res, hh => ⟨[], s, hh, rfl, rfl, rfl, fun j o hj => by simp at hj⟩
 | o :: rest, i, ancs, fs, s, k, res, hh => by
   simp only [Z3, JgB, JgA ok.hold] at hh
   cases haf : JdN i o with
   | false => rw [haf] at hh; cases hh
   | true =>
    rw [haf, cond_true] at hh
    obtain ⟨wt, fr', hk, rfl, hw⟩ := Jew (τ := τ) hh
    have fin : ∀ (r : Rec) (hp1 : List (Nat × Ent)) (fr1 : List PV), JaB o ancs fs r.f fr1 hp1 (fun ancs fs s => Z3 τ F ops rest (i + 1) ancs fs s k) = some res -> fr1 = Yg s.fr r.d r.v -> JA hp1 = JK (JA s.hp) r.U -> r.anc = Gv ancs o ->
      RecOk τ P ops o r s.fr (JA s.hp) -> ∃ (R : List Rec) (s' : Sta), k s' = some res /\ R.length = (o :: rest).length /\ s'.fr = frA R s.fr /\ JA s'.hp = hA R (JA s.hp) /\
      ∀ j o', (o :: rest)[j]? = some o' -> ∃ r, R[j]? = some r /\ RecOk τ P ops o' r (frA (R.take j) s.fr) (hA (R.take j) (JA s.hp)) /\ JdN (i + j) o' = true /\
       r.anc = Gv (ancs ++ (R.take j).map (·.anc)) o' /\ ∀ m g, (fs ++ (R.take j).map (·.f))[m]? = some g -> Jdb g r.f = false ∨ m ∈ r.anc := by
     intro r hp1 fr1 h1 h2 h3 h4 h5
     rw [JlU] at h1
     cases hpk : GD (Gv ancs o) r.f fs 0 with
     | false => rw [hpk] at h1; cases h1
     | true =>
      rw [hpk, cond_true] at h1
      obtain ⟨R, s', q1, q2, q3, q4, q5⟩ := Jdm hFn h1
      simp only at q3 q4 q5
      refine ⟨r :: R, s', q1, by simp [q2], by rw [q3, h2]; rfl, by rw [q4, h3]; rfl, fun j o' hj => ?_⟩
      cases j with
      | zero =>
       simp only [List.getElem?_cons_zero, Option.some.injEq] at hj
       subst hj
       refine ⟨r, rfl, h5, haf, by simpa using h4, fun m g hg => ?_⟩
       have := JgC hpk m g (by simpa using hg)
       rw [h4]; simpa using this
      | succ j =>
       obtain ⟨r', p1, p2, p3, p4, p5⟩ := q5 j o' (by simpa using hj)
       refine ⟨r', by simpa using p1, ?_, by rw [show i + (j + 1) = i + 1 + j from by omega]; exact p3, ?_, fun m g hg => ?_⟩
       · simp only [List.take_succ_cons, frA, hA, ← h2, ← h3]; exact p2
       · rw [p4, List.take_succ_cons, List.map_cons, List.append_assoc, h4]; rfl
       · refine p5 m g ?_
         rw [List.take_succ_cons, List.map_cons] at hg
         rw [List.append_assoc]; exact hg
    cases wt with
    | false =>
     simp only [cond_false] at hk
     refine fin ⟨o.dst, .tup [], [], ⟨QP ops o, o.dst.toList, [], []⟩, Gv ancs o⟩ s.hp _ hk (by rw [Jhz]) rfl rfl ⟨rfl, rfl, rfl, fun fr2 h2 hag _ => ?_⟩
     intro im ow a w hf hi K Q hK
     rw [hw im ow fr2 a hf hag, if_neg (by simp)]
     exact hK undef w im ow (by simp only [Jg, JF]; exact ⟨#[], rfl, rfl⟩) (Good.refl hi rfl)
    | true =>
     simp only [cond_true] at hk
     generalize XU τ (JA s.hp) 40 (Qu (o.op.operands.toList.map (rdF s.fr))) [] = er at hk
     cases hcl : (We τ (JA s.hp) er && (Qu (o.op.operands.toList.map (rdF s.fr))).all (fun j => er.elem j)) with
     | false => rw [hcl] at hk; cases hk
     | true =>
      rw [hcl, cond_true] at hk
      have hcl2 := Bool.and_eq_true_iff.1 hcl
      obtain ⟨v, U, hk2, hst⟩ := Jj8 ok hFn hk
      cases hnw : Jz6 (JA s.hp) er U with
      | false => rw [hnw] at hk2; cases hk2
      | true =>
       rw [hnw, cond_true] at hk2
       refine fin ⟨o.dst, v, U, ⟨Yh o.op.operands.toList ++ QP ops o, o.dst.toList, er, U.map (·.1)⟩, Gv ancs o⟩ _ _ hk2 (by rw [Jhz]) (by rw [XY]) rfl ⟨rfl, rfl, rfl, fun fr2 h2 hag hagh => ?_⟩
       have hso : JhA τ P o fr2 h2 v U := JlS ok hst hcl2.1 (fun j hj => elem_iff.1 (List.all_eq_true.1 hcl2.2 j hj)) (fun x hx => Jsi (fun z hz => hag z (List.mem_append.2 (.inl hz))) x (Array.mem_toList_iff.2 hx)) (fun z hz => hagh z (.inl hz)) (fun q hq hne => by
         rw [hagh q.1 (.inr (List.mem_map.2 ⟨q, hq, rfl⟩))]
         have := List.all_eq_true.1 hnw q hq
         simp only [Bool.or_eq_true] at this
         rcases this with h | h
         · exact (hne (elem_iff.1 h)).elim
         · simpa using h)
       intro im ow a w hf hi K Q hK
       rw [hw im ow fr2 a hf (fun z hz => hag z (List.mem_append.2 (.inr hz))), if_pos rfl]
       exact hso im ow a w (fun x _ => Jsh hf x) hi K Q hK
theorem JwT {accs : List (List Nat)} {o : Oper} {m : Nat} (h : m ∈ Gv accs o) : ∃ e ∈ o.after, Region.binds .any e = true /\ (m = e.on ∨ m ∈ accs.getD e.on []) := by
 have _ := ok
 have h2 : m ∈ (o.after.toList.filter fun e => Region.binds .any e).flatMap fun e => e.on :: accs.getD e.on [] := by
  rcases Jey _ _ h with h | h
  · exact h
  · cases h
 obtain ⟨e, he, hm⟩ := List.mem_flatMap.1 h2
 rw [List.mem_filter] at he
 exact ⟨e, Array.mem_toList_iff.1 he.1, he.2, by simpa using hm⟩
theorem Jrv {F : Fns} (hFn : Jp τ P F) (hm : P.follows .mixedOrders = true) {ops : Array Oper} {s : Sta} {k : Sta -> Option Res} {res : Res} (hh : Z3 τ F ops ops.toList 0 [] [] s k = some res) :
   ∃ s', k s' = some res /\ ∀ (im : Im) (ow : Own) (a : Act) (w : World) (id : Nat), FrR τ im ow s.fr a -> Inv τ im ow (JA s.hp) w -> ∀ Q : Exit -> Act -> World -> Prop,
    (∀ a' w' im' ow', Good τ im ow (JA s.hp) w im' ow' (JA s'.hp) w' -> FrR τ im' ow' s'.fr a' -> Q .normal a' w') -> (Code.region id ops true).wp P Q a w := by
 obtain ⟨R, s', hk, hlen, hfr, hhp, hrec⟩ := Jdm ok hFn hh
 refine ⟨s', hk, fun im ow a w id hf0 hi0 Q hQ => wp_region_any hm ?_⟩
 have hR : R.length = ops.size := by rw [hlen, Array.length_toList]
 have hops : ∀ j : Nat, ops.toList[j]? = ops[j]? := fun j => by simp
 have key : ∀ (fuel : Nat) (l : List Nat) (listed : Array Bool) (a : Act) (w' : World), l.length = fuel -> listed.size = ops.size -> (∀ i, i < ops.size -> listed.getD i false = false -> i ∈ l) ->
    (∀ j o, ops[j]? = some o -> listed.getD j false = true -> ∀ e ∈ o.after, Region.binds .any e = true -> listed.getD e.on false = true) ->
    (∃ im' ow', Good τ im ow (JA s.hp) w im' ow' (hF (fun j => listed.getD j false) 0 R (JA s.hp)) w' /\ FrR τ im' ow' (frF (fun j => listed.getD j false) 0 R s.fr) a) -> wpAny P .any ops Q fuel listed a w' := by
   intro fuel
   induction fuel with
   | zero =>
    intro l listed a w' hl hsz hun hdn hst
    obtain rfl := List.length_eq_zero_iff.1 hl
    have hall : ∀ j, j < ops.size -> listed.getD j false = true := fun j hj => by
      cases h : listed.getD j false with
      | true => rfl
      | false => cases hun j hj h
    obtain ⟨im', ow', g1, g2⟩ := hst
    rw [hF_all R 0 _ fun j hj => hall _ (by omega)] at g1
    rw [JhB R 0 _ fun j hj => hall _ (by omega)] at g2
    refine ⟨?_, hQ a w' im' ow' (by rw [hhp]; exact g1) (by rw [hfr]; exact g2)⟩
    cases hr : Region.ready .any ops listed with
    | nil => rfl
    | cons x xs =>
      have hx : x ∈ Region.ready .any ops listed := by rw [hr]; simp
      obtain ⟨h1, o, h2, _⟩ := mem_ready.1 hx
      have hlt : x < ops.size := (Array.getElem?_eq_some_iff.1 h2).1
      have h3 := hall x hlt
      have hlt2 : x < listed.size := by omega
      simp [Array.getD, hlt2] at h1 h3
      rw [h1] at h3; cases h3
   | succ fuel ih =>
    intro l listed a w' hl hsz hun hdn hst
    refine ⟨fun hr => ?_, fun i hir => ?_⟩
    · have hall : ∀ j, j < ops.size -> listed.getD j false = true := by
        intro j
        induction j using Nat.strongRecOn with
        | _ j ihj =>
          intro hj
          cases h : listed.getD j false with
          | true => rfl
          | false =>
            have ho : ops[j]? = some ops[j] := Array.getElem?_eq_getElem hj
            have : j ∈ Region.ready .any ops listed := mem_ready.2 ⟨(by have hlt : j < listed.size := (by omega); simp [Array.getD, hlt] at h ⊢; exact h), ops[j], ho, fun e he hb => by
              obtain ⟨r, _, _, h3, _⟩ := hrec j ops[j] (by rw [hops]; exact ho)
              have := List.all_eq_true.1 h3 e (Array.mem_toList_iff.2 he)
              simp only [hb, Bool.not_true, Bool.false_or, decide_eq_true_eq, Nat.zero_add] at this
              exact ihj e.on this (by omega)⟩
            rw [hr] at this; cases this
      obtain ⟨im', ow', g1, g2⟩ := hst
      rw [hF_all R 0 _ fun j hj => hall _ (by omega)] at g1
      rw [JhB R 0 _ fun j hj => hall _ (by omega)] at g2
      exact hQ a w' im' ow' (by rw [hhp]; exact g1) (by rw [hfr]; exact g2)
    · obtain ⟨h1, o, h2, hpre⟩ := mem_ready.1 hir
      have hlt : i < ops.size := (Array.getElem?_eq_some_iff.1 h2).1
      have hlt2 : i < listed.size := by omega
      have hif : listed.getD i false = false := by simp [Array.getD, hlt2] at h1 ⊢; exact h1
      obtain ⟨r, hri, hro, haf, hanc, hpair⟩ := hrec i o (by rw [hops]; exact h2)
      have hS : ∀ j, (listed.setIfInBounds i true).getD j false = if j = i then true else listed.getD j false := by
        intro j
        by_cases hj : j = i
        · subst hj; simp [Array.getD, hlt2]
        · simp only [if_neg hj, Array.getD_eq_getD_getElem?, Array.getElem?_setIfInBounds, if_neg (Ne.symm hj)]
      have hancS : ∀ j o' r', ops[j]? = some o' -> R[j]? = some r' -> (listed.getD j false = true ∨ j = i) -> ∀ m ∈ r'.anc, listed.getD m false = true := by
        intro j
        induction j using Nat.strongRecOn with
        | _ j ihj =>
          intro o' r' ho' hr' hj m hmm
          obtain ⟨r2, p1, _, p3, p4, _⟩ := hrec j o' (by rw [hops]; exact ho')
          rw [hr'] at p1; cases p1
          rw [p4] at hmm
          obtain ⟨e, he, hb, hme⟩ := JwT ok hmm
          have hon : e.on < j := by
            have := List.all_eq_true.1 p3 e (Array.mem_toList_iff.2 he)
            simpa [hb] using this
          have hlo : listed.getD e.on false = true := by
            rcases hj with hj | rfl
            · exact hdn j o' ho' hj e he hb
            · rw [h2] at ho'; cases ho'; exact hpre e he hb
          rcases hme with rfl | hme
          · exact hlo
          · have hjl : j < R.length := (List.getElem?_eq_some_iff.1 hr').1
            have hjo : e.on < ops.size := by omega
            rw [List.nil_append, List.getD_eq_getElem?_getD, List.getElem?_map, List.getElem?_take, if_pos hon, List.getElem?_eq_getElem (by omega)] at hme
            exact ihj e.on hon ops[e.on] R[e.on] (Array.getElem?_eq_getElem hjo) (List.getElem?_eq_getElem (by omega)) (.inl hlo) m hme
      have split : R = R.take i ++ r :: R.drop (i + 1) := by
        have hil : i < R.length := (List.getElem?_eq_some_iff.1 hri).1
        have : R[i] = r := by have := List.getElem?_eq_getElem hil; rw [hri] at this; exact (Option.some.inj this).symm
        rw [← this, ← List.drop_eq_getElem_cons hil, List.take_append_drop]
      have hil : (R.take i).length = i := by
        have : i < R.length := (List.getElem?_eq_some_iff.1 hri).1
        simp; omega
      have later : ∀ (j : Nat) (r' : Rec), (R.drop (i + 1))[j]? = some r' -> listed.getD (i + 1 + j) false = true -> Jdb r.f r'.f = false := by
        intro j r' hr' hl'
        rw [List.getElem?_drop] at hr'
        have hjl : i + 1 + j < R.length := (List.getElem?_eq_some_iff.1 hr').1
        obtain ⟨r2, p1, _, _, _, p5⟩ := hrec (i + 1 + j) ops[i + 1 + j] (by rw [hops]; exact Array.getElem?_eq_getElem (by omega))
        rw [hr'] at p1; cases p1
        rcases p5 i r.f (by rw [List.nil_append, List.getElem?_map, List.getElem?_take, if_pos (by omega), hri]; rfl) with h | h
        · exact h
        · have := hancS (i + 1 + j) _ r' (Array.getElem?_eq_getElem (by omega)) hr' (.inl hl') i h
          rw [hif] at this; cases this
      have earlier : ∀ (j : Nat) (r' : Rec), (R.take i)[j]? = some r' -> listed.getD (0 + j) false = false -> Jdb r'.f r.f = false := by
        intro j r' hr' hl'
        rw [Nat.zero_add] at hl'
        have hji : j < i := by
          have := (List.getElem?_eq_some_iff.1 hr').1
          rw [hil] at this; exact this
        rcases hpair j r'.f (by rw [List.nil_append, List.getElem?_map, hr']; rfl) with h | h
        · exact h
        · have := hancS i o r h2 hri (.inr rfl) j h
          rw [hl'] at this; cases this
      have cl : ∀ {g f : Foot}, Jdb g f = false -> GC g.sw f.sr = false /\ GC g.sw f.sw = false /\ GC g.sr f.sw = false /\ GC g.ew f.er = false /\ GC g.ew f.ew = false /\ GC g.er f.ew = false := by
        intro g f h
        simp only [Jdb, Bool.or_eq_false_iff] at h
        exact ⟨h.1.1.1.1.1, h.1.1.1.1.2, h.1.1.1.2, h.1.1.2, h.1.2, h.2⟩
      have hrk : ∀ (j : Nat) (r' : Rec), R[j]? = some r' -> r'.f.sw = r'.d.toList /\ r'.f.ew = r'.U.map (·.1) := by
        intro j r' hr'
        have hjl : j < R.length := (List.getElem?_eq_some_iff.1 hr').1
        obtain ⟨r2, p1, p2, _⟩ := hrec j ops[j] (by rw [hops]; exact Array.getElem?_eq_getElem (by omega))
        rw [hr'] at p1; cases p1
        exact ⟨by rw [p2.sw, p2.d], p2.ew⟩
      have hrd : ∀ (j : Nat) (r' : Rec), (R.drop (i + 1))[j]? = some r' -> r'.f.sw = r'.d.toList /\ r'.f.ew = r'.U.map (·.1) := fun j r' h => hrk _ r' (by rwa [List.getElem?_drop] at h)
      have hrt : ∀ (j : Nat) (r' : Rec), (R.take i)[j]? = some r' -> r'.f.sw = r'.d.toList /\ r'.f.ew = r'.U.map (·.1) := fun j r' h => by
        have hji := (List.getElem?_eq_some_iff.1 h).1
        rw [hil] at hji
        rw [List.getElem?_take, if_pos hji] at h
        exact hrk _ r' h
      have hri' := hrk i r hri
      have agF : ∀ x ∈ r.f.sr, (frF (fun j => listed.getD j false) 0 R s.fr).getD x .top = (frA (R.take i) s.fr).getD x .top := by
        intro x hx
        rw [split, JdP, hil, Nat.zero_add]
        simp only [frF, hif, cond_false]
        rw [Jkb _ (i + 1) _ fun j r' hr' hl' hd => Xs (cl (later j r' hr' hl')).2.2.1 hx (by rw [(hrd j r' hr').1, hd]; simp)]
        rw [← split]
        exact Jo2 _ 0 _ _ rfl rfl fun j r' hr' hl' hd => Xs (cl (earlier j r' hr' hl')).1 (by rw [(hrt j r' hr').1, hd]; simp) hx
      have agH : ∀ x, x ∈ r.f.er ∨ x ∈ r.f.ew -> hF (fun j => listed.getD j false) 0 R (JA s.hp) x = hA (R.take i) (JA s.hp) x := by
        intro x hx
        rw [split, hF_app, hil, Nat.zero_add]
        simp only [hF, hif, cond_false]
        rw [hF_post _ (i + 1) _ fun j r' hr' hl' q hq hqx => by
          have hk2 : x ∈ r'.f.ew := by rw [(hrd j r' hr').2]; exact List.mem_map.2 ⟨q, hq, hqx⟩
          rcases hx with hx | hx
          · exact Xs (cl (later j r' hr' hl')).2.2.2.2.2 hx hk2
          · exact Xs (cl (later j r' hr' hl')).2.2.2.2.1 hx hk2]
        rw [← split]
        refine hF_pre _ 0 _ _ rfl fun j r' hr' hl' q hq hqx => ?_
        have hk2 : x ∈ r'.f.ew := by rw [(hrt j r' hr').2]; exact List.mem_map.2 ⟨q, hq, hqx⟩
        rcases hx with hx | hx
        · exact Xs (cl (earlier j r' hr' hl')).2.2.2.1 hk2 hx
        · exact Xs (cl (earlier j r' hr' hl')).2.2.2.2.1 hk2 hx
      have nextF : frF (fun j => (listed.setIfInBounds i true).getD j false) 0 R s.fr = Yg (frF (fun j => listed.getD j false) 0 R s.fr) r.d r.v := by
        rw [split, JdP, JdP, hil, Nat.zero_add]
        simp only [frF, hif, cond_false]
        rw [show (listed.setIfInBounds i true).getD i false = true from by rw [hS, if_pos rfl], cond_true]
        rw [JcB (S := fun j => (listed.setIfInBounds i true).getD j false) (S' := fun j => listed.getD j false) (R.take i) 0 _ fun j hj => by show (listed.setIfInBounds i true).getD _ false = listed.getD _ false; rw [hS, if_neg (by omega)]]
        rw [JcB (S := fun j => (listed.setIfInBounds i true).getD j false) (S' := fun j => listed.getD j false) (R.drop (i + 1)) (i + 1) _ fun j hj => by show (listed.setIfInBounds i true).getD _ false = listed.getD _ false; rw [hS, if_neg (by omega)]]
        exact JhC _ (i + 1) _ fun j r' hr' hl' x hx hd => Xs (cl (later j r' hr' hl')).2.1 (x := x) (by rw [hri'.1, hx]; simp) (by rw [(hrd j r' hr').1, hd]; simp)
      have nextH : hF (fun j => (listed.setIfInBounds i true).getD j false) 0 R (JA s.hp) = JK (hF (fun j => listed.getD j false) 0 R (JA s.hp)) r.U := by
        rw [split, hF_app, hF_app, hil, Nat.zero_add]
        simp only [hF, hif, cond_false]
        rw [show (listed.setIfInBounds i true).getD i false = true from by rw [hS, if_pos rfl], cond_true]
        rw [hF_congr (S := fun j => (listed.setIfInBounds i true).getD j false) (S' := fun j => listed.getD j false) (R.take i) 0 _ fun j hj => by show (listed.setIfInBounds i true).getD _ false = listed.getD _ false; rw [hS, if_neg (by omega)]]
        rw [hF_congr (S := fun j => (listed.setIfInBounds i true).getD j false) (S' := fun j => listed.getD j false) (R.drop (i + 1)) (i + 1) _ fun j hj => by show (listed.setIfInBounds i true).getD _ false = listed.getD _ false; rw [hS, if_neg (by omega)]]
        exact hF_upd _ (i + 1) _ fun j r' hr' hl' q hq q' hq' hqq => Xs (cl (later j r' hr' hl')).2.2.2.2.1 (x := q.1) (by rw [hri'.2]; exact List.mem_map.2 ⟨q, hq, rfl⟩) (by rw [(hrd j r' hr').2]; exact List.mem_map.2 ⟨q', hq', hqq.symm⟩)
      obtain ⟨im', ow', g1, g2⟩ := hst
      have hdo := hro.does _ _ agF agH im' ow' a w' g2 g1.inv (wpAny P .any ops Q fuel (listed.setIfInBounds i true)) Q fun u w2 im2 ow2 hv hg => by
        refine ih (l.erase i) _ _ w2 ?_ (by simpa using hsz) ?_ ?_ ⟨im2, ow2, ?_, ?_⟩
        · rw [List.length_erase_of_mem (hun i hlt hif), hl]; rfl
        · intro j hj hjf
          rw [hS] at hjf
          split at hjf
          · cases hjf
          · rename_i hne; exact (List.mem_erase_of_ne hne).2 (hun j hj hjf)
        · intro j o' ho' hj e he hb
          rw [hS] at hj ⊢
          split
          · rfl
          · split at hj
            · rename_i hji; subst hji; rw [h2] at ho'; cases ho'; exact hpre e he hb
            · exact hdn j o' ho' hj e he hb
        · rw [nextH]; exact g1.trans hg
        · rw [nextF, hro.d]; exact g2.put hg.imX hg.owX hv
      unfold wpOp
      rw [h2]
      simp only
      split
      · rename_i hw; rw [if_pos hw] at hdo; exact .inl hdo
      · rename_i hw; rw [if_neg hw] at hdo; exact hdo
 refine key ops.size (List.range ops.size) _ a _ (by simp) (by simp) (fun i hi _ => by simpa using hi) (fun j o ho hj => ?_) ⟨im, ow, ?_, ?_⟩
 · have hlt : j < ops.size := (Array.getElem?_eq_some_iff.1 ho).1
   simp [Array.getD, hlt] at hj
 · have e1 : (fun j => (Array.replicate ops.size false).getD j false) = fun _ => false := by
    funext j; simp only [Array.getD]; split <;> simp
   rw [e1, hF_none]
   exact Good.refl hi0 rfl
 · have e1 : (fun j => (Array.replicate ops.size false).getD j false) = fun _ => false := by
    funext j; simp only [Array.getD]; split <;> simp
   rw [e1, Jka]
   exact hf0
end
end Go.Proofs.YthpmachmnoljeaaGreat.Rx
end

noncomputable section
namespace Go.Proofs.YthpmachmnoljeaaGreat.Rx
open Go
set_option linter.unusedVariables false
set_option maxHeartbeats 1000000

theorem Good.reb {τ : Tab} {im : Im} {ow : Own} {h : Ents} {w : World} {i : Nat} {e e' : Ent} (hi : Inv τ im ow h w) (h1 : h i = some e) (he : EntRep τ im ow i e' w) (hf : e'.free = e.free) : Good τ im ow h w im ow (JU h i e') w := by
 have hlv : ∀ k b2, Live (JU h i e') ow k b2 -> Live h ow k b2 := by
   rintro k b2 ⟨e2, l2, g1, g2, g3, g4⟩
   simp only [JU] at g1
   split at g1
   · rename_i hk; subst hk; obtain rfl := Option.some.inj g1; exact ⟨e, l2, h1, by rw [← hf]; exact g2, g3, g4⟩
   · exact ⟨e2, l2, g1, g2, g3, g4⟩
 refine { imX := fun _ _ h => h, owX := fun _ _ h => h, inv := ?_, size := Nat.le_refl _, keep := fun b' _ hn => rfl, newim := fun b o hb => .inl hb, newlive := fun k b hl => .inr ⟨k, hlv k b hl⟩, rest := Rest.refl _ }
 refine { imOk := hi.imOk, ent := fun k e2 hk => ?_, inj := fun k m b g1 g2 => hi.inj _ _ _ (hlv _ _ g1) (hlv _ _ g2), dom := fun k l2 hk => ?_ }
 · simp only [JU] at hk
   split at hk
   · rename_i hki; subst hki; obtain rfl := Option.some.inj hk
     exact he
   · exact hi.ent k e2 hk
 · obtain ⟨e2, h2⟩ := hi.dom k l2 hk
   by_cases hki : k = i
   · exact ⟨e', by simp [JU, hki]⟩
   · exact ⟨e2, by simp [JU, hki, h2]⟩

section
variable {τ : Tab} {P : Program} (ok : TabOk τ P) {w : World}
include ok
mutual
theorem Jez {base : Nat} : ∀ (m : Md) (p p' : PV) (hp hp' : List (Nat × Ent)) (im : Im) (ow : Own), Inv τ im ow (JA hp) w -> YP τ base hp m p = some (p', hp') ->
  ∃ im' ow', Good τ im ow (JA hp) w im' ow' (JA hp') w /\ (∀ u, Jg τ im ow p u -> Jg τ im' ow' p' u) /\ ∀ t cs, Rep τ im ow p t cs -> Rep τ im' ow' p' t cs
 | .any, p, p', hp, hp', im, ow, hi, hh => by
   simp only [YP, Option.some.injEq, Prod.mk.injEq] at hh
   obtain ⟨rfl, rfl⟩ := hh
   exact ⟨im, ow, Good.refl hi rfl, fun u h => h, fun t cs h => h⟩
 | .own, p, p', hp, hp', im, ow, hi, hh => by
   simp only [YP] at hh
   split at hh
   · simp only [Option.some.injEq, Prod.mk.injEq] at hh
     obtain ⟨rfl, rfl⟩ := hh
     exact ⟨im, ow, Good.refl hi rfl, fun u h => h, fun t cs h => h⟩
   · rename_i e fl els
     cases hc : ((JA hp (base + hp.length)).isNone && (τ.und e).isSome) with
     | false => rw [hc] at hh; cases hh
     | true =>
       rw [hc, cond_true] at hh
       simp only [Bool.and_eq_true, Option.isNone_iff_eq_none, Option.isSome_iff_exists] at hc
       obtain ⟨hn, d, hd⟩ := hc
       simp only [Option.some.injEq, Prod.mk.injEq] at hh
       obtain ⟨rfl, rfl⟩ := hh
       have G := JjY ok (i := base + hp.length) (e := e) (d := d) (nl := true) (w' := w) hi hn hd rfl
       have key : ∀ u, RoV im true fl els.length (fun mid => Jm τ im JB els e mid) u -> OwV τ (XD ow (base + hp.length) ⟨none, 0, .vec e 0 true, 0⟩) e (base + hp.length) [] 0 0 none u := by
         rintro u (⟨_, rfl, _⟩ | ⟨h, _⟩)
         · exact ⟨_, J9 ok, .inl ⟨rfl, rfl, rfl, rfl, .inl rfl, true, rfl, .inl ⟨rfl, rfl⟩⟩⟩
         · cases h
       refine ⟨im, _, by rw [JcA]; exact G, fun u h => ?_, fun t cs h => ?_⟩
       · simp only [Jg] at h ⊢; exact key u h
       · simp only [Rep] at h ⊢
         obtain ⟨h1, u, h2, h3⟩ := h
         exact ⟨h1, u, h2, key u h3⟩
   · cases hh
 | .ro, p, p', hp, hp', im, ow, hi, hh => by
   simp only [YP] at hh
   cases hc : Qs τ (JA hp) p with
   | none => rw [hc] at hh; cases hh
   | some r =>
     simp only [hc, Option.map_some, Option.some.injEq, Prod.mk.injEq] at hh
     obtain ⟨rfl, rfl⟩ := hh
     obtain ⟨im', g1, _, g3, g4⟩ := YQ ok p r.1 r.2 (JA hp) im (Frz.refl _) hi hc
     exact ⟨im', ow, by rw [XY]; exact g1, fun u h => (g3 u h).up, fun t cs h => (g4 t cs h).up⟩
 | .st ms, p, p', hp, hp', im, ow, hi, hh => by
   simp only [YP] at hh
   split at hh
   · rename_i t fs
     cases hc : Gw τ base hp ms fs with
     | none => rw [hc] at hh; cases hh
     | some r =>
       simp only [hc, Option.map_some, Option.some.injEq, Prod.mk.injEq] at hh
       obtain ⟨rfl, rfl⟩ := hh
       obtain ⟨im', ow', g1, g2, g3, _, g5⟩ := JeA ms fs r.1 hp r.2 im ow hi hc
       refine ⟨im', ow', g1, fun u h => ?_, fun t cs h => ?_⟩
       · simp only [Jg] at h ⊢
         obtain ⟨cs, rfl, h⟩ := h
         refine ⟨cs, rfl, ?_⟩
         rcases h with ⟨fds, k1, k2⟩ | ⟨n, e, k1, k2, k3⟩
         · exact .inl ⟨fds, k1, g2 _ _ k2⟩
         · exact .inr ⟨n, e, k1, by rw [g5, k2], g3 _ _ k3⟩
       · simp only [Rep] at h ⊢
         refine ⟨h.1, ?_⟩
         rcases h.2 with ⟨fds, k1, k2⟩ | ⟨n, e, k1, k2, k3⟩
         · exact .inl ⟨fds, k1, g2 _ _ k2⟩
         · exact .inr ⟨n, e, k1, by rw [g5, k2], g3 _ _ k3⟩
   · cases hh
 | .bx m, p, p', hp, hp', im, ow, hi, hh => by
   simp only [YP] at hh
   split at hh
   · rename_i i
     split at hh
     · rename_i t v hb
       cases h1 : YP τ base hp m v with
       | none => rw [h1] at hh; cases hh
       | some a =>
         rw [h1] at hh
         simp only at hh
         split at hh
         · rename_i t2 v2 hb2
           cases ht : (t2 == t) with
           | false => rw [ht] at hh; cases hh
           | true =>
           rw [ht, cond_true] at hh
           obtain rfl : t2 = t := by simpa using ht
           simp only [Option.some.injEq, Prod.mk.injEq] at hh
           obtain ⟨rfl, rfl⟩ := hh
           obtain ⟨im', ow', g1, g2, g3⟩ := Jez m v a.1 hp a.2 im ow hi h1
           have he : EntRep τ im' ow' i (.box false t2 a.1) w := by
            obtain ⟨loc, c1, c2, ⟨d, hd⟩, b, cells, el, fr, pre, mid, post, c3, c4, c5, c6, c7, c8, c9⟩ := hi.ent i _ hb
            obtain ⟨loc', d1, d2, d3, b', cells', el', fr', pre', mid', post', e3, e4, e5, e6, e7, e8, e9⟩ := g1.inv.ent i _ hb2
            rw [g1.owX _ _ c1] at d1
            obtain rfl := Option.some.inj d1
            rw [c3] at e3; obtain rfl := Option.some.inj e3
            rw [c4] at e4
            simp only [Option.some.injEq, Obj.cells.injEq] at e4
            obtain ⟨rfl, rfl, rfl⟩ := e4
            have l1 := Rep.len ok _ _ _ ⟨d, hd⟩ c8
            have l2 := Rep.len ok _ _ _ ⟨d, hd⟩ e8
            rw [c6, List.append_assoc, List.append_assoc] at e6
            obtain ⟨rfl, e10⟩ := List.append_inj e6 (by rw [c7, e7])
            obtain ⟨rfl, rfl⟩ := List.append_inj e10 (by rw [l1, l2])
            exact ⟨loc, g1.owX _ _ c1, c2, d3, b, cells, el, fr, pre, mid, post, c3, c4, e5, by rw [c6], c7, g3 _ _ c8, e9⟩
           refine ⟨im', ow', g1.trans (by rw [JcA]; exact Good.reb g1.inv hb2 he rfl), fun u h => Jg.mono g1.imX g1.owX _ _ h, fun t cs h => Rep.mono g1.imX g1.owX _ _ _ h⟩
         · cases hh
     · cases hh
   · cases hh
theorem JeA {base : Nat} : ∀ (ms : List Md) (l l' : List PV) (hp hp' : List (Nat × Ent)) (im : Im) (ow : Own), Inv τ im ow (JA hp) w -> Gw τ base hp ms l = some (l', hp') ->
  ∃ im' ow', Good τ im ow (JA hp) w im' ow' (JA hp') w /\ (∀ ts cs, JR τ im ow l ts cs -> JR τ im' ow' l' ts cs) /\ (∀ e cs, Jm τ im ow l e cs -> Jm τ im' ow' l' e cs) /\ (∀ us, JF τ im ow l us -> JF τ im' ow' l' us) /\ l'.length = l.length
 | [], l, l', hp, hp', im, ow, hi, hh => by
   have _ := ok
   have hh' : some (l, hp) = some (l', hp') := by cases l <;> simpa only [Gw] using hh
   simp only [Option.some.injEq, Prod.mk.injEq] at hh'
   obtain ⟨rfl, rfl⟩ := hh'
   exact ⟨im, ow, Good.refl hi rfl, fun _ _ h => h, fun _ _ h => h, fun _ h => h, rfl⟩
 | m :: ms, [], l', hp, hp', im, ow, hi, hh => by
   simp only [Gw, Option.some.injEq, Prod.mk.injEq] at hh
   obtain ⟨rfl, rfl⟩ := hh
   exact ⟨im, ow, Good.refl hi rfl, fun _ _ h => h, fun _ _ h => h, fun _ h => h, rfl⟩
 | m :: ms, p :: ps, l', hp, hp', im, ow, hi, hh => by
   simp only [Gw] at hh
   cases h1 : YP τ base hp m p with
   | none => rw [h1] at hh; cases hh
   | some a =>
    rw [h1] at hh
    simp only at hh
    cases h2 : Gw τ base a.2 ms ps with
    | none => rw [h2] at hh; cases hh
    | some b =>
     simp only [h2, Option.map_some, Option.some.injEq, Prod.mk.injEq] at hh
     obtain ⟨rfl, rfl⟩ := hh
     obtain ⟨im1, ow1, g1, g2, g3⟩ := Jez m p a.1 hp a.2 im ow hi h1
     obtain ⟨im2, ow2, k1, k2, k3, k4, k5⟩ := JeA ms ps b.1 a.2 b.2 im1 ow1 g1.inv h2
     refine ⟨im2, ow2, g1.trans k1, fun ts cs h => ?_, fun e cs h => ?_, fun us h => ?_, by simp [k5]⟩
     · simp only [JR] at h ⊢
       obtain ⟨t, r, c1, c2, rfl, rfl, m1, m2⟩ := h
       exact ⟨t, r, c1, c2, rfl, rfl, Rep.mono k1.imX k1.owX _ _ _ (g3 _ _ m1), k2 _ _ (JR.mono g1.imX g1.owX _ _ _ m2)⟩
     · simp only [Jm] at h ⊢
       obtain ⟨c1, c2, rfl, m1, m2⟩ := h
       exact ⟨c1, c2, rfl, Rep.mono k1.imX k1.owX _ _ _ (g3 _ _ m1), k3 _ _ (Jm.mono g1.imX g1.owX _ _ _ m2)⟩
     · simp only [JF] at h ⊢
       obtain ⟨u, r, rfl, m1, m2⟩ := h
       exact ⟨u, r, rfl, Jg.mono k1.imX k1.owX _ _ (g2 _ m1), k4 _ (JF.mono g1.imX g1.owX _ _ m2)⟩
end
theorem JeB {base : Nat} {nm : Nm} : ∀ (l l' : List PV) (i : Nat) (hp hp' : List (Nat × Ent)) (im : Im) (ow : Own), Inv τ im ow (JA hp) w -> ZU τ base nm hp l i = some (l', hp') ->
  ∃ im' ow', Good τ im ow (JA hp) w im' ow' (JA hp') w /\ (∀ us, JF τ im ow l us -> JF τ im' ow' l' us) /\ l'.length = l.length
 | [], l', i, hp, hp', im, ow, hi, hh => by
   simp only [ZU, Option.some.injEq, Prod.mk.injEq] at hh
   obtain ⟨rfl, rfl⟩ := hh
   exact ⟨im, ow, Good.refl hi rfl, fun _ h => h, rfl⟩
 | p :: ps, l', i, hp, hp', im, ow, hi, hh => by
   simp only [ZU] at hh
   cases hm : Jdc nm i with
   | none =>
    rw [hm] at hh
    simp only at hh
    cases h2 : ZU τ base nm hp ps (i + 1) with
    | none => rw [h2] at hh; cases hh
    | some b =>
     simp only [h2, Option.map_some, Option.some.injEq, Prod.mk.injEq] at hh
     obtain ⟨rfl, rfl⟩ := hh
     obtain ⟨im2, ow2, k1, k2, k3⟩ := JeB ps b.1 (i + 1) hp b.2 im ow hi h2
     refine ⟨im2, ow2, k1, fun us h => ?_, by simp [k3]⟩
     simp only [JF] at h ⊢
     obtain ⟨u, r, rfl, m1, m2⟩ := h
     exact ⟨u, r, rfl, by simp only [Jg], k2 _ m2⟩
   | some m =>
    rw [hm] at hh
    simp only at hh
    cases h1 : YP τ base hp m p with
    | none => rw [h1] at hh; cases hh
    | some a =>
     rw [h1] at hh
     simp only at hh
     cases h2 : ZU τ base nm a.2 ps (i + 1) with
     | none => rw [h2] at hh; cases hh
     | some b =>
      simp only [h2, Option.map_some, Option.some.injEq, Prod.mk.injEq] at hh
      obtain ⟨rfl, rfl⟩ := hh
      obtain ⟨im1, ow1, g1, g2, g3⟩ := Jez ok m p a.1 hp a.2 im ow hi h1
      obtain ⟨im2, ow2, k1, k2, k3⟩ := JeB ps b.1 (i + 1) a.2 b.2 im1 ow1 g1.inv h2
      refine ⟨im2, ow2, g1.trans k1, fun us h => ?_, by simp [k3]⟩
      simp only [JF] at h ⊢
      obtain ⟨u, r, rfl, m1, m2⟩ := h
      exact ⟨u, r, rfl, Jg.mono k1.imX k1.owX _ _ (g2 _ m1), k2 _ (JF.mono g1.imX g1.owX _ _ m2)⟩
end
section
variable {τ : Tab} {im : Im} {ow : Own}
theorem JeC : ∀ {l : List PV} {us : List Value}, us.length = l.length -> (∀ i, Jg τ im ow (l.getD i .top) (us.getD i undef)) -> JF τ im ow l us
 | [], us, hl, h => by simp only [JF]; exact List.length_eq_zero_iff.1 hl
 | p :: ps, [], hl, h => by simp at hl
 | p :: ps, u :: us, hl, h => by
  simp only [JF]
  exact ⟨u, us, rfl, by simpa using h 0, JeC (by simpa using hl) fun i => by simpa using h (i + 1)⟩
theorem Zf : ∀ {l : List PV} {us : List Value}, JF τ im ow l us -> us.length = l.length /\ ∀ i, Jg τ im ow (l.getD i .top) (us.getD i undef)
 | [], us, h => by simp only [JF] at h; subst h; exact ⟨rfl, fun i => by simp [Jg]⟩
 | p :: ps, us, h => by
  simp only [JF] at h
  obtain ⟨u, r, rfl, h1, h2⟩ := h
  obtain ⟨g1, g2⟩ := Zf h2
  refine ⟨by simp [g1], fun i => ?_⟩
  cases i with
  | zero => simpa using h1
  | succ i => simpa using g2 i
theorem FrR.toS {fr : List PV} {a : Act} (h : FrR τ im ow fr a) : JF τ im ow fr a.tmps.toList := JeC (by rw [Array.length_toList]; exact h.1) fun i => by
 have := h.2.2 i
 simpa [Array.getD_eq_getD_getElem?, List.getD_eq_getElem?_getD] using this
theorem FrR.ofS {fr : List PV} {a : Act} (hd : a.defers = []) (h : JF τ im ow fr a.tmps.toList) : FrR τ im ow fr a := by
 obtain ⟨h1, h2⟩ := Zf h
 exact ⟨by rw [← h1, Array.length_toList], hd, fun i => by have := h2 i; simpa [Array.getD_eq_getD_getElem?, List.getD_eq_getElem?_getD] using this⟩
end
theorem JaK {ρ : Nat -> Nat} : ∀ {ids : List Nat}, (ids.map ρ).Nodup -> ∀ i ∈ ids, ∀ j ∈ ids, ρ i = ρ j -> i = j
 | [], _, i, hi, _, _, _ => by cases hi
 | x :: xs, hn, i, hi, j, hj, he => by
  rw [List.map_cons, List.nodup_cons] at hn
  rcases List.mem_cons.1 hi with hi1 | hi1 <;> rcases List.mem_cons.1 hj with hj1 | hj1
  · rw [hi1, hj1]
  · exact (hn.1 (List.mem_map.2 ⟨j, hj1, by rw [← he, hi1]⟩)).elim
  · exact (hn.1 (List.mem_map.2 ⟨i, hi1, by rw [he, hj1]⟩)).elim
  · exact JaK hn.2 i hi1 j hj1 he
theorem JeD {τ : Tab} {lk : Ents} {ρ : Nat -> Nat} : ∀ {ids : List Nat}, (ids.map ρ).Nodup -> (∀ i ∈ ids, JA (Jdd τ lk ρ ids) (ρ i) = some (((lk i).getD .dead).ren τ ρ)) /\ ∀ j e, JA (Jdd τ lk ρ ids) j = some e -> ∃ i ∈ ids, ρ i = j
 | [], _ => ⟨fun i hi => (by cases hi), fun j e h => (by simp [Jdd, JA] at h)⟩
 | x :: xs, hn => by
  rw [List.map_cons, List.nodup_cons] at hn
  obtain ⟨h1, h2⟩ := JeD (τ := τ) (lk := lk) hn.2
  refine ⟨fun i hi => ?_, fun j e h => ?_⟩
  · rcases List.mem_cons.1 hi with rfl | hi
    · simp [Jdd, JA]
    · have hne : (ρ x == ρ i) = false := by
       simp only [beq_eq_false_iff_ne]
       intro he
       exact hn.1 (List.mem_map.2 ⟨i, hi, he.symm⟩)
      simp only [Jdd, JA, hne, cond_false]
      exact h1 i hi
  · simp only [Jdd, JA] at h
    cases hx : ρ x == j with
    | true => exact ⟨x, List.mem_cons_self, by simpa using hx⟩
    | false =>
      rw [hx, cond_false] at h
      obtain ⟨i, hi, hij⟩ := h2 j e h
      exact ⟨i, List.mem_cons_of_mem _ hi, hij⟩
def Jkc (ids : List Nat) (ρ : Nat -> Nat) (ow : Own) : Own := fun j => match ids.find? (fun i => ρ i == j) with | some i => ow i | none => none
theorem Jo3 {τ : Tab} {ids : List Nat} {ρ : Nat -> Nat} {ow : Own} {h h1 : Ents} (hn : (ids.map ρ).Nodup) (hcl : We τ h ids = true) (he : ∀ i ∈ ids, h1 (ρ i) = some (((h i).getD .dead).ren τ ρ)) (ho : ∀ j e, h1 j = some e -> ∃ i ∈ ids, ρ i = j) : View τ ids ρ ow h (Jkc ids ρ ow) h1 := by
 have hinj := JaK hn
 have hin : ∀ i ∈ ids, ∃ e, h i = some e /\ ∀ j ∈ e.ids τ, j ∈ ids := by
   intro i hm
   have := List.all_eq_true.1 hcl i hm
   cases he : h i with
   | none => rw [he] at this; cases this
   | some e =>
     rw [he] at this
     exact ⟨e, rfl, fun j hj => elem_iff.1 (List.all_eq_true.1 this j hj)⟩
 refine { ent := fun i hm => ?_, own := fun i hm => ?_, only := fun j hj => ?_, inj := hinj, closed := fun i hm e he' j hj => ?_ }
 · obtain ⟨e, hh, _⟩ := hin i hm
   rw [he i hm, hh]; rfl
 · unfold Jkc
   cases hf : ids.find? (fun k => ρ k == ρ i) with
   | none =>
     have := List.find?_eq_none.1 hf i hm
     simp at this
   | some k =>
     have h1 := List.find?_some hf
     have h2 := List.mem_of_find?_eq_some hf
     have := hinj k h2 i hm (by simpa using h1)
     rw [this]
 · rcases hj with ⟨e, hj⟩ | ⟨l, hj⟩
   · exact ho j e hj
   · unfold Jkc at hj
     cases hf : ids.find? (fun k => ρ k == j) with
     | none => rw [hf] at hj; cases hj
     | some k => exact ⟨k, List.mem_of_find?_eq_some hf, by simpa using List.find?_some hf⟩
 · obtain ⟨e', hh, hc⟩ := hin i hm
   rw [he'] at hh; cases hh
   exact hc j hj
def At (τ : Tab) (im0 : Im) (ow0 : Own) (h0 : Ents) (w0 : World) (s : Sta) (a : Act) (w : World) : Prop := ∃ im ow, Good τ im0 ow0 h0 w0 im ow (JA s.hp) w /\ FrR τ im ow s.fr a
section
variable {τ : Tab} {P : Program} (ok : TabOk τ P) {im0 : Im} {ow0 : Own} {h0 : Ents} {w0 : World}
include ok
theorem Wf {np : Nat} {nm : Nm} {s s2 : Sta} (hnp : ∀ i l, ow0 i = some l -> i < np) (hh : WH τ np nm s = some s2) {a : Act} {w : World} (ha : At τ im0 ow0 h0 w0 s a w) : At τ im0 ow0 h0 w0 s2 a w := by
 obtain ⟨im, ow, G, hf⟩ := ha
 unfold WH at hh
 cases hk : ZU τ (16 * (s.fr.length + 1) + 1000) nm s.hp s.fr 0 with
 | none => rw [hk] at hh; cases hh
 | some q =>
  obtain ⟨fr, hp⟩ := q
  rw [hk] at hh
  simp only at hh
  generalize hids : XU τ (JA hp) 60 (List.range np ++ Qu fr) [] = ids at hh
  generalize hρ : Jhk np (16 * (s.fr.length + 1)) ids = ρ at hh
  cases hc : (We τ (JA hp) ids && Xw (ids.map ρ) && (List.range np ++ Qu fr).all (fun j => ids.elem j)) with
  | false => rw [hc] at hh; cases hh
  | true =>
   rw [hc, cond_true] at hh
   simp only [Option.some.injEq] at hh
   subst hh
   have c1 := Bool.and_eq_true_iff.1 hc
   have c2 := Bool.and_eq_true_iff.1 c1.1
   have hsub : ∀ j ∈ List.range np ++ Qu fr, j ∈ ids := fun j hj => elem_iff.1 (List.all_eq_true.1 c1.2 j hj)
   obtain ⟨im', ow', g1, g2, _⟩ := JeB ok s.fr fr 0 s.hp hp im ow G.inv hk
   have G' := G.trans g1
   have hnd := YU c2.2
   obtain ⟨l1, l2⟩ := JeD (τ := τ) (lk := JA hp) hnd
   have hv := Jo3 (ow := ow') hnd c2.1 l1 l2
   refine ⟨im', Jkc ids ρ ow', ⟨G'.imX, fun i l hl => ?_, hv.inv G'.inv, G'.size, G'.keep, G'.newim, fun i b hl => ?_, G'.rest⟩, ?_⟩
   · have hlt := hnp i l hl
     have hm : i ∈ ids := hsub i (List.mem_append.2 (.inl (List.mem_range.2 hlt)))
     have hri : ρ i = i := by rw [← hρ]; simp [Jhk, hlt]
     have := hv.own i hm
     rw [hri] at this
     rw [this]; exact G'.owX i l hl
   · obtain ⟨i', _, _, hl'⟩ := hv.live hl
     exact G'.newlive i' b hl'
   · refine FrR.ofS hf.2.1 (JF.ren fr ow' _ (hv.reps fun j hj => hsub j (List.mem_append.2 (.inr hj))) _ (g2 _ hf.toS))
end
end Go.Proofs.YthpmachmnoljeaaGreat.Rx
end

noncomputable section
namespace Go.Proofs.YthpmachmnoljeaaGreat.Rx
open Go
set_option linter.unusedVariables false
set_option maxHeartbeats 1000000

def Gr : Ex -> Exit
 | .normal => .normal
 | .exit id => .exit id
 | .goto l => .goto l
 | .ret => .ret
theorem hasLabel_find : ∀ (c : Code) (l : Nat), hasLabel c l = (findLabel c l).isSome
 | .seq a b, l => by
  simp only [hasLabel, findLabel, hasLabel_find a l, hasLabel_find b l]
  cases findLabel a l <;> simp
 | .label l', l => by simp only [hasLabel, findLabel]; split <;> simp_all
 | .skip, l => rfl
 | .cond _ _ _, l => rfl
 | .block _ _, l => rfl
 | .loop _, l => rfl
 | .scope _, l => rfl
 | .region _ _ _, l => rfl
 | .exit _, l => rfl
 | .goto _, l => rfl
 | .ret, l => rfl
 | .rangeFunc _ _ _ _, l => rfl
 | .refuse _, l => rfl
def Gy (c : Code) (R : Nat -> Act -> World -> Prop) (Q : Exit -> Act -> World -> Prop) : Exit -> Act -> World -> Prop
 | .goto l, a, w => if hasLabel c l then R l a w else Q (.goto l) a w
 | e, a, w => Q e a w
def ScR (P : Program) (c : Code) (Q : Exit -> Act -> World -> Prop) : Nat -> Nat -> Act -> World -> Prop
 | 0, _, _, _ => False
 | n + 1, l, a, w => ∃ rest, findLabel c l = some rest /\ rest.wp P (Gy c (ScR P c Q n) Q) a w
theorem Zg {P : Program} {Q : Exit -> Act -> World -> Prop} {a : Act} {w : World} {c : Code} (n : Nat) (h : c.wp P (Gy c (ScR P c Q n) Q) a w) : (Code.scope c).wp P Q a w := by
 intro b k cs
 have after : ∀ n e a₁ w₁ (m : Machine), Gy c (ScR P c Q n) Q e a₁ w₁ -> Arrives P m b (.inScope c :: k) cs e a₁ w₁ -> (∀ n' < n + 1, ∀ l a w, ScR P c Q n' l a w -> ∃ rest, findLabel c l = some rest /\ ∃ e a' w', Q e a' w' /\ Arrives P (lone (b.at a (.code rest :: .inScope c :: k)) cs w) b k cs e a' w') ->
   ∃ e a' w', Q e a' w' /\ Arrives P m b k cs e a' w' := by
  intro n e a₁ w₁ m hq harr ih
  cases e with
  | normal => exact ⟨.normal, a₁, w₁, hq, Steps.trans harr (.one step_inScope)⟩
  | exit id => exact ⟨.exit id, a₁, w₁, hq, fun k' hk => harr k' (by simp [exitTo, hk])⟩
  | goto l =>
   simp only [Gy] at hq
   split at hq
   · obtain ⟨rest, hf, e₂, a₂, w₂, hq₂, harr₂⟩ := ih n (by omega) l a₁ w₁ hq
     exact ⟨e₂, a₂, w₂, hq₂, .of_steps (harr _ (by simp [gotoIn, hf])) harr₂⟩
   · rename_i hno
     have hnone : findLabel c l = none := by
      rw [hasLabel_find] at hno
      cases hf : findLabel c l with
      | none => rfl
      | some r => rw [hf] at hno; simp at hno
     exact ⟨.goto l, a₁, w₁, hq, fun k' hk => harr k' (by simp [gotoIn, hnone, hk])⟩
  | ret => exact ⟨_, a₁, w₁, hq, harr⟩
  | panic ch => exact ⟨_, a₁, w₁, hq, harr⟩
  | outgrown => exact ⟨_, a₁, w₁, hq, harr⟩
 have key : ∀ n, ∀ l a w, ScR P c Q n l a w -> ∃ rest, findLabel c l = some rest /\ ∃ e a' w', Q e a' w' /\ Arrives P (lone (b.at a (.code rest :: .inScope c :: k)) cs w) b k cs e a' w' := by
  intro n
  induction n using Nat.strongRecOn with
  | _ n ih =>
   intro l a w h
   cases n with
   | zero => exact h.elim
   | succ n =>
     obtain ⟨rest, hf, hw⟩ := h
     obtain ⟨e, a₁, w₁, hq, harr⟩ := hw b (.inScope c :: k) cs
     exact ⟨rest, hf, after n e a₁ w₁ _ hq harr fun n' hn' => ih n' (by omega)⟩
 obtain ⟨e, a₁, w₁, hq, harr⟩ := h b (.inScope c :: k) cs
 obtain ⟨e₂, a₂, w₂, hq₂, harr₂⟩ := after n e a₁ w₁ _ hq harr fun n' _ => key n'
 exact ⟨e₂, a₂, w₂, hq₂, .of_steps (.one step_scope) harr₂⟩

section
variable {τ : Tab} {P : Program} (ok : TabOk τ P) {F : Fns} (hFn : Jp τ P F) (hmo : P.follows .mixedOrders = true) {np : Nat}
structure Ctx (np : Nat) where
 im0 : Im
 ow0 : Own
 h0 : Ents
 w0 : World
 hnp : ∀ i l, ow0 i = some l -> i < np
def GI (τ : Tab) (P : Program) (np : Nat) (c : Code) (s : Sta) (e : Ex) (s' : Sta) : Prop :=
 ∀ (x : Ctx np) a w, At τ x.im0 x.ow0 x.h0 x.w0 s a w -> ∀ Q : Exit -> Act -> World -> Prop, (∀ a' w', At τ x.im0 x.ow0 x.h0 x.w0 s' a' w' -> Q (Gr e) a' w') -> c.wp P Q a w
include ok
theorem JcC {c : Code} {nm : Nm} {body : Sta -> Kont -> Option Res} (hb : ∀ s k res, body s k = some res -> ∃ e s', k e s' = some res /\ GI τ P np c s e s') :
  ∀ (n : Nat) (s : Sta) (k : Kont) (res : Res), Jx τ np nm body n s k = some res -> ∃ e s', k e s' = some res /\ ∃ m, ∀ (x : Ctx np) a w, At τ x.im0 x.ow0 x.h0 x.w0 s a w -> ∀ Q : Exit -> Act -> World -> Prop, (∀ a' w', At τ x.im0 x.ow0 x.h0 x.w0 s' a' w' -> Q (Gr e) a' w') -> Code.rounds P c Q m a w
 | 0, s, k, res, hh => by simp only [Jx] at hh; cases hh
 | n + 1, s, k, res, hh => by
   simp only [Jx] at hh
   obtain ⟨e, s1, h1, hsem⟩ := hb _ _ _ hh
   have other : e ≠ .normal -> k e s1 = some res -> ∃ e s', k e s' = some res /\ ∃ m, ∀ (x : Ctx np) a w, At τ x.im0 x.ow0 x.h0 x.w0 s a w -> ∀ Q : Exit -> Act -> World -> Prop, (∀ a' w', At τ x.im0 x.ow0 x.h0 x.w0 s' a' w' -> Q (Gr e) a' w') -> Code.rounds P c Q m a w := by
    intro hne hk
    refine ⟨e, s1, hk, 1, fun x a w ha Q hQ => ?_⟩
    rw [rounds_succ]
    refine hsem x a w ha _ fun a' w' ha' => ?_
    have := hQ a' w' ha'
    cases e with
    | normal => exact (hne rfl).elim
    | exit id => exact this
    | goto l => exact this
    | ret => exact this
   cases e with
   | normal =>
    simp only at h1
    cases hn : WH τ np nm s1 with
    | none => rw [hn] at h1; cases h1
    | some s2 =>
     rw [hn] at h1
     obtain ⟨e', s', hk, m, hm⟩ := JcC hb n s2 k res h1
     refine ⟨e', s', hk, m + 1, fun x a w ha Q hQ => ?_⟩
     rw [rounds_succ]
     exact hsem x a w ha _ fun a' w' ha' => hm x a' w' (Wf ok x.hnp hn ha') Q hQ
   | exit id => exact other (by simp) h1
   | goto l => exact other (by simp) h1
   | ret => exact other (by simp) h1
theorem GJ {c : Code} {nm : Nm} {frm : Nat -> Sta -> Kont -> Option Res} (hb : ∀ l s k res, frm l s k = some res -> ∃ rest, findLabel c l = some rest /\ ∃ e s', k e s' = some res /\ GI τ P np rest s e s') :
  ∀ (n l : Nat) (s : Sta) (k : Kont) (res : Res), Q5 τ np nm (hasLabel c) frm n l s k = some res -> ∃ e s', k e s' = some res /\ (∀ l, e = .goto l -> hasLabel c l = false) /\ ∃ m, ∀ (x : Ctx np) a w, At τ x.im0 x.ow0 x.h0 x.w0 s a w -> ∀ Q : Exit -> Act -> World -> Prop, (∀ a' w', At τ x.im0 x.ow0 x.h0 x.w0 s' a' w' -> Q (Gr e) a' w') -> ScR P c Q m l a w
 | 0, l, s, k, res, hh => by simp only [Q5] at hh; cases hh
 | n + 1, l, s, k, res, hh => by
   simp only [Q5] at hh
   obtain ⟨rest, hf, e, s1, h1, hsem⟩ := hb _ _ _ _ hh
   have other : (∀ l, e = .goto l -> hasLabel c l = false) -> k e s1 = some res -> ∃ e s', k e s' = some res /\ (∀ l, e = .goto l -> hasLabel c l = false) /\ ∃ m, ∀ (x : Ctx np) a w, At τ x.im0 x.ow0 x.h0 x.w0 s a w -> ∀ Q : Exit -> Act -> World -> Prop, (∀ a' w', At τ x.im0 x.ow0 x.h0 x.w0 s' a' w' -> Q (Gr e) a' w') -> ScR P c Q m l a w := by
    intro hne hk
    refine ⟨e, s1, hk, hne, 1, fun x a w ha Q hQ => ⟨rest, hf, hsem x a w ha _ fun a' w' ha' => ?_⟩⟩
    have := hQ a' w' ha'
    cases e with
    | normal => exact this
    | exit id => exact this
    | goto l => simp only [Gr, Gy, hne l rfl, Bool.false_eq_true, if_false]; exact this
    | ret => exact this
   cases e with
   | goto l2 =>
    simp only at h1
    cases hl : hasLabel c l2 with
    | false => rw [hl, cond_false] at h1; exact other (fun l3 h3 => by cases h3; exact hl) h1
    | true =>
     rw [hl, cond_true] at h1
     cases hn : WH τ np nm s1 with
     | none => rw [hn] at h1; cases h1
     | some s2 =>
      rw [hn] at h1
      obtain ⟨e', s', hk, hne, m, hm⟩ := GJ hb n l2 s2 k res h1
      refine ⟨e', s', hk, hne, m + 1, fun x a w ha Q hQ => ⟨rest, hf, hsem x a w ha _ fun a' w' ha' => ?_⟩⟩
      simp only [Gr, Gy, hl, if_true]
      exact hm x a' w' (Wf ok x.hnp hn ha') Q hQ
   | exit id => exact other (fun l h => by cases h) h1
   | normal => exact other (fun l h => by cases h) h1
   | ret => exact other (fun l h => by cases h) h1
def QT (τ : Tab) (P : Program) (np : Nat) : Code -> An -> Prop
 | .seq a b, .seq x y => QT τ P np a x /\ QT τ P np b y
 | .seq a b, .mid _ x y => QT τ P np a x /\ QT τ P np b y
 | .seq a b, .cut nm N x run => QT τ P np a x /\ ∀ vs hp k res, run vs hp k = some res -> ∃ e s', k e s' = some res /\ GI τ P np b (Ji nm N vs hp) e s'
 | .cond _ a b, .cond x y => QT τ P np a x /\ QT τ P np b y
 | .block _ c, .block _ x => QT τ P np c x
 | .loop c, .loop _ x => QT τ P np c x
 | .scope c, .scope _ x => QT τ P np c x
 | .loop c, .sum nm N run => ∀ vs hp k res, run vs hp k = some res -> ∃ e s', k e s' = some res /\ GI τ P np (.loop c) (Ji nm N vs hp) e s'
 | .scope c, .ssum nm N x run => QT τ P np c x /\ ∀ l vs hp k res, hasLabel c l = true -> run l vs hp k = some res -> ∃ e s', k e s' = some res /\ (∀ l, e = .goto l -> hasLabel c l = false) /\ ∃ m, ∀ (x : Ctx np) a w, At τ x.im0 x.ow0 x.h0 x.w0 (Ji nm N vs hp) a w -> ∀ Q : Exit -> Act -> World -> Prop, (∀ a' w', At τ x.im0 x.ow0 x.h0 x.w0 s' a' w' -> Q (Gr e) a' w') -> ScR P c Q m l a w
 | _, _ => True
omit ok in
theorem Jo4 {ρ : Nat -> Nat} : ∀ (l : List PV) (i : Nat), l.getD i .top = .top -> (Wi ρ l).getD i .top = .top
 | [], i, h => by simp [Wi]
 | p :: ps, 0, h => by
  simp only [List.getD_cons_zero] at h
  subst h
  simp only [Wi, PV.ren, List.getD_cons_zero]
 | p :: ps, i + 1, h => by
  simp only [List.getD_cons_succ] at h
  simp only [Wi, List.getD_cons_succ]
  exact Jo4 ps i h
omit ok in
theorem JcD {base : Nat} {nm : Nm} : ∀ (fr : List PV) (hp : List (Nat × Ent)) (i0 : Nat) (r : List PV × List (Nat × Ent)), ZU τ base nm hp fr i0 = some r -> ∀ i, Jdc nm (i0 + i) = none -> r.1.getD i .top = .top
 | [], hp, i0, r, h, i, hi => by
  simp only [ZU, Option.some.injEq] at h
  subst h; rfl
 | p :: ps, hp, i0, r, h, i, hi => by
  simp only [ZU] at h
  cases hm : Jdc nm i0 with
  | none =>
   rw [hm] at h
   simp only [Option.map_eq_some_iff] at h
   obtain ⟨q, hq, rfl⟩ := h
   cases i with
   | zero => rfl
   | succ i => simp only [List.getD_cons_succ]; exact JcD ps hp (i0 + 1) q hq i (by rw [← hi]; congr 1; omega)
  | some m =>
   rw [hm] at h
   simp only at h
   cases ha : YP τ base hp m p with
   | none => rw [ha] at h; cases h
   | some a =>
    rw [ha] at h
    simp only [Option.map_eq_some_iff] at h
    obtain ⟨q, hq, rfl⟩ := h
    cases i with
    | zero => rw [Nat.add_zero, hm] at hi; cases hi
    | succ i => simp only [List.getD_cons_succ]; exact JcD ps a.2 (i0 + 1) q hq i (by rw [← hi]; congr 1; omega)
omit ok in
theorem Jsj {nm : Nm} {s s2 : Sta} (h : WH τ np nm s = some s2) (i : Nat) (hi : Jdc nm i = none) : s2.fr.getD i .top = .top := by
 simp only [WH] at h
 split at h
 · cases h
 · rename_i fr hp hk
   revert h
   cases (We τ (JA hp) (XU τ (JA hp) 60 (List.range np ++ Qu fr) []) && Xw ((XU τ (JA hp) 60 (List.range np ++ Qu fr) []).map (Jhk np (16 * (s.fr.length + 1)) (XU τ (JA hp) 60 (List.range np ++ Qu fr) []))) && (List.range np ++ Qu fr).all (fun j => (XU τ (JA hp) 60 (List.range np ++ Qu fr) []).elem j)) with
   | false => intro h; cases h
   | true =>
    intro h
    rw [cond_true, Option.some.injEq] at h
    subst h
    exact Jo4 _ _ (JcD _ _ 0 _ hk i (by rw [Nat.zero_add]; exact hi))
omit ok in
theorem JeE (fr : List PV) (i : Nat) : ∀ nm : Nm, (Jdc nm i = none -> fr.getD i .top = .top) -> Jrg nm (YO nm fr) i = fr.getD i .top
 | [], h => by simpa [Jrg] using (h rfl).symm
 | (j, m) :: r, h => by
  simp only [YO, List.map_cons, Jrg]
  cases hj : j == i with
  | true => rw [beq_iff_eq] at hj; subst hj; rfl
  | false =>
   rw [cond_false]
   exact JeE fr i r fun hr => h (by simp only [Jdc, hj, cond_false]; exact hr)
omit ok in
theorem Jkd {nm : Nm} {vs : List PV} : ∀ (fr : List PV) (i : Nat), (∀ j, Jrg nm vs (i + j) = fr.getD j .top) -> JoV nm vs fr.length i = fr
 | [], i, h => rfl
 | p :: ps, i, h => by
  simp only [List.length_cons, JoV]
  have h0 := h 0
  rw [Nat.add_zero, List.getD_cons_zero] at h0
  rw [h0, Jkd ps (i + 1) fun j => by have := h (j + 1); rw [List.getD_cons_succ] at this; rw [← this]; congr 1; omega]
omit ok in
theorem JcE {nm : Nm} {s s2 : Sta} (h : WH τ np nm s = some s2) : Ji nm s2.fr.length (YO nm s2.fr) s2.hp = s2 := by
 simp only [Ji]
 rw [Jkd s2.fr 0 fun j => by rw [Nat.zero_add]; exact JeE _ _ _ (Jsj h j)]
include hFn hmo
mutual
theorem XZ {n : Nat} : ∀ (c : Code) (an : An) (s : Sta) (k : Kont) (res : Res), QT τ P np c an -> ev τ F np n c an s k = some res -> ∃ e s', k e s' = some res /\ GI τ P np c s e s'
 | .skip, an, s, k, res, hA, hh => by
  have hh : k .normal s = some res := by simpa only [ev] using hh
  exact ⟨.normal, s, hh, fun x a w ha Q hQ => wp_skip (hQ a w ha)⟩
 | .label l, an, s, k, res, hA, hh => by
  have hh : k .normal s = some res := by simpa only [ev] using hh
  exact ⟨.normal, s, hh, fun x a w ha Q hQ => wp_label (hQ a w ha)⟩
 | .exit id, an, s, k, res, hA, hh => by
  have hh : k (.exit id) s = some res := by simpa only [ev] using hh
  exact ⟨_, s, hh, fun x a w ha Q hQ => wp_exit (hQ a w ha)⟩
 | .goto l, an, s, k, res, hA, hh => by
  have hh : k (.goto l) s = some res := by simpa only [ev] using hh
  exact ⟨_, s, hh, fun x a w ha Q hQ => wp_goto (hQ a w ha)⟩
 | .ret, an, s, k, res, hA, hh => by
  have hh : k .ret s = some res := by simpa only [ev] using hh
  exact ⟨_, s, hh, fun x a w ha Q hQ => wp_ret (hQ a w ha)⟩
 | .region id ops draw, an, s, k, res, hA, hh => by
  have hh : (bif draw then Z3 τ F ops ops.toList 0 [] [] s fun s' => k .normal s' else Jgp τ F ops ops.toList s fun s' => k .normal s') = some res := by simpa only [ev] using hh
  cases draw with
  | true =>
   rw [cond_true] at hh
   obtain ⟨s', hk, hd⟩ := Jrv ok hFn hmo hh
   refine ⟨.normal, s', hk, fun x a w ha Q hQ => ?_⟩
   obtain ⟨im, ow, G, hf⟩ := ha
   exact hd im ow a w id hf G.inv Q fun a' w' im' ow' g f => hQ a' w' ⟨im', ow', G.trans g, f⟩
  | false =>
   rw [cond_false] at hh
   obtain ⟨s', hk, hd⟩ := Jex ok hFn hh
   refine ⟨.normal, s', hk, fun x a w ha Q hQ => wp_region_list ?_⟩
   obtain ⟨im, ow, G, hf⟩ := ha
   exact hd im ow a w hf G.inv Q fun a' w' im' ow' g f => hQ a' w' ⟨im', ow', G.trans g, f⟩
 | .seq c1 c2, an, s, k, res, hA, hh => by
  cases an with
  | seq p q =>
   simp only [ev] at hh
   obtain ⟨e, s1, h1, hsem⟩ := XZ c1 p s _ res hA.1 hh
   have other : e ≠ .normal -> k e s1 = some res -> ∃ e s', k e s' = some res /\ GI τ P np (.seq c1 c2) s e s' := by
     intro hne hk
     refine ⟨e, s1, hk, fun x a w ha Q hQ => wp_seq (hsem x a w ha _ fun a' w' ha' => ?_)⟩
     have := hQ a' w' ha'
     cases e with
     | normal => exact (hne rfl).elim
     | exit id => exact this
     | goto l => exact this
     | ret => exact this
   cases e with
   | normal =>
     obtain ⟨e', s', hk, hs2⟩ := XZ c2 q s1 k res hA.2 h1
     exact ⟨e', s', hk, fun x a w ha Q hQ => wp_seq (hsem x a w ha _ fun a' w' ha' => hs2 x a' w' ha' Q hQ)⟩
   | exit id => exact other (by simp) h1
   | goto l => exact other (by simp) h1
   | ret => exact other (by simp) h1
  | mid nm p q =>
   simp only [ev] at hh
   obtain ⟨e, s1, h1, hsem⟩ := XZ c1 p s _ res hA.1 hh
   have other : e ≠ .normal -> k e s1 = some res -> ∃ e s', k e s' = some res /\ GI τ P np (.seq c1 c2) s e s' := by
     intro hne hk
     refine ⟨e, s1, hk, fun x a w ha Q hQ => wp_seq (hsem x a w ha _ fun a' w' ha' => ?_)⟩
     have := hQ a' w' ha'
     cases e with
     | normal => exact (hne rfl).elim
     | exit id => exact this
     | goto l => exact this
     | ret => exact this
   cases e with
   | normal =>
     simp only at h1
     cases hn : WH τ np nm s1 with
     | none => rw [hn] at h1; cases h1
     | some s3 =>
      rw [hn] at h1
      obtain ⟨e', s', hk, hs2⟩ := XZ c2 q s3 k res hA.2 h1
      exact ⟨e', s', hk, fun x a w ha Q hQ => wp_seq (hsem x a w ha _ fun a' w' ha' => hs2 x a' w' (Wf ok x.hnp hn ha') Q hQ)⟩
   | exit id => exact other (by simp) h1
   | goto l => exact other (by simp) h1
   | ret => exact other (by simp) h1
  | cut nm N p run =>
   simp only [ev] at hh
   obtain ⟨e, s1, h1, hsem⟩ := XZ c1 p s _ res hA.1 hh
   have other : e ≠ .normal -> k e s1 = some res -> ∃ e s', k e s' = some res /\ GI τ P np (.seq c1 c2) s e s' := by
     intro hne hk
     refine ⟨e, s1, hk, fun x a w ha Q hQ => wp_seq (hsem x a w ha _ fun a' w' ha' => ?_)⟩
     have := hQ a' w' ha'
     cases e with
     | normal => exact (hne rfl).elim
     | exit id => exact this
     | goto l => exact this
     | ret => exact this
   cases e with
   | normal =>
     simp only at h1
     cases hn : WH τ np nm s1 with
     | none => rw [hn] at h1; cases h1
     | some s3 =>
      rw [hn] at h1
      simp only at h1
      cases hN : s3.fr.length == N with
      | false => rw [hN, cond_false] at h1; cases h1
      | true =>
       rw [hN, cond_true] at h1
       have hN : s3.fr.length = N := by simpa using hN
       obtain ⟨e', s', hk, hs2⟩ := hA.2 _ _ _ _ h1
       rw [← hN, JcE hn] at hs2
       exact ⟨e', s', hk, fun x a w ha Q hQ => wp_seq (hsem x a w ha _ fun a' w' ha' => hs2 x a' w' (Wf ok x.hnp hn ha') Q hQ)⟩
   | exit id => exact other (by simp) h1
   | goto l => exact other (by simp) h1
   | ret => exact other (by simp) h1
  | _ => simp only [ev] at hh; cases hh
 | .cond c c1 c2, an, s, k, res, hA, hh => by
  cases an with
  | cond p q =>
   simp only [ev] at hh
   split at hh
   · rename_i t ht
     have hev : ∀ {x : Ctx np} {a : Act} {w : World}, At τ x.im0 x.ow0 x.h0 x.w0 s a w -> a.eval c = .bool t := by
      rintro x a w ⟨im, ow, G, hf⟩
      have := Jsh hf c
      rw [ht] at this
      simp only [Jg] at this
      exact this.1
     cases t with
     | true =>
      rw [cond_true] at hh
      obtain ⟨e', s', hk, hs2⟩ := XZ c1 p s k res hA.1 hh
      exact ⟨e', s', hk, fun x a w ha Q hQ => wp_cond_true (hev ha) (hs2 x a w ha Q hQ)⟩
     | false =>
      rw [cond_false] at hh
      obtain ⟨e', s', hk, hs2⟩ := XZ c2 q s k res hA.2 hh
      exact ⟨e', s', hk, fun x a w ha Q hQ => wp_cond_false (hev ha) (hs2 x a w ha Q hQ)⟩
   · cases hh
  | _ => simp only [ev] at hh; cases hh
 | .block id c, an, s, k, res, hA, hh => by
  cases an with
  | block nm p =>
   simp only [ev] at hh
   obtain ⟨e, s1, h1, hsem⟩ := XZ c p s _ res hA hh
   have fall : (∀ a w (Q : Exit -> Act -> World -> Prop), Q .normal a w -> Exit.inBlock id Q (Gr e) a w) -> ∀ nm' : Option Nm, (match nm' with | none => k .normal s1 | some nm => match WH τ np nm s1 with | some s2 => k .normal s2 | none => none) = some res -> ∃ e s', k e s' = some res /\ GI τ P np (.block id c) s e s' := by
     intro hq nm' hk
     cases nm' with
     | none => exact ⟨.normal, s1, hk, fun x a w ha Q hQ => wp_block (hsem x a w ha _ fun a' w' ha' => hq a' w' Q (hQ a' w' ha'))⟩
     | some nm =>
      simp only at hk
      cases hn : WH τ np nm s1 with
      | none => rw [hn] at hk; cases hk
      | some s2 =>
       rw [hn] at hk
       exact ⟨.normal, s2, hk, fun x a w ha Q hQ => wp_block (hsem x a w ha _ fun a' w' ha' => hq a' w' Q (hQ a' w' (Wf ok x.hnp hn ha')))⟩
   cases e with
   | normal => exact fall (fun a w Q hq => hq) nm h1
   | exit i =>
     simp only at h1
     cases hi : i == id with
     | true =>
      rw [hi, cond_true] at h1
      have hie : i = id := by simpa using hi
      exact fall (fun a w Q hq => by simp only [Gr, Exit.inBlock, if_pos hie]; exact hq) nm h1
     | false =>
      rw [hi, cond_false] at h1
      have hne : i ≠ id := by simpa using hi
      exact ⟨_, s1, h1, fun x a w ha Q hQ => wp_block (hsem x a w ha _ fun a' w' ha' => by simp only [Gr, Exit.inBlock, if_neg hne]; exact hQ a' w' ha')⟩
   | goto l => exact ⟨_, s1, h1, fun x a w ha Q hQ => wp_block (hsem x a w ha _ fun a' w' ha' => hQ a' w' ha')⟩
   | ret => exact ⟨_, s1, h1, fun x a w ha Q hQ => wp_block (hsem x a w ha _ fun a' w' ha' => hQ a' w' ha')⟩
  | _ => simp only [ev] at hh; cases hh
 | .loop c, an, s, k, res, hA, hh => by
  cases an with
  | loop nm p =>
   simp only [ev] at hh
   cases hn : WH τ np nm s with
   | none => rw [hn] at hh; cases hh
   | some s2 =>
     rw [hn] at hh
     obtain ⟨e, s', hk, m, hm⟩ := JcC ok (c := c) (fun s k res h => XZ c p s k res hA h) n s2 k res hh
     exact ⟨e, s', hk, fun x a w ha Q hQ => wp_loop_rounds m (hm x a w (Wf ok x.hnp hn ha) Q hQ)⟩
  | sum nm N run =>
   simp only [ev] at hh
   cases hn : WH τ np nm s with
   | none => rw [hn] at hh; cases hh
   | some s2 =>
     rw [hn] at hh
     simp only at hh
     cases hN : s2.fr.length == N with
     | false => rw [hN] at hh; cases hh
     | true =>
      rw [hN, cond_true] at hh
      obtain ⟨e, s', hk, hs⟩ := hA _ _ _ _ hh
      rw [beq_iff_eq] at hN
      rw [← hN, JcE hn] at hs
      exact ⟨e, s', hk, fun x a w ha Q hQ => hs x a w (Wf ok x.hnp hn ha) Q hQ⟩
  | _ => simp only [ev] at hh; cases hh
 | .scope c, an, s, k, res, hA, hh => by
  cases an with
  | scope nm p =>
   simp only [ev] at hh
   obtain ⟨e, s1, h1, hsem⟩ := XZ c p s _ res hA hh
   have other : (∀ l, e = .goto l -> hasLabel c l = false) -> k e s1 = some res -> ∃ e s', k e s' = some res /\ GI τ P np (.scope c) s e s' := by
     intro hne hk
     refine ⟨e, s1, hk, fun x a w ha Q hQ => Zg 0 (hsem x a w ha _ fun a' w' ha' => ?_)⟩
     have := hQ a' w' ha'
     cases e with
     | normal => exact this
     | exit id => exact this
     | goto l => simp only [Gr, Gy, hne l rfl, Bool.false_eq_true, if_false]; exact this
     | ret => exact this
   cases e with
   | goto l =>
     simp only at h1
     cases hl : hasLabel c l with
     | false => rw [hl, cond_false] at h1; exact other (fun l3 h3 => by cases h3; exact hl) h1
     | true =>
      rw [hl, cond_true] at h1
      cases hn : WH τ np nm s1 with
      | none => rw [hn] at h1; cases h1
      | some s2 =>
       rw [hn] at h1
       obtain ⟨e', s', hk, hne, m, hm⟩ := GJ ok (c := c) (fun l s k res h => VX c p l s k res hA h) n l s2 k res h1
       refine ⟨e', s', hk, fun x a w ha Q hQ => Zg m (hsem x a w ha _ fun a' w' ha' => ?_)⟩
       simp only [Gr, Gy, hl, if_true]
       exact hm x a' w' (Wf ok x.hnp hn ha') Q hQ
   | exit id => exact other (fun l h => by cases h) h1
   | normal => exact other (fun l h => by cases h) h1
   | ret => exact other (fun l h => by cases h) h1
  | ssum nm N p run =>
   simp only [ev] at hh
   obtain ⟨e, s1, h1, hsem⟩ := XZ c p s _ res hA.1 hh
   have other : (∀ l, e = .goto l -> hasLabel c l = false) -> k e s1 = some res -> ∃ e s', k e s' = some res /\ GI τ P np (.scope c) s e s' := by
     intro hne hk
     refine ⟨e, s1, hk, fun x a w ha Q hQ => Zg 0 (hsem x a w ha _ fun a' w' ha' => ?_)⟩
     have := hQ a' w' ha'
     cases e with
     | normal => exact this
     | exit id => exact this
     | goto l => simp only [Gr, Gy, hne l rfl, Bool.false_eq_true, if_false]; exact this
     | ret => exact this
   cases e with
   | goto l =>
     simp only at h1
     cases hl : hasLabel c l with
     | false => rw [hl, cond_false] at h1; exact other (fun l3 h3 => by cases h3; exact hl) h1
     | true =>
      rw [hl, cond_true] at h1
      cases hn : WH τ np nm s1 with
      | none => rw [hn] at h1; cases h1
      | some s2 =>
       rw [hn] at h1
       simp only at h1
       cases hN : s2.fr.length == N with
       | false => rw [hN] at h1; cases h1
       | true =>
        rw [hN, cond_true] at h1
        obtain ⟨e', s', hk, hne, m, hm⟩ := hA.2 _ _ _ _ _ hl h1
        rw [beq_iff_eq] at hN
        rw [← hN, JcE hn] at hm
        refine ⟨e', s', hk, fun x a w ha Q hQ => Zg m (hsem x a w ha _ fun a' w' ha' => ?_)⟩
        simp only [Gr, Gy, hl, if_true]
        exact hm x a' w' (Wf ok x.hnp hn ha') Q hQ
   | exit id => exact other (fun l h => by cases h) h1
   | normal => exact other (fun l h => by cases h) h1
   | ret => exact other (fun l h => by cases h) h1
  | _ => simp only [ev] at hh; cases hh
 | .rangeFunc _ _ _ _, an, s, k, res, hA, hh => by simp only [ev] at hh; cases hh
 | .refuse _, an, s, k, res, hA, hh => by simp only [ev] at hh; cases hh
theorem VX {n : Nat} : ∀ (c : Code) (an : An) (l : Nat) (s : Sta) (k : Kont) (res : Res), QT τ P np c an -> Qh τ F np n c an l s k = some res -> ∃ rest, findLabel c l = some rest /\ ∃ e s', k e s' = some res /\ GI τ P np rest s e s'
 | .seq c1 c2, an, l, s, k, res, hA, hh => by
  cases an with
  | seq p q =>
   simp only [Qh] at hh
   cases hl : hasLabel c1 l with
   | true =>
    rw [hl, cond_true] at hh
    obtain ⟨rest, hf, e, s1, h1, hsem⟩ := VX c1 p l s _ res hA.1 hh
    refine ⟨.seq rest c2, by simp only [findLabel, hf], ?_⟩
    have other : e ≠ .normal -> k e s1 = some res -> ∃ e s', k e s' = some res /\ GI τ P np (.seq rest c2) s e s' := by
     intro hne hk
     refine ⟨e, s1, hk, fun x a w ha Q hQ => wp_seq (hsem x a w ha _ fun a' w' ha' => ?_)⟩
     have := hQ a' w' ha'
     cases e with
     | normal => exact (hne rfl).elim
     | exit id => exact this
     | goto l => exact this
     | ret => exact this
    cases e with
    | normal =>
     obtain ⟨e', s', hk, hs2⟩ := XZ c2 q s1 k res hA.2 h1
     exact ⟨e', s', hk, fun x a w ha Q hQ => wp_seq (hsem x a w ha _ fun a' w' ha' => hs2 x a' w' ha' Q hQ)⟩
    | exit id => exact other (by simp) h1
    | goto l => exact other (by simp) h1
    | ret => exact other (by simp) h1
   | false =>
    rw [hl, cond_false] at hh
    obtain ⟨rest, hf, hr⟩ := VX c2 q l s k res hA.2 hh
    rw [hasLabel_find] at hl
    refine ⟨rest, ?_, hr⟩
    cases hx : findLabel c1 l with
    | none => simp only [findLabel, hx]; exact hf
    | some r => rw [hx] at hl; cases hl
  | _ => simp only [Qh] at hh; cases hh
 | .label l', an, l, s, k, res, hA, hh => by
  have hh : (bif l' == l then k .normal s else none) = some res := by simpa only [Qh] using hh
  cases hl : l' == l with
  | false => rw [hl] at hh; cases hh
  | true =>
   rw [hl, cond_true] at hh
   exact ⟨.skip, by simp only [findLabel, hl, if_true], .normal, s, hh, fun x a w ha Q hQ => wp_skip (hQ a w ha)⟩
 | .skip, an, l, s, k, res, hA, hh => by
  have _ := ok; have _ := hFn; have _ := hmo
  simp only [Qh] at hh; cases hh
 | .cond _ _ _, an, l, s, k, res, hA, hh => by simp only [Qh] at hh; cases hh
 | .block _ _, an, l, s, k, res, hA, hh => by simp only [Qh] at hh; cases hh
 | .loop _, an, l, s, k, res, hA, hh => by simp only [Qh] at hh; cases hh
 | .scope _, an, l, s, k, res, hA, hh => by simp only [Qh] at hh; cases hh
 | .region _ _ _, an, l, s, k, res, hA, hh => by simp only [Qh] at hh; cases hh
 | .exit _, an, l, s, k, res, hA, hh => by simp only [Qh] at hh; cases hh
 | .goto _, an, l, s, k, res, hA, hh => by simp only [Qh] at hh; cases hh
 | .ret, an, l, s, k, res, hA, hh => by simp only [Qh] at hh; cases hh
 | .rangeFunc _ _ _ _, an, l, s, k, res, hA, hh => by simp only [Qh] at hh; cases hh
 | .refuse _, an, l, s, k, res, hA, hh => by simp only [Qh] at hh; cases hh
end
end
end Go.Proofs.YthpmachmnoljeaaGreat.Rx
end

noncomputable section
namespace Go.Proofs.YthpmachmnoljeaaGreat.Rx
open Go
set_option linter.unusedVariables false
set_option maxHeartbeats 1000000

def Jke (tmps : Array Value) : ResultVar -> Sem Value
 | .tmp t => pure (tmps.getD t undef)
 | .cell a t => do loadVar t (← asAddr (tmps.getD a undef))
theorem JlV (fn : Func) (tmps : Array Value) : results fn tmps = (do let vs ← fn.results.mapM (Jke tmps); pure (if h : vs.size = 1 then vs[0] else .tuple vs)) := by
 have : (fun x => match x with | ResultVar.tmp t => pure (tmps.getD t undef) | .cell a t => do loadVar t (← asAddr (tmps.getD a undef)) : ResultVar -> Sem Value) = Jke tmps := by funext x; cases x <;> rfl
 rw [← this]; rfl
theorem JgE : ∀ (es : List Ent) (n j : Nat), JA (Jrh es n) j = if n <= j then es[j - n]? else none
 | [], n, j => by simp [Jrh, JA]
 | e :: r, n, j => by
  simp only [Jrh, JA, JgE r (n + 1) j]
  by_cases hj : n = j
  · subst hj; simp
  · have hb : (n == j) = false := by simpa using hj
    rw [hb, cond_false]
    by_cases hl : n <= j
    · have h1 : n + 1 <= j := by omega
      rw [if_pos h1, if_pos hl, show j - n = (j - (n + 1)) + 1 from by omega, List.getElem?_cons_succ]
    · rw [if_neg (by omega), if_neg hl]
theorem Jrw {es : List Ent} (h : es.length <= 15) : JA (Jrh es 0) = JQ es [] := by
 funext j
 rw [JgE, if_pos (Nat.zero_le j), Nat.sub_zero]
 by_cases hj : j < 16
 · rw [Ws hj]
 · rw [W2 (by omega), List.getElem?_eq_none (by omega)]; simp
section
variable {τ : Tab} {P : Program} (ok : TabOk τ P)
include ok
theorem JhD {s : Sta} {im : Im} {ow : Own} {a : Act} {w : World} (hi : Inv τ im ow (JA s.hp) w) (hf : FrR τ im ow s.fr a) : ∀ (rs : List ResultVar) (l : List PV), Jge τ s rs = some l ->
  ∃ vs, (rs.mapM (Jke a.tmps)).run P w = Result.ok vs w /\ JF τ im ow l vs
 | [], l, hh => by
   simp only [Jge, Option.some.injEq] at hh
   subst hh
   exact ⟨[], by simp, by simp only [JF]⟩
 | .tmp t :: r, l, hh => by
   simp only [Jge] at hh
   cases hr : Jge τ s r with
   | none => rw [hr] at hh; cases hh
   | some l' =>
     simp only [hr, Option.map_some, Option.some.injEq] at hh
     subst hh
     obtain ⟨vs, g1, g2⟩ := JhD hi hf r l' hr
     refine ⟨a.tmps.getD t undef :: vs, ?_, ?_⟩
     · simp only [List.mapM_cons, Jke, Sem.run_bind, Sem.run_pure, Result.andThen_ok, g1]
     · simp only [JF]; exact ⟨_, _, rfl, hf.2.2 t, g2⟩
 | .cell c t :: r, l, hh => by
   simp only [Jge] at hh
   split at hh
   · rename_i id p hp
     split at hh
     · rename_i ent he
       split at hh
       · rename_i u via v hg
         cases hc : (u == t && !via) with
         | false => rw [hc] at hh; cases hh
         | true =>
          rw [hc, cond_true] at hh
          have hut : u = t := by simpa using (Bool.and_eq_true_iff.1 hc).1
          subst hut
          cases hr : Jge τ s r with
          | none => rw [hr] at hh; cases hh
          | some l' =>
           simp only [hr, Option.map_some, Option.some.injEq] at hh
           subst hh
           obtain ⟨vs, g1, g2⟩ := JhD hi hf r l' hr
           have h1 := hf.2.2 c
           rw [hp] at h1
           simp only [Jg] at h1
           obtain ⟨loc, b, off, ty, q1, q2, q3, q4⟩ := h1
           obtain ⟨rfl, ⟨d, hd⟩, cells, el, fr, pre, mid, post, m1, m2, m3, m4, m5, m6, _⟩ := Jlr ok (hi.ent id ent he) q1 q2 hg q3
           refine ⟨J5 (τ.agg u) mid :: vs, ?_, ?_⟩
           · simp only [List.mapM_cons, Jke, Sem.run_bind, q4, asAddr, Sem.run_pure, Result.andThen_ok, WJ ok hd m1 m3 m5 m4, g1]
           · simp only [JF]; exact ⟨_, _, rfl, Rep.toV ok hd m6, g2⟩
       · cases hh
     · cases hh
   · cases hh
theorem Jrx {fn : Func} {md : List Md} {m : Nat} {s : Sta} {k : Res -> Option Res} {res : Res} (hm : m <= 15) (hh : Jek τ fn.results.toList md m s k = some res) :
  ∃ r, k r = some res /\ ∀ (x : Ctx m) a w, At τ x.im0 x.ow0 x.h0 x.w0 s a w -> ∃ v, (results fn a.tmps).run P w = .ok v w /\ ∃ im' ow', Jg τ im' ow' r.val v /\ Good τ x.im0 x.ow0 x.h0 x.w0 im' ow' (JQ r.pars r.news) w := by
 unfold Jek at hh
 cases hr : Jge τ s fn.results.toList with
 | none => rw [hr] at hh; cases hh
 | some l0 =>
  rw [hr] at hh
  simp only at hh
  cases hc : Gw τ (16 * (s.fr.length + 1) + 1000) s.hp md l0 with
  | none => rw [hc] at hh; cases hh
  | some q =>
   obtain ⟨l, hp⟩ := q
   rw [hc] at hh
   simp only at hh
   generalize hids : XU τ (JA hp) 60 (List.range m ++ Qu l) [] = ids at hh
   generalize hρ : Jhk m (16 - m) ids = ρ at hh
   cases hck : (We τ (JA hp) ids && Xw ids && Xw (ids.map ρ) && (List.range m ++ Qu l).all (fun j => ids.elem j) && (ids.take m == List.range m)) with
   | false => rw [hck] at hh; cases hh
   | true =>
    rw [hck, cond_true] at hh
    have c1 := Bool.and_eq_true_iff.1 hck
    have c2 := Bool.and_eq_true_iff.1 c1.1
    have c3 := Bool.and_eq_true_iff.1 c2.1
    have c4 := Bool.and_eq_true_iff.1 c3.1
    have hsub : ∀ j ∈ List.range m ++ Qu l, j ∈ ids := fun j hj => elem_iff.1 (List.all_eq_true.1 c2.2 j hj)
    have htake : ids.take m = List.range m := eq_of_beq c1.2
    have hnd := YU c4.2
    have hnr := YU c3.2
    refine ⟨_, hh, fun x a w ha => ?_⟩
    obtain ⟨im, ow, G, hf⟩ := ha
    obtain ⟨vs, v1, v2⟩ := JhD ok G.inv hf _ l0 hr
    obtain ⟨im', ow', g1, _, _, g4, _⟩ := JeA ok md l0 l s.hp hp im ow G.inv hc
    have G' := G.trans g1
    have hvs := g4 vs v2
    have hidx : ∀ k i, ids[k]? = some i -> (k < m -> i = k) /\ (m <= k -> m <= i) := by
      intro k i hk
      have low : ∀ j, j < m -> ids[j]? = some j := by
        intro j hj
        have h1 : (ids.take m)[j]? = some j := by rw [htake]; simp [hj]
        rw [List.getElem?_take, if_pos hj] at h1
        exact h1
      refine ⟨fun h => ?_, fun h => ?_⟩
      · rw [low k h] at hk; cases hk; rfl
      · rcases Nat.lt_or_ge i m with h2 | h2
        · have := Jsf hnd hk (low i h2); omega
        · exact h2
    have hρk : ∀ k i, ids[k]? = some i -> (k < m -> ρ i = k) /\ (m <= k -> ρ i = 16 + (k - m)) := by
      intro k i hk
      obtain ⟨q1, q2⟩ := hidx k i hk
      refine ⟨fun h => ?_, fun h => ?_⟩
      · have := q1 h; subst this
        rw [← hρ]; simp [Jhk, h]
      · have := q2 h
        rw [← hρ]
        have hd : decide (i < m) = false := by simp; omega
        simp only [Jhk, hd, cond_false, JlR hnd hk, Option.getD_some]
        omega
    have he : ∀ i ∈ ids, JQ ((List.range m).map fun i => ((JA hp i).getD .dead).ren τ ρ) ((ids.drop m).map fun i => ((JA hp i).getD .dead).ren τ ρ) (ρ i) = some (((JA hp i).getD .dead).ren τ ρ) := by
      intro i hmem
      obtain ⟨k, hk, hkl⟩ := GH hmem
      rcases Nat.lt_or_ge k m with h | h
      · have hik := (hidx k i hk).1 h
        subst hik
        rw [(hρk i i hk).1 h, Ws (by omega)]
        simp [h]
      · rw [(hρk k i hk).2 h, W2 (by omega), show 16 + (k - m) - 16 = k - m from by omega, List.getElem?_map, List.getElem?_drop, show m + (k - m) = k from by omega, hk]
        rfl
    have hlm : m <= ids.length := by
      have := congrArg List.length htake
      simp at this; omega
    have ho : ∀ j e, JQ ((List.range m).map fun i => ((JA hp i).getD .dead).ren τ ρ) ((ids.drop m).map fun i => ((JA hp i).getD .dead).ren τ ρ) j = some e -> ∃ i ∈ ids, ρ i = j := by
      intro j e hj
      by_cases h16 : j < 16
      · rw [Ws h16] at hj
        have hlt := (List.getElem?_eq_some_iff.1 hj).1
        simp only [List.length_map, List.length_range] at hlt
        have hk : ids[j]? = some ids[j] := List.getElem?_eq_getElem (by omega)
        exact ⟨_, List.mem_of_getElem? hk, (hρk j _ hk).1 hlt⟩
      · rw [W2 (by omega)] at hj
        have hlt := (List.getElem?_eq_some_iff.1 hj).1
        simp only [List.length_map, List.length_drop] at hlt
        have hk : ids[m + (j - 16)]? = some ids[m + (j - 16)] := List.getElem?_eq_getElem (by omega)
        exact ⟨_, List.mem_of_getElem? hk, by rw [(hρk _ _ hk).2 (by omega)]; omega⟩
    have hv := Jo3 (ow := ow') hnr c4.1 he ho
    have hren := JF.ren l ow' _ (hv.reps fun j hj => hsub j (List.mem_append.2 (.inr hj))) vs hvs
    have hrun : (results fn a.tmps).run P w = .ok (if h : vs.toArray.size = 1 then vs.toArray[0] else .tuple vs.toArray) w := by
      rw [JlV, Array.mapM_eq_mapM_toList, ← bind_pure_comp]
      simp only [Sem.run_bind]
      rw [v1]
      simp only [Result.andThen_ok, Sem.run_pure]
    refine ⟨_, hrun, im', Jkc ids ρ ow', ?_, ⟨G'.imX, fun i l2 hl => ?_, hv.inv G'.inv, G'.size, G'.keep, G'.newim, fun i b hl => ?_, G'.rest⟩⟩
    · have hlen := (Zf hvs).1
      match l, vs, hlen, hren with
      | [p], [u], _, hren =>
        simp only [Wi, JF] at hren
        obtain ⟨u', r', h1, h2, h3⟩ := hren
        simp only [List.cons.injEq] at h1
        obtain ⟨rfl, rfl⟩ := h1
        simpa using h2
      | [], [], _, hren =>
        simp only [List.size_toArray, List.length_nil, Jg]
        exact ⟨#[], by simp, by simpa using hren⟩
      | p :: q :: r, u :: x :: vs, _, hren =>
        have : ¬ (u :: x :: vs).toArray.size = 1 := by simp
        rw [dif_neg this]
        simp only [Jg]
        exact ⟨_, rfl, by simpa using hren⟩
    · have hlt := x.hnp i l2 hl
      have hmem : i ∈ ids := hsub i (List.mem_append.2 (.inl (List.mem_range.2 hlt)))
      have hri : ρ i = i := by rw [← hρ]; simp [Jhk, hlt]
      have := hv.own i hmem
      rw [hri] at this
      rw [this]; exact G'.owX i l2 hl
    · obtain ⟨i', _, _, hl'⟩ := hv.live hl
      exact G'.newlive i' b hl'
theorem JhE {F : Fns} (hFn : Jp τ P F) (hmo : P.follows .mixedOrders = true) {g : FuncId} {fn : Func} {c : Code} (hf : P.funcs[g]? = some fn) (hb : fn.body = some c) (an : An) (md : List Md) (n m : Nat) (own : List Bool) (hA : QT τ P m c an) :
   Jc τ P g { own := own, run := fun xs es k => bif es.length == m then JI τ F fn c an md n xs es k else none } := by
 intro xs es k res hlen hh
 have hm : es.length = m := by
   cases hm : es.length == m with
   | true => simpa using hm
   | false => simp only [hm, cond_false] at hh; cases hh
 have hmb : (es.length == m) = true := by simpa using hm
 simp only [JI, hmb, cond_true] at hh
 have main : ∀ (im : Im) (ow : Own) (w : World), Inv τ im ow (JQ es []) w -> ∀ i l, ow i = some l -> i < es.length := by
   intro im ow w hi i l hl
   obtain ⟨e, he⟩ := hi.dom i l hl
   by_cases h16 : i < 16
   · rw [Ws h16] at he; exact (List.getElem?_eq_some_iff.1 he).1
   · rw [W2 (by omega)] at he; simp at he
 obtain ⟨e, s', h1, hsem⟩ := XZ ok hFn hmo c an _ _ res (by rw [hm]; exact hA) hh
 have hfin : (e = .normal ∨ e = .ret) /\ Jek τ fn.results.toList md es.length s' k = some res := by
   cases e with
   | normal => exact ⟨.inl rfl, h1⟩
   | ret => exact ⟨.inr rfl, h1⟩
   | exit id => cases h1
   | goto l => cases h1
 obtain ⟨r, hk, hres⟩ := Jrx ok hlen hfin.2
 refine ⟨r, hk, fun im ow w us hus hi => ?_⟩
 obtain ⟨hul, _⟩ := Zf hus
 rw [Array.length_toList] at hul
 let x : Ctx es.length := ⟨im, ow, JQ es [], w, main im ow w hi⟩
 refine calls_of_wp hf hb (hsem x _ w ⟨im, ow, ?_, FrR.ofS rfl ?_⟩ _ fun a' w' ha' => ?_)
 · simp only [Jrw hlen]; exact Good.refl hi rfl
 · simp only [Array.toList_append, Array.toList_replicate]
   refine JF.app hus ?_
   rw [hul]
   have rep : ∀ n, JF τ im ow (List.replicate n .top) (List.replicate n undef) := by
     intro n
     induction n with
     | zero => simp only [List.replicate_zero, JF]
     | succ n ih => simp only [List.replicate_succ, JF]; exact ⟨_, _, rfl, by simp only [Jg], ih⟩
   exact rep _
 · obtain ⟨v, hv1, im', ow', hv2, hv3⟩ := hres x a' w' ha'
   have hd : a'.defers = [] := by obtain ⟨_, _, _, hff⟩ := ha'; exact hff.2.1
   rcases hfin.1 with rfl | rfl
   · exact ⟨hd, v, hv1, v, im', ow', rfl, hv2, hv3⟩
   · exact ⟨hd, v, hv1, v, im', ow', rfl, hv2, hv3⟩
end
end Go.Proofs.YthpmachmnoljeaaGreat.Rx
end

