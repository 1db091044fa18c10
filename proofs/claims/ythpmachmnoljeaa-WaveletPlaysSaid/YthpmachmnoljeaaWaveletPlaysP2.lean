/- What the functions of this law compute, and their plain laws. Conditions: none. -/
import Derived.KernelRfl
import Derived.Test.YthpmachmnoljeaaWaveletPlaysP1
namespace Go.Proofs.Ythpmachmnoljeaa.Rx
noncomputable section
open Go
set_option linter.unusedVariables false
set_option linter.unusedSimpArgs false
set_option maxRecDepth 100000
set_option maxHeartbeats 0
-- FN slices.Concat[[]byte,byte]
def JH (l : List PV) : List PV := (l.map PV.els).flatten
@[simp] theorem JaS : JH [] = [] := rfl
@[simp] theorem XJ (p : PV) (l : List PV) : JH (p :: l) = p.els ++ JH l := by simp [JH]
theorem Jc0 (a b : List PV) : JH (a ++ b) = JH a ++ JH b := by simp [JH]
theorem Jex (l : List PV) (i : Nat) (h : i < l.length) : l.take (i + 1) = l.take i ++ [l.getD i .top] := by
 rw [List.take_add_one, List.getD_eq_getElem?_getD, List.getElem?_eq_getElem h]; rfl
theorem Jey (l : List PV) (i : Nat) (h : i < l.length) : l.drop i = l.getD i .top :: l.drop (i + 1) := by
 rw [List.drop_eq_getElem_cons h, List.getD_eq_getElem?_getD, List.getElem?_eq_getElem h]; rfl
theorem XK (l : List PV) (i : Nat) (h : i < l.length) : JH (l.take (i + 1)) = JH (l.take i) ++ (l.getD i .top).els := by
 rw [Jex l i h, Jc0, XJ, JaS, List.append_nil]
theorem Xz (l : List PV) (i : Nat) : (JH (l.take i)).length <= (JH l).length := by
 have : JH l = JH (l.take i) ++ JH (l.drop i) := by rw [← Jc0, List.take_append_drop]
 rw [this, List.length_append]; omega
theorem Jgr {l : List PV} (h : l.all (PV.isRo 5) = true) {i : Nat} (hi : i < l.length) : (l.getD i .top).isRo 5 = true := by
 rw [List.getD_eq_getElem?_getD, List.getElem?_eq_getElem hi]
 exact List.all_eq_true.1 h _ (List.getElem_mem hi)
theorem Jc1 {α : Type} (a b : List α) : (a ++ b).isEmpty = (a.isEmpty && b.isEmpty) := by cases a <;> rfl
theorem JyI (f : Nat) (k0 : Bool -> Bool -> List PV -> Int -> OR) (a b : Bool) (c : List PV) (nl fl : Bool) (l : List PV) (hl : l.all (PV.isRo 5) = true) (hs : (JH l).length <= 140737488355328) (hn : l.length <= 140737488355328) : ∀ (d i n : Nat), i + d = l.length -> d < n ->
  Gy f k0 n a b c ((JH (l.take i)).length : Int) nl fl l (l.length : Int) (i : Int) = k0 a b c ((JH l).length : Int)
 | 0, i, n + 1, h, hd => by
   obtain rfl : i = l.length := by omega
   simp only [Gy, JaP]
   exact (Jd (by simp)).trans (by rw [List.take_length])
 | d + 1, i, n + 1, h, hd => by
   have hle := Xz l (i + 1)
   have hadd : (JH (l.take (i + 1))).length = (JH (l.take i)).length + (l.getD i .top).els.length := by rw [XK l i (by omega), List.length_append]
   have h1 : IntKind.i64.wrap ((i : Int) + 1) = ((i + 1 : Nat) : Int) := by rw [wrap_i64 (by omega) (by omega)]; omega
   have h2 : IntKind.i64.wrap (((JH (l.take i)).length : Int) + ((l.getD i .top).els.length : Int)) = ((JH (l.take (i + 1))).length : Int) := by rw [wrap_i64 (by omega) (by omega)]; omega
   simp only [Gy, JaP, zi, Int.toNat_natCast, h1, h2]
   refine (Ja (by simp <;> omega)).trans ?_
   refine (Ja (by rw [Jgr hl (by omega)]; simp; omega)).trans ?_
   refine (Jd (by simp <;> omega)).trans ?_
   exact JyI f k0 a b c nl fl l hl hs hn d (i + 1) n (by omega) (by omega)
theorem Jsd (f : Nat) (k0 : Nat -> Bool -> List PV -> OR) (nl fl : Bool) (l : List PV) (hl : l.all (PV.isRo 5) = true) (hs : (JH l).length <= 140737488355328) (hn : l.length <= 140737488355328) : ∀ (d i n : Nat) (z : Bool) (v : List PV), i + d = l.length -> d < n -> v.take (JH (l.take i)).length = JH (l.take i) -> (d = 0 -> v = JH l) ->
  Yv f k0 n (JH (l.take i)).length nl fl l (l.length : Int) (i : Int) z v = k0 (JH l).length (z && (JH (l.drop i)).isEmpty) (JH l)
 | 0, i, n + 1, z, v, h, hd, hv, h0 => by
   obtain rfl : i = l.length := by omega
   simp only [Yv, JaR]
   refine (Jd (by simp)).trans ?_
   rw [List.take_length, h0 rfl, List.drop_length]; simp
 | d + 1, i, n + 1, z, v, h, hd, hv, h0 => by
   have hle := Xz l (i + 1)
   have hadd : (JH (l.take (i + 1))).length = (JH (l.take i)).length + (l.getD i .top).els.length := by rw [XK l i (by omega), List.length_append]
   have h1 : IntKind.i64.wrap ((i : Int) + 1) = ((i + 1 : Nat) : Int) := by rw [wrap_i64 (by omega) (by omega)]; omega
   simp only [Yv, JaR, zi, Int.toNat_natCast, h1, hv]
   refine (Ja (by simp <;> omega)).trans ?_
   refine (Ja (by rw [Jgr hl (by omega)]; simp; omega)).trans ?_
   refine (Ja (by simp only [Je, Bool.and_true, decide_eq_true_eq]; omega)).trans ?_
   have := Jsd f k0 nl fl l hl hs hn d (i + 1) n (z && (l.getD i .top).els.isEmpty) (JH (l.take (i + 1))) (by omega) (by omega) (List.take_length) (fun hd0 => by rw [show i + 1 = l.length from by omega, List.take_length])
   rw [hadd, XK l i (by omega)] at this
   rw [this, Jey l i (by omega), XJ, Jc1, Bool.and_assoc]
def JlQ : Jz
 | [.ro 29 nl fl l], [], k => bif l.all (PV.isRo 5) && (decide ((JH l).length <= 140737488355328) && decide (l.length <= 140737488355328)) then k ⟨.ow 5 16 [] 0 (JH l).length none, [], [.vec false 5 (JH l).isEmpty (JH l)]⟩ else none
 | _, _, _ => none
def Jv5 : Sig := { own := [], run := JlQ }
theorem JBi (nl fl : Bool) (l : List PV) (k : KR) (hl : l.all (PV.isRo 5) = true) (hs : (JH l).length <= 140737488355328) (hn : l.length <= 140737488355328) :
  g79 (l.length + 1) nl fl l k = k ⟨.ow 5 16 [] 0 (JH l).length none, [], [.vec false 5 (JH l).isEmpty (JH l)]⟩ := by
 have h0 := JyI (l.length + 1) (fun x0_0 x1_0 x2_0 x3_0 =>
  bif decide (x3_0 < 0) then
   none
  else bif decide (IntKind.i64.wrap (x3_0 - IntKind.i64.wrap (zi 0 - zi 0)) > 0) then
   bif decide (0 <= IntKind.i64.wrap (x3_0 - IntKind.i64.wrap (zi 0 - zi 0))) && Je (IntKind.i64.wrap (x3_0 - IntKind.i64.wrap (zi 0 - zi 0))).toNat 1 && true then
    Yv (l.length + 1) (fun x0_1 x1_1 x2_1 =>
     k (Res.mk (PV.ow 5 16 [] 0 x0_1 none) []
      [Ent.vec false 5 x1_1
       x2_1])) (l.length + 1) (0) x0_0 x1_0 x2_0 (zi
     x2_0.length) (0) (IntKind.i64.wrap (x3_0 - IntKind.i64.wrap (zi 0 - zi 0)) ==
     0) (List.replicate (IntKind.i64.wrap (x3_0 - IntKind.i64.wrap (zi 0 - zi 0))).toNat (PV.sc (Value.int IntKind.u8 0)))
   else none
  else Yv (l.length + 1) (fun x0_2 x1_2 x2_2 =>
   k (Res.mk (PV.ow 5 16 [] 0 x0_2 none) [] [Ent.vec false 5 x1_2 x2_2])) (l.length + 1) (0) x0_0 x1_0 x2_0 (zi x2_0.length) (0) true ([])) nl fl l nl fl l hl hs hn l.length 0 (l.length + 1) (by omega) (by omega)
 refine h0.trans ?_
 have hw : IntKind.i64.wrap (((JH l).length : Int) - IntKind.i64.wrap (zi 0 - zi 0)) = ((JH l).length : Int) := by
  have : IntKind.i64.wrap (zi 0 - zi 0) = 0 := by decide
  rw [this, wrap_i64 (by omega) (by omega)]; omega
 simp only [hw]
 refine (Jd (by simp <;> omega)).trans ?_
 cases he : (JH l).isEmpty with
 | true =>
  have he' : JH l = [] := by simpa using he
  refine (Jd (by simp [he'])).trans ?_
  have := Jsd (l.length + 1) (fun x0_2 x1_2 x2_2 => k (Res.mk (PV.ow 5 16 [] 0 x0_2 none) [] [Ent.vec false 5 x1_2 x2_2])) nl fl l hl hs hn l.length 0 (l.length + 1) true [] (by omega) (by omega) (by simp) (fun _ => he'.symm)
  refine this.trans ?_
  simp [he']
 | false =>
  have he' : JH l ≠ [] := by simpa using he
  have hpos : 0 < (JH l).length := List.length_pos_iff.2 he'
  have hl0 : l.length ≠ 0 := by
   intro h; rw [List.length_eq_zero_iff] at h; subst h; simp at he'
  refine (Ja (by simp <;> omega)).trans ?_
  refine (Ja (by simp [Je] <;> omega)).trans ?_
  have := Jsd (l.length + 1) (fun x0_2 x1_2 x2_2 => k (Res.mk (PV.ow 5 16 [] 0 x0_2 none) [] [Ent.vec false 5 x1_2 x2_2])) nl fl l hl hs hn l.length 0 (l.length + 1) (((JH l).length : Int) == 0) (List.replicate (((JH l).length : Int)).toNat (PV.sc (Value.int IntKind.u8 0))) (by omega) (by omega) (by simp) (fun h => absurd h hl0)
  refine this.trans ?_
  have hz : (((JH l).length : Int) == 0) = false := by simp [he']
  rw [hz]; rfl
theorem Jse : Jc tau Try.prog 79 Jv5 := Jhg Jn JlN Jo JGo JGp (fun n => Jv2 (Jev n) (Jew n)) [] 0 [] JlQ (fun n => JMt n) fun xs es k res hr => by
 unfold JlQ at hr
 split at hr
 · rename_i nl fl l
   obtain ⟨hc, hr⟩ := Jv hr
   simp only [Bool.and_eq_true, decide_eq_true_eq] at hc
   refine ⟨rfl, l.length + 1, 0, (e79 _ _ _ _ _).trans ?_⟩
   rw [JBi _ _ _ _ hc.1 hc.2.1 hc.2.2]; exact hr
 · cases hr
def JyJ : Fns := Jt 79 Jv5 (F0)
theorem Jsf : Jq tau Try.prog JyJ := (Js).add Jse JBh
def JlR : An := (.seq .leaf (.seq .leaf .leaf))
def Jsg (f : Nat) (b_z b_f : Bool) (b : List PV) (n : Int) (k : KR) : OR := bif decide ((JH [.ro 5 b_z b_f b, .ro 5 false false [.sc (.int .u8 (IntKind.u8.wrap n))]]).length <= 140737488355328) && true then k (Res.mk (.ow 5 16 [] 0 (JH [.ro 5 b_z b_f b, .ro 5 false false [.sc (.int .u8 (IntKind.u8.wrap n))]]).length none) [] [.vec false 5 (JH [.ro 5 b_z b_f b, .ro 5 false false [.sc (.int .u8 (IntKind.u8.wrap n))]]).isEmpty (JH [.ro 5 b_z b_f b, .ro 5 false false [.sc (.int .u8 (IntKind.u8.wrap n))]])]) else none
theorem JGq (f : Nat) (b_z b_f : Bool) (b : List PV) (n : Int) (k : KR) : JJ tau JyJ Try.f130 (Try.f130.body.get!) JlR [] 0 [.ro 5 b_z b_f b, .sc (.int .i64 n)] [] k = Jsg f b_z b_f b n k := by kernel_rfl
theorem JBj (f : Nat) : ∀ q ∈ Jf (Try.f130.body.get!) JlR, q.Ok tau Try.prog 0 := Jw (by kernel_rfl)
theorem JBk : Try.prog.funcs[130]? = some Try.f130 := by kernel_rfl
theorem JBl : Try.f130.body = some (Try.f130.body.get!) := by kernel_rfl
def JGr : Fns := Jt 79 Jv5 (F0)
theorem Jv6 : Jq tau Try.prog JGr := (Js).add Jse JBh
def Jsh : An := (.seq .leaf (.seq .leaf (.seq .leaf .leaf)))
abbrev VM (s : ByteArray) := (s.extract 0 (Qf (zi s.size) 65535).toNat)
abbrev JaT (b_z : Bool) (b_f : Bool) (b : List PV) (s : ByteArray) := (JH [PV.ro 5 b_z b_f b, PV.ro 5 false false [PV.sc (.int .u8 (IntKind.u8.wrap (zi (VM s).size))), PV.sc (.int .u8 (IntKind.u8.wrap (JV IntKind.i64 (zi (VM s).size) 8)))], PV.ro 5 false false (List.take (VM s).size (Jj (VM s)))])
def JBm (f : Nat) (b_z b_f : Bool) (b : List PV) (s : ByteArray) (k : KR) : OR := bif decide (0 <= Qf (zi s.size) 65535) && true && decide ((Qf (zi s.size) 65535).toNat <= s.size) && true then bif Je (VM s).size 1 && true then bif decide ((JaT b_z b_f b s).length <= 140737488355328) && true then k (Res.mk (.ow 5 16 [] 0 (JaT b_z b_f b s).length none) [] [.vec false 5 (JaT b_z b_f b s).isEmpty (JaT b_z b_f b s)]) else none else none else none
theorem JMu (f : Nat) (b_z b_f : Bool) (b : List PV) (s : ByteArray) (k : KR) : JJ tau JGr Try.f92 (Try.f92.body.get!) Jsh [] 0 [.ro 5 b_z b_f b, .sc (.string s)] [] k = JBm f b_z b_f b s k := by kernel_rfl
theorem JGs (f : Nat) : ∀ q ∈ Jf (Try.f92.body.get!) Jsh, q.Ok tau Try.prog 0 := Jw (by kernel_rfl)
theorem JGt : Try.prog.funcs[92]? = some Try.f92 := by kernel_rfl
theorem JGu : Try.f92.body = some (Try.f92.body.get!) := by kernel_rfl
theorem JGv : Try.prog.funcs[130]? = some Try.f130 := by kernel_rfl
theorem JGw : Try.f130.body = some (Try.f130.body.get!) := by kernel_rfl
theorem JGx : Enters Try.prog 130 := enters_of JGv (by kernel_rfl) JGw
theorem JMv : Try.prog.funcs[92]? = some Try.f92 := by kernel_rfl
theorem JMw : Try.f92.body = some (Try.f92.body.get!) := by kernel_rfl
theorem JGy : Enters Try.prog 92 := enters_of JMv (by kernel_rfl) JMw
def JGz : Fns := F0
theorem Jv7 : Jq tau Try.prog JGz := Js
def Jsi : An := (.seq .leaf (.seq (.seq .leaf (.cond (.seq .leaf .leaf) .leaf)) (.seq .leaf .leaf)))
def JGA (f : Nat) (s_z s_f : Bool) (s : List PV) (k : KR) : OR := bif s_z then k (Res.mk (.ro 5 true true []) [] []) else bif Je (0 + s.length) 1 && true then k (Res.mk (.ow 5 16 [] 0 (0 + s.length) none) [] [.vec false 5 false s]) else none
theorem JMx (f : Nat) (s_z s_f : Bool) (s : List PV) (k : KR) : JJ tau JGz Try.f76 (Try.f76.body.get!) Jsi [] 0 [.ro 5 s_z s_f s] [] k = JGA f s_z s_f s k := by kernel_rfl
theorem JGB (f : Nat) : ∀ q ∈ Jf (Try.f76.body.get!) Jsi, q.Ok tau Try.prog 0 := Jw (by kernel_rfl)
theorem JyK : Try.prog.funcs[76]? = some Try.f76 := by kernel_rfl
theorem JyL : Try.f76.body = some (Try.f76.body.get!) := by kernel_rfl
theorem JyM : Enters Try.prog 76 := enters_of JyK (by kernel_rfl) JyL
def JlS : Jz
 | [.ro 5 s_z s_f s], [], k => JGA 0 s_z s_f s k
 | _, _, _ => none
def JBn : Sig := { own := [], run := JlS }
theorem JyN : Jc tau Try.prog 76 JBn := JN Jn Jv7 Jo JyK JyL Jsi [] 0 [] JlS (JGB 0) fun xs es k res hr => by
 unfold JlS at hr
 split at hr
 · exact ⟨rfl, 0, (JMx 0 _ _ _  _).trans hr⟩
 · cases hr
def F35 : Fns := Jt 76 JBn (F0)
theorem JBo : Jq tau Try.prog F35 := (Js).add JyN JyM
def JBp : Nm := [(0, .any), (1, .any), (5, .own), (6, .any)]
def JGC : An := (.seq .leaf (.seq .leaf (.seq .leaf (.seq .leaf (.seq (.seq .leaf (.seq .leaf (.cond .leaf .leaf))) (.seq .leaf .leaf))))))
def JBq : An := (.seq .leaf (.scope JBp JGC))
abbrev JlT (n : Int) := (.int .u8 (IntKind.u8.wrap (JV IntKind.u64 (IntKind.u64.wrap n) (IntKind.i64.wrap (8 * 0)))))
abbrev JlU (n : Int) := (.int .u8 (IntKind.u8.wrap (JV IntKind.u64 (IntKind.u64.wrap n) (IntKind.i64.wrap (8 * IntKind.i64.wrap (0 + 1))))))
abbrev JlV (n : Int) := (.int .u8 (IntKind.u8.wrap (JV IntKind.u64 (IntKind.u64.wrap n) (IntKind.i64.wrap (8 * IntKind.i64.wrap (IntKind.i64.wrap (0 + 1) + 1))))))
abbrev JlW (n : Int) := (.int .u8 (IntKind.u8.wrap (JV IntKind.u64 (IntKind.u64.wrap n) (IntKind.i64.wrap (8 * IntKind.i64.wrap (IntKind.i64.wrap (IntKind.i64.wrap (0 + 1) + 1) + 1))))))
abbrev Jez := (IntKind.i64.wrap (IntKind.i64.wrap (IntKind.i64.wrap (0 + 1) + 1) + 1) + 1)
abbrev JlX (n : Int) := (.int .u8 (IntKind.u8.wrap (JV IntKind.u64 (IntKind.u64.wrap n) (IntKind.i64.wrap (8 * IntKind.i64.wrap Jez)))))
abbrev JlY (n : Int) := (.int .u8 (IntKind.u8.wrap (JV IntKind.u64 (IntKind.u64.wrap n) (IntKind.i64.wrap (8 * IntKind.i64.wrap (IntKind.i64.wrap Jez + 1))))))
abbrev JlZ (n : Int) := (.int .u8 (IntKind.u8.wrap (JV IntKind.u64 (IntKind.u64.wrap n) (IntKind.i64.wrap (8 * IntKind.i64.wrap (IntKind.i64.wrap (IntKind.i64.wrap Jez + 1) + 1))))))
abbrev Jl0 (n : Int) := (.int .u8 (IntKind.u8.wrap (JV IntKind.u64 (IntKind.u64.wrap n) (IntKind.i64.wrap (8 * IntKind.i64.wrap (IntKind.i64.wrap (IntKind.i64.wrap (IntKind.i64.wrap Jez + 1) + 1) + 1))))))
abbrev JhL (b : List PV) (n : Int) := (List.take (0 + b.length + 1 + 1 + 1 + 1 + 1 + 1 + 1 + 1) (List.take (0 + b.length + 1 + 1 + 1 + 1 + 1 + 1 + 1) (List.take (0 + b.length + 1 + 1 + 1 + 1 + 1 + 1) (List.take (0 + b.length + 1 + 1 + 1 + 1 + 1) (List.take (0 + b.length + 1 + 1 + 1 + 1) (List.take (0 + b.length + 1 + 1 + 1) (List.take (0 + b.length + 1 + 1) (List.take (0 + b.length + 1) (List.take (0 + b.length) b ++ [PV.sc (JlT n)]) ++ [PV.sc (JlU n)]) ++ [PV.sc (JlV n)]) ++ [PV.sc (JlW n)]) ++ [PV.sc (JlX n)]) ++ [PV.sc (JlY n)]) ++ [PV.sc (JlZ n)]) ++ [PV.sc (Jl0 n)]))
def g35 (f : Nat) (b_z b_f : Bool) (b : List PV) (n : Int) (k : KR) : OR := bif b_z then k (Res.mk (.ro 5 false false [.sc (JlT n), .sc (JlU n), .sc (JlV n), .sc (JlW n), .sc (JlX n), .sc (JlY n), .sc (JlZ n), .sc (Jl0 n)]) [] []) else bif Je (0 + b.length) 1 && true then bif Je (0 + b.length + 1) 1 && true then bif Je (0 + b.length + 1 + 1) 1 && true then bif Je (0 + b.length + 1 + 1 + 1) 1 && true then bif Je (0 + b.length + 1 + 1 + 1 + 1) 1 && true then bif Je (0 + b.length + 1 + 1 + 1 + 1 + 1) 1 && true then bif Je (0 + b.length + 1 + 1 + 1 + 1 + 1 + 1) 1 && true then bif Je (0 + b.length + 1 + 1 + 1 + 1 + 1 + 1 + 1) 1 && true then bif Je (0 + b.length + 1 + 1 + 1 + 1 + 1 + 1 + 1 + 1) 1 && true then bif Je (0 + (JhL b n).length) 1 && true then k (Res.mk (.ro 5 false false (List.take (0 + (JhL b n).length) (JhL b n))) [] []) else none else none else none else none else none else none else none else none else none else none
theorem e35 (f : Nat) (b_z b_f : Bool) (b : List PV) (n : Int) (k : KR) : JJ tau F35 Try.f35 (Try.f35.body.get!) JBq [.ro] 12 [.ro 5 b_z b_f b, .sc (.int .i64 n)] [] k = g35 f b_z b_f b n k := by kernel_rfl
theorem JMy (f : Nat) : ∀ q ∈ Jf (Try.f35.body.get!) JBq, q.Ok tau Try.prog 0 := Jw (by kernel_rfl)
theorem JGD : Try.prog.funcs[35]? = some Try.f35 := by kernel_rfl
theorem JGE : Try.f35.body = some (Try.f35.body.get!) := by kernel_rfl
theorem JBr : Enters Try.prog 35 := enters_of JGD (by kernel_rfl) JGE
def JGF : Fns := F0
theorem Jv8 : Jq tau Try.prog JGF := Js
def Jsj : An := (.seq .leaf (.seq .leaf .leaf))
def JMz (f : Nat) (n : Int) (k : KR) : OR := k (Res.mk (.ow 5 16 [] 0 1 none) [] [.vec false 5 false [.sc (.int .u8 (IntKind.u8.wrap n))]])
theorem JMA (f : Nat) (n : Int) (k : KR) : JJ tau JGF Try.f105 (Try.f105.body.get!) Jsj [] 0 [.ro 5 true true [], .sc (.int .i64 n)] [] k = JMz f n k := by kernel_rfl
theorem JGG (f : Nat) : ∀ q ∈ Jf (Try.f105.body.get!) Jsj, q.Ok tau Try.prog 0 := Jw (by kernel_rfl)
theorem JyO : Try.prog.funcs[105]? = some Try.f105 := by kernel_rfl
theorem JyP : Try.f105.body = some (Try.f105.body.get!) := by kernel_rfl
theorem JyQ : Enters Try.prog 105 := enters_of JyO (by kernel_rfl) JyP
def JyR : Fns := F0
theorem Jsk : Jq tau Try.prog JyR := Js
def Jl1 : An := (.seq .leaf (.seq .leaf .leaf))
def Jsl (f : Nat) (nl : Bool) (l : List PV) (m : Nat) (n : Int) (k : KR) : OR := bif Je (m + 1) 1 && true then k (Res.mk (.ow 5 16 [] 0 (m + 1) none) [.dead] [.vec false 5 (nl && false) (List.take m l ++ [.sc (.int .u8 (IntKind.u8.wrap n))])]) else none
theorem JGH (f : Nat) (nl : Bool) (l : List PV) (m : Nat) (n : Int) (k : KR) : JJ tau JyR Try.f105 (Try.f105.body.get!) Jl1 [] 0 [.ow 5 0 [] 0 m none, .sc (.int .i64 n)] [.vec false 5 nl l] k = Jsl f nl l m n k := by kernel_rfl
theorem JBs (f : Nat) : ∀ q ∈ Jf (Try.f105.body.get!) Jl1, q.Ok tau Try.prog 1 := Jw (by kernel_rfl)
theorem JBt : Try.prog.funcs[105]? = some Try.f105 := by kernel_rfl
theorem JBu : Try.f105.body = some (Try.f105.body.get!) := by kernel_rfl
def F53 : Fns := F0
theorem JBv : Jq tau Try.prog F53 := Js
def JBw : Nm := [(0, .own), (1, .any), (5, .any)]
def JGI : An := (.seq (.seq .leaf (.cond .leaf .leaf)) (.seq (.block none .leaf) .leaf))
def JBx : An := (.seq .leaf (.seq (.seq .leaf (.block none (.loop JBw JGI))) (.seq .leaf .leaf)))
abbrev JhM := (IntKind.i64.wrap (IntKind.i64.wrap (IntKind.i64.wrap (0 + 1) + 1) + 1) + 1)
def g53 (f : Nat) (n : Int) (k : KR) : OR := k (Res.mk (.ow 5 16 [] 0 8 none) [] [.vec false 5 false [.sc (.int .u8 (IntKind.u8.wrap (JV IntKind.u64 (IntKind.u64.wrap n) (IntKind.u64.wrap (8 * IntKind.u64.wrap 0))))), .sc (.int .u8 (IntKind.u8.wrap (JV IntKind.u64 (IntKind.u64.wrap n) (IntKind.u64.wrap (8 * IntKind.u64.wrap (IntKind.i64.wrap (0 + 1))))))), .sc (.int .u8 (IntKind.u8.wrap (JV IntKind.u64 (IntKind.u64.wrap n) (IntKind.u64.wrap (8 * IntKind.u64.wrap (IntKind.i64.wrap (IntKind.i64.wrap (0 + 1) + 1))))))), .sc (.int .u8 (IntKind.u8.wrap (JV IntKind.u64 (IntKind.u64.wrap n) (IntKind.u64.wrap (8 * IntKind.u64.wrap (IntKind.i64.wrap (IntKind.i64.wrap (IntKind.i64.wrap (0 + 1) + 1) + 1))))))), .sc (.int .u8 (IntKind.u8.wrap (JV IntKind.u64 (IntKind.u64.wrap n) (IntKind.u64.wrap (8 * IntKind.u64.wrap (IntKind.i64.wrap JhM)))))), .sc (.int .u8 (IntKind.u8.wrap (JV IntKind.u64 (IntKind.u64.wrap n) (IntKind.u64.wrap (8 * IntKind.u64.wrap (IntKind.i64.wrap (IntKind.i64.wrap JhM + 1))))))), .sc (.int .u8 (IntKind.u8.wrap (JV IntKind.u64 (IntKind.u64.wrap n) (IntKind.u64.wrap (8 * IntKind.u64.wrap (IntKind.i64.wrap (IntKind.i64.wrap (IntKind.i64.wrap JhM + 1) + 1))))))), .sc (.int .u8 (IntKind.u8.wrap (JV IntKind.u64 (IntKind.u64.wrap n) (IntKind.u64.wrap (8 * IntKind.u64.wrap (IntKind.i64.wrap (IntKind.i64.wrap (IntKind.i64.wrap (IntKind.i64.wrap JhM + 1) + 1) + 1)))))))]])
theorem e53 (f : Nat) (n : Int) (k : KR) : JJ tau F53 Try.f53 (Try.f53.body.get!) JBx [] 12 [.ro 5 true true [], .sc (.int .i64 n)] [] k = g53 f n k := by kernel_rfl
theorem JMB (f : Nat) : ∀ q ∈ Jf (Try.f53.body.get!) JBx, q.Ok tau Try.prog 0 := Jw (by kernel_rfl)
theorem JGJ : Try.prog.funcs[53]? = some Try.f53 := by kernel_rfl
theorem JGK : Try.f53.body = some (Try.f53.body.get!) := by kernel_rfl
theorem Jv9 : Enters Try.prog 53 := enters_of JGJ (by kernel_rfl) JGK
def JGL : Fns := F0
theorem Jwa : Jq tau Try.prog JGL := Js
def Jwb : Nm := [(0, .own), (1, .any), (5, .any)]
def JBy : An := (.seq (.seq .leaf (.cond .leaf .leaf)) (.seq (.block none .leaf) .leaf))
def Jsm : An := (.seq .leaf (.seq (.seq .leaf (.block none (.loop Jwb JBy))) (.seq .leaf .leaf)))
abbrev JaU := (IntKind.i64.wrap (IntKind.i64.wrap (IntKind.i64.wrap (0 + 1) + 1) + 1) + 1)
def JBz (f : Nat) (nl : Bool) (l : List PV) (m : Nat) (n : Int) (k : KR) : OR := bif Je (m + 1) 1 && true then bif Je (m + 1 + 1) 1 && true then bif Je (m + 1 + 1 + 1) 1 && true then bif Je (m + 1 + 1 + 1 + 1) 1 && true then bif Je (m + 1 + 1 + 1 + 1 + 1) 1 && true then bif Je (m + 1 + 1 + 1 + 1 + 1 + 1) 1 && true then bif Je (m + 1 + 1 + 1 + 1 + 1 + 1 + 1) 1 && true then bif Je (m + 1 + 1 + 1 + 1 + 1 + 1 + 1 + 1) 1 && true then k (Res.mk (.ow 5 16 [] 0 (m + 1 + 1 + 1 + 1 + 1 + 1 + 1 + 1) none) [.dead] [.vec false 5 (nl && false && false && false && false && false && false && false && false) (List.take (m + 1 + 1 + 1 + 1 + 1 + 1 + 1) (List.take (m + 1 + 1 + 1 + 1 + 1 + 1) (List.take (m + 1 + 1 + 1 + 1 + 1) (List.take (m + 1 + 1 + 1 + 1) (List.take (m + 1 + 1 + 1) (List.take (m + 1 + 1) (List.take (m + 1) (List.take m l ++ [.sc (.int .u8 (IntKind.u8.wrap (JV IntKind.u64 (IntKind.u64.wrap n) (IntKind.u64.wrap (8 * IntKind.u64.wrap 0)))))]) ++ [.sc (.int .u8 (IntKind.u8.wrap (JV IntKind.u64 (IntKind.u64.wrap n) (IntKind.u64.wrap (8 * IntKind.u64.wrap (IntKind.i64.wrap (0 + 1)))))))]) ++ [.sc (.int .u8 (IntKind.u8.wrap (JV IntKind.u64 (IntKind.u64.wrap n) (IntKind.u64.wrap (8 * IntKind.u64.wrap (IntKind.i64.wrap (IntKind.i64.wrap (0 + 1) + 1)))))))]) ++ [.sc (.int .u8 (IntKind.u8.wrap (JV IntKind.u64 (IntKind.u64.wrap n) (IntKind.u64.wrap (8 * IntKind.u64.wrap (IntKind.i64.wrap (IntKind.i64.wrap (IntKind.i64.wrap (0 + 1) + 1) + 1)))))))]) ++ [.sc (.int .u8 (IntKind.u8.wrap (JV IntKind.u64 (IntKind.u64.wrap n) (IntKind.u64.wrap (8 * IntKind.u64.wrap (IntKind.i64.wrap JaU))))))]) ++ [.sc (.int .u8 (IntKind.u8.wrap (JV IntKind.u64 (IntKind.u64.wrap n) (IntKind.u64.wrap (8 * IntKind.u64.wrap (IntKind.i64.wrap (IntKind.i64.wrap JaU + 1)))))))]) ++ [.sc (.int .u8 (IntKind.u8.wrap (JV IntKind.u64 (IntKind.u64.wrap n) (IntKind.u64.wrap (8 * IntKind.u64.wrap (IntKind.i64.wrap (IntKind.i64.wrap (IntKind.i64.wrap JaU + 1) + 1)))))))]) ++ [.sc (.int .u8 (IntKind.u8.wrap (JV IntKind.u64 (IntKind.u64.wrap n) (IntKind.u64.wrap (8 * IntKind.u64.wrap (IntKind.i64.wrap (IntKind.i64.wrap (IntKind.i64.wrap (IntKind.i64.wrap JaU + 1) + 1) + 1)))))))])]) else none else none else none else none else none else none else none else none
theorem JMC (f : Nat) (nl : Bool) (l : List PV) (m : Nat) (n : Int) (k : KR) : JJ tau JGL Try.f53 (Try.f53.body.get!) Jsm [] 12 [.ow 5 0 [] 0 m none, .sc (.int .i64 n)] [.vec false 5 nl l] k = JBz f nl l m n k := by kernel_rfl
theorem JGM (f : Nat) : ∀ q ∈ Jf (Try.f53.body.get!) Jsm, q.Ok tau Try.prog 1 := Jw (by kernel_rfl)
theorem JGN : Try.prog.funcs[53]? = some Try.f53 := by kernel_rfl
theorem JGO : Try.f53.body = some (Try.f53.body.get!) := by kernel_rfl
def JGP : Fns := F0
theorem Jwc : Jq tau Try.prog JGP := Js
def Jsn : An := (.seq .leaf (.seq (.seq .leaf (.cond .leaf .leaf)) (.seq .leaf .leaf)))
def JBA (f : Nat) (nl : Bool) (l : List PV) (m : Nat) (s : ByteArray) (k : KR) : OR := bif decide (zi s.size > 65535) then bif decide (65535 <= s.size) && true then bif Je (m + 2) 1 && true then bif Je (m + 2 + (Jj (s.extract 0 65535)).length) 1 && true then k (Res.mk (.ow 5 16 [] 0 (m + 2 + (Jj (s.extract 0 65535)).length) none) [.dead] [.vec false 5 (nl && false && (Jj (s.extract 0 65535)).isEmpty) (List.take (m + 2) (List.take m l ++ [.sc (.int .u8 (IntKind.u8.wrap (zi (s.extract 0 65535).size))), .sc (.int .u8 (IntKind.u8.wrap (JV IntKind.i64 (zi (s.extract 0 65535).size) 8)))]) ++ Jj (s.extract 0 65535))]) else none else none else none else bif Je (m + 2) 1 && true then bif Je (m + 2 + (Jj s).length) 1 && true then k (Res.mk (.ow 5 16 [] 0 (m + 2 + (Jj s).length) none) [.dead] [.vec false 5 (nl && false && (Jj s).isEmpty) (List.take (m + 2) (List.take m l ++ [.sc (.int .u8 (IntKind.u8.wrap (zi s.size))), .sc (.int .u8 (IntKind.u8.wrap (JV IntKind.i64 (zi s.size) 8)))]) ++ Jj s)]) else none else none
theorem JMD (f : Nat) (nl : Bool) (l : List PV) (m : Nat) (s : ByteArray) (k : KR) : JJ tau JGP Try.f97 (Try.f97.body.get!) Jsn [] 0 [.ow 5 0 [] 0 m none, .sc (.string s)] [.vec false 5 nl l] k = JBA f nl l m s k := by kernel_rfl
theorem JGQ (f : Nat) : ∀ q ∈ Jf (Try.f97.body.get!) Jsn, q.Ok tau Try.prog 1 := Jw (by kernel_rfl)
theorem JyS : Try.prog.funcs[97]? = some Try.f97 := by kernel_rfl
theorem JyT : Try.f97.body = some (Try.f97.body.get!) := by kernel_rfl
theorem JGR : Enters Try.prog 97 := enters_of JyS (by kernel_rfl) JyT
-- FN code.Byte | code.Text | code.Int | ref1.Byte | ref1.Int | ref1.Text
def ib (n i : Int) : Int := IntKind.u8.wrap (JV .u64 (IntKind.u64.wrap n) (8 * i))
def Jso (n : Int) : List Int := [ib n 0, ib n 1, ib n 2, ib n 3, ib n 4, ib n 5, ib n 6, ib n 7]
def QB : Int -> List Int := hid Jso
theorem Yl (n : Int) : QB n = Jso n := by rw [QB, hid_eq]
@[simp] theorem Z7 (n : Int) : (QB n).length = 8 := by rw [Yl]; rfl
def Jwd (s : ByteArray) : List Int := s.data.toList.map fun b => (b.toNat : Int)
def bsI : ByteArray -> List Int := hid Jwd
theorem Jl2 (s : ByteArray) : bsI s = Jwd s := by rw [bsI, hid_eq]
theorem XX (s : ByteArray) : Jj s = pu .u8 (bsI s) := by rw [Jl2]; simp [Jj, pu, Jwd]
@[simp] theorem Jl3 (s : ByteArray) : (bsI s).length = s.size := by rw [Jl2]; simp [Jwd]
theorem JBB (s : ByteArray) : ∀ x ∈ bsI s, 0 <= x /\ x < 256 := by
 intro x hx
 rw [Jl2] at hx
 obtain ⟨b, _, rfl⟩ := List.mem_map.1 hx
 have := b.toNat_lt
 omega
def Gz (s : ByteArray) : List Int := [IntKind.u8.wrap (zi s.size), IntKind.u8.wrap (JV .i64 (zi s.size) 8)] ++ bsI s
def WK : ByteArray -> List Int := hid Gz
theorem YR (s : ByteArray) : WK s = Gz s := by rw [WK, hid_eq]
@[simp] theorem JaV (s : ByteArray) : (WK s).length = s.size + 2 := by rw [YR]; simp [Gz]
theorem Jdq (x : Int) : 0 <= IntKind.u8.wrap x /\ IntKind.u8.wrap x < 256 := by rw [Jk8]; omega
theorem VN (n : Int) : ∀ x ∈ QB n, 0 <= x /\ x < 256 := by
 rw [Yl]; intro x hx
 simp only [Jso, List.mem_cons, List.not_mem_nil, or_false] at hx
 rcases hx with h | h | h | h | h | h | h | h <;> (rw [h]; exact Jdq _)
theorem Jsp (s : ByteArray) : ∀ x ∈ WK s, 0 <= x /\ x < 256 := by
 rw [YR]; intro x hx
 rcases List.mem_append.1 hx with hx | hx
 · simp only [List.mem_cons, List.not_mem_nil, or_false] at hx
   rcases hx with h | h <;> (rw [h]; exact Jdq _)
 · exact JBB s x hx
theorem Jwe (f : Bool) (b : List PV) (n : Int) (k : KR) : g35 0 true f b n k = k ⟨.ro 5 false false (pu .u8 (QB n)), [], []⟩ := by
 rw [Yl]; kernel_rfl
theorem JGS (f : Bool) (b : List PV) (hb : b.length <= 1000000000) (n : Int) (k : KR) : g35 0 false f b n k = k ⟨.ro 5 false false (b ++ pu .u8 (QB n)), [], []⟩ := by
 rw [Yl]
 unfold g35 JhL Jl0 JlZ JlY JlX Jez JlW JlV JlU JlT
 refine (Jd rfl).trans ?_
 repeat (refine (Ja (by simp [Je]; omega)).trans ?_)
 repeat rw [List.take_of_length_le (by simp <;> omega)]
 simp only [List.nil_append, List.append_assoc]
 rfl
def JhN : Jz
 | [.ro 5 z f b, .sc (.int .i64 n)], [], k => bif slB z b then k ⟨.ro 5 false false (b ++ pu .u8 (QB n)), [], []⟩ else none
 | _, _, _ => none
def JGT : Sig := { own := [], run := JhN }
theorem JyU : Jc tau Try.prog 35 JGT := Jc.mk' fun xs es k res hl hr => by
 change JhN xs es k = some res at hr
 unfold JhN at hr
 split at hr
 · rename_i z f b n
   obtain ⟨hc, hr2⟩ := Jv hr
   clear hr
   obtain ⟨h1, h2⟩ := Xw.1 hc
   have hg : g35 0 z f b n k = some res := by
    cases z with
    | true => obtain rfl := h1 rfl; rw [Jwe]; exact hr2
    | false => rw [JGS f b h2]; exact hr2
   exact J2 Jn JBo Jo JGD JGE JBq [.ro] 0 12 (JMy 0) hl rfl ((e35 0 z f b n k).trans hg)
 · cases hr
theorem JjU (s : ByteArray) : s.extract 0 s.size = s := by
 apply ByteArray.ext
 simp [ByteArray.data_extract]
def JaW : Jz
 | [.ro 5 true true [], .sc (.int .i64 n)], [], k => k ⟨.ow 5 16 [] 0 1 none, [], [.vec false 5 false (pu .u8 [IntKind.u8.wrap n])]⟩
 | [.ow 5 0 [] 0 m none, .sc (.int .i64 n)], [.vec false 5 nl l], k => bif Nat.beq m l.length && Nat.ble l.length 1000000000 then k ⟨.ow 5 16 [] 0 (m + 1) none, [.dead], [.vec false 5 false (l ++ pu .u8 [IntKind.u8.wrap n])]⟩ else none
 | _, _, _ => none
def JGU : Sig := { own := [true], run := JaW }
theorem JBC : Jc tau Try.prog 105 JGU := Jc.mk' fun xs es k res hl hr => by
 change JaW xs es k = some res at hr
 unfold JaW at hr
 split at hr
 · rename_i n
   exact J2 Jn Jv8 Jo JyO JyP Jsj [] 0 0 (JGG 0) hl rfl ((JMA 0 n k).trans hr)
 · rename_i m n nl l
   obtain ⟨hc, hr⟩ := Jv hr
   rw [Bool.and_eq_true, Nat.beq_eq, Nat.ble_eq] at hc
   obtain ⟨rfl, hc⟩ := hc
   have hg : Jsl 0 nl l l.length n k = some res := by
    unfold Jsl
    rw [Ja (by simp [Je]; omega), List.take_length, Bool.and_false]
    exact hr
   exact J2 Jn Jsk Jo JBt JBu Jl1 [] 1 0 (JBs 0) hl rfl ((JGH 0 nl l l.length n k).trans hg)
 · cases hr
def JeA : Jz
 | [.ro 5 true true [], .sc (.int .i64 n)], [], k => k ⟨.ow 5 16 [] 0 8 none, [], [.vec false 5 false (pu .u8 (QB n))]⟩
 | [.ow 5 0 [] 0 m none, .sc (.int .i64 n)], [.vec false 5 nl l], k => bif Nat.beq m l.length && Nat.ble l.length 1000000000 then k ⟨.ow 5 16 [] 0 (m + 8) none, [.dead], [.vec false 5 false (l ++ pu .u8 (QB n))]⟩ else none
 | _, _, _ => none
def JME : Sig := { own := [true], run := JeA }
theorem Jwf (n : Int) (k : KR) : g53 0 n k = k ⟨.ow 5 16 [] 0 8 none, [], [.vec false 5 false (pu .u8 (QB n))]⟩ := by
 rw [Yl]; kernel_rfl
theorem Jwg (nl : Bool) (l : List PV) (hl : l.length <= 1000000000) (n : Int) (k : KR) : JBz 0 nl l l.length n k = k ⟨.ow 5 16 [] 0 (l.length + 8) none, [.dead], [.vec false 5 false (l ++ pu .u8 (QB n))]⟩ := by
 rw [Yl]
 unfold JBz JaU
 repeat (refine (Ja (by simp [Je]; omega)).trans ?_)
 repeat rw [List.take_of_length_le (by simp <;> omega)]
 simp only [Bool.and_false, List.append_assoc]
 rfl
theorem JyV : Jc tau Try.prog 53 JME := Jc.mk' fun xs es k res hl hr => by
 change JeA xs es k = some res at hr
 unfold JeA at hr
 split at hr
 · rename_i n
   exact J2 Jn JBv Jo JGJ JGK JBx [] 0 12 (JMB 0) hl rfl ((e53 0 n k).trans ((Jwf n k).trans hr))
 · rename_i m n nl l
   obtain ⟨hc, hr⟩ := Jv hr
   rw [Bool.and_eq_true, Nat.beq_eq, Nat.ble_eq] at hc
   obtain ⟨rfl, hc⟩ := hc
   exact J2 Jn Jwa Jo JGN JGO Jsm [] 1 12 (JGM 0) hl rfl ((JMC 0 nl l l.length n k).trans ((Jwg nl l hc n k).trans hr))
 · cases hr
def JeB : Jz
 | [.ow 5 0 [] 0 m none, .sc (.string s)], [.vec false 5 nl l], k => bif Nat.beq m l.length && Nat.ble l.length 1000000000 && Nat.ble s.size 65535 then k ⟨.ow 5 16 [] 0 (m + (s.size + 2)) none, [.dead], [.vec false 5 false (l ++ pu .u8 (WK s))]⟩ else none
 | _, _, _ => none
def JMF : Sig := { own := [true], run := JeB }
theorem JGV : Jc tau Try.prog 97 JMF := Jc.mk' fun xs es k res hl hr => by
 change JeB xs es k = some res at hr
 unfold JeB at hr
 split at hr
 · rename_i m s nl l
   obtain ⟨hc, hr⟩ := Jv hr
   rw [Bool.and_eq_true, Bool.and_eq_true, Nat.beq_eq, Nat.ble_eq, Nat.ble_eq] at hc
   obtain ⟨⟨rfl, hc⟩, hs⟩ := hc
   have hg : JBA 0 nl l l.length s k = some res := by
    unfold JBA
    have hob : (Jj s).length = s.size := by rw [XX]; simp
    rw [Jd (by simp only [zi, decide_eq_false_iff_not]; omega), Ja (by simp [Je]; omega), Ja (by simp [Je, hob]; omega), List.take_length, List.take_of_length_le (by simp), hob, Bool.and_false, Bool.false_and]
    rw [YR, Gz] at hr
    rw [XX, show l.length + 2 + s.size = l.length + (s.size + 2) from by omega]
    simpa [pu] using hr
   exact J2 Jn Jwc Jo JyS JyT Jsn [] 1 0 (JGQ 0) hl rfl ((JMD 0 nl l l.length s k).trans hg)
 · cases hr
def Jdr : Jz
 | [.ro 5 z f b, .sc (.int .i64 n)], [], k => bif slB z b then k ⟨.ow 5 16 [] 0 (b.length + 1) none, [], [.vec false 5 false (b ++ pu .u8 [IntKind.u8.wrap n])]⟩ else none
 | _, _, _ => none
def JGW : Sig := { own := [], run := Jdr }
theorem JBD : Jc tau Try.prog 130 JGW := Jc.mk' fun xs es k res hl hr => by
 change Jdr xs es k = some res at hr
 unfold Jdr at hr
 split at hr
 · rename_i z f b n
   obtain ⟨hc, hr⟩ := Jv hr
   obtain ⟨h1, h2⟩ := Xw.1 hc
   have hg : Jsg 0 z f b n k = some res := by
    have hf : JH [PV.ro 5 z f b, PV.ro 5 false false [PV.sc (Value.int IntKind.u8 (IntKind.u8.wrap n))]] = b ++ pu .u8 [IntKind.u8.wrap n] := by simp [PV.els, pu]
    have hf2 : JH [PV.ro 5 z f b, PV.ro 5 false true [PV.sc (Value.int IntKind.u8 (IntKind.u8.wrap n))]] = b ++ pu .u8 [IntKind.u8.wrap n] := by simp [PV.els, pu]
    have he : (b ++ pu .u8 [IntKind.u8.wrap n]).isEmpty = false := by simp
    have hlen : (b ++ pu .u8 [IntKind.u8.wrap n]).length = b.length + 1 := by simp
    unfold Jsg
    simp only [hf, hf2, List.take_length, List.drop_zero, List.take_succ_cons, List.take_zero, he, hlen, Ent.nil]
    rw [Ja (by simp; omega)]
    exact hr
   exact J2 Jn Jsf Jo JBk JBl JlR [] 0 0 (JBj 0) hl rfl ((JGq 0 z f b n k).trans hg)
 · cases hr
def JhO : Jz
 | [.ro 5 z f b, .sc (.string s)], [], k => bif slB z b && Nat.ble s.size 65535 then k ⟨.ow 5 16 [] 0 (b.length + (s.size + 2)) none, [], [.vec false 5 false (b ++ pu .u8 (WK s))]⟩ else none
 | _, _, _ => none
def JMG : Sig := { own := [], run := JhO }
theorem JGX : Jc tau Try.prog 92 JMG := Jc.mk' fun xs es k res hl hr => by
 change JhO xs es k = some res at hr
 unfold JhO at hr
 split at hr
 · rename_i z f b s
   obtain ⟨hc, hr⟩ := Jv hr
   rw [Bool.and_eq_true, Nat.ble_eq] at hc
   obtain ⟨h1, h2⟩ := Xw.1 hc.1
   have hg : JBm 0 z f b s k = some res := by
    have hm : Qf (zi s.size) 65535 = (s.size : Int) := by unfold Qf; rw [if_neg (by simp only [zi]; omega)]
    unfold JBm JaT VM
    simp only [hm, Int.toNat_natCast, JjU]
    have hf : ∀ x y : Bool, JH [PV.ro 5 z f b, PV.ro 5 false x [PV.sc (Value.int IntKind.u8 (IntKind.u8.wrap (zi s.size))), PV.sc (Value.int IntKind.u8 (IntKind.u8.wrap (JV IntKind.i64 (zi s.size) 8)))], PV.ro 5 false y (List.take s.size (Jj s))] = b ++ pu .u8 (WK s) := by
     intro x y
     rw [XX, List.take_of_length_le (by simp), YR, Gz]
     simp [PV.els, pu]
    have he : (b ++ pu .u8 (WK s)).isEmpty = false := by
     rw [YR, Gz]; simp
    have hlen : (b ++ pu .u8 (WK s)).length = b.length + (s.size + 2) := by simp
    simp only [hf, List.take_length, List.drop_zero, List.take_succ_cons, List.take_zero, he, hlen, Ent.nil]
    rw [Ja (by simp), Ja (by simp [Je]; omega), Ja (by simp; omega)]
    exact hr
   exact J2 Jn Jv6 Jo JGt JGu Jsh [] 0 0 (JGs 0) hl rfl ((JMu 0 z f b s k).trans hg)
 · cases hr
def apI : List PV -> Int -> List PV := hid fun b n => b ++ pu .u8 (QB n)
def apY : List PV -> Int -> List PV := hid fun b n => b ++ pu .u8 [IntKind.u8.wrap n]
def apT : List PV -> ByteArray -> List PV := hid fun b s => b ++ pu .u8 (WK s)
def okZ : Bool -> List PV -> Bool := hid slB
def okL : Nat -> List PV -> Bool := hid fun m l => Nat.beq m l.length && Nat.ble l.length 1000000000
theorem Yw (b : List PV) (n : Int) : apI b n = b ++ pu .u8 (QB n) := by rw [apI, hid_eq]
theorem GA (b : List PV) (n : Int) : apY b n = b ++ pu .u8 [IntKind.u8.wrap n] := by rw [apY, hid_eq]
theorem Yx (b : List PV) (s : ByteArray) : apT b s = b ++ pu .u8 (WK s) := by rw [apT, hid_eq]
theorem GB (z : Bool) (b : List PV) : okZ z b = slB z b := by rw [okZ, hid_eq]
theorem JhP (m : Nat) (l : List PV) : okL m l = (Nat.beq m l.length && Nat.ble l.length 1000000000) := by rw [okL, hid_eq]
def Jl4 : Jz
 | [.ro 5 z f b, .sc (.int .i64 n)], [], k => bif okZ z b then k ⟨.ro 5 false false (apI b n), [], []⟩ else none
 | _, _, _ => none
def JGY : Sig := { own := [], run := Jl4 }
theorem JGZ : Jc tau Try.prog 35 JGY := fun xs es k res hl hr => JyU xs es k res hl (by
 change Jl4 xs es k = some res at hr
 show JhN xs es k = some res
 unfold Jl4 at hr
 split at hr
 · rw [GB, Yw] at hr; exact hr
 · cases hr)
def JhQ : Jz
 | [.ro 5 z f b, .sc (.int .i64 n)], [], k => bif okZ z b then k ⟨.ow 5 16 [] 0 (apY b n).length none, [], [.vec false 5 false (apY b n)]⟩ else none
 | _, _, _ => none
def JyW : Sig := { own := [], run := JhQ }
theorem JBE : Jc tau Try.prog 130 JyW := fun xs es k res hl hr => JBD xs es k res hl (by
 change JhQ xs es k = some res at hr
 show Jdr xs es k = some res
 unfold JhQ at hr
 split at hr
 · rename_i z f b n
   rw [GB, GA, show (b ++ pu .u8 [IntKind.u8.wrap n]).length = b.length + 1 by simp] at hr; exact hr
 · cases hr)
def Jl5 : Jz
 | [.ro 5 z f b, .sc (.string s)], [], k => bif okZ z b && Nat.ble s.size 65535 then k ⟨.ow 5 16 [] 0 (apT b s).length none, [], [.vec false 5 false (apT b s)]⟩ else none
 | _, _, _ => none
def JBF : Sig := { own := [], run := Jl5 }
theorem JyX : Jc tau Try.prog 92 JBF := fun xs es k res hl hr => JGX xs es k res hl (by
 change Jl5 xs es k = some res at hr
 show JhO xs es k = some res
 unfold Jl5 at hr
 split at hr
 · rename_i z f b s
   rw [GB, Yx, show (b ++ pu .u8 (WK s)).length = b.length + (s.size + 2) by simp] at hr; exact hr
 · cases hr)
def JhR : Jz
 | [.ro 5 true true [], .sc (.int .i64 n)], [], k => k ⟨.ow 5 16 [] 0 (apY [] n).length none, [], [.vec false 5 false (apY [] n)]⟩
 | [.ow 5 0 [] 0 m none, .sc (.int .i64 n)], [.vec false 5 nl l], k => bif okL m l then k ⟨.ow 5 16 [] 0 (apY l n).length none, [.dead], [.vec false 5 false (apY l n)]⟩ else none
 | _, _, _ => none
def Jsq : Sig := { own := [true], run := JhR }
theorem Jsr : Jc tau Try.prog 105 Jsq := fun xs es k res hl hr => JBC xs es k res hl (by
 change JhR xs es k = some res at hr
 show JaW xs es k = some res
 unfold JhR at hr
 split at hr
 · rw [GA] at hr; exact hr
 · rename_i m n nl l
   rw [JhP, GA] at hr
   obtain ⟨hc, hr⟩ := Jv hr
   have hm : m = l.length := by rw [Bool.and_eq_true, Nat.beq_eq] at hc; exact hc.1
   have h2 : JaW [.ow 5 0 [] 0 m none, .sc (.int .i64 n)] [.vec false 5 nl l] k = k ⟨.ow 5 16 [] 0 (m + 1) none, [.dead], [.vec false 5 false (l ++ pu .u8 [IntKind.u8.wrap n])]⟩ := Ja hc
   rw [h2, ← hr, hm]; simp
 · cases hr)
def Jl6 : Jz
 | [.ow 5 0 [] 0 m none, .sc (.int .i64 n)], [.vec false 5 nl l], k => bif okL m l then k ⟨.ow 5 16 [] 0 (apI l n).length none, [.dead], [.vec false 5 false (apI l n)]⟩ else none
 | _, _, _ => none
def JG0 : Sig := { own := [true], run := Jl6 }
theorem JyY : Jc tau Try.prog 53 JG0 := fun xs es k res hl hr => JyV xs es k res hl (by
 change Jl6 xs es k = some res at hr
 show JeA xs es k = some res
 unfold Jl6 at hr
 split at hr
 · rename_i m n nl l
   rw [JhP, Yw] at hr
   obtain ⟨hc, hr⟩ := Jv hr
   have hm : m = l.length := by rw [Bool.and_eq_true, Nat.beq_eq] at hc; exact hc.1
   have h2 : JeA [.ow 5 0 [] 0 m none, .sc (.int .i64 n)] [.vec false 5 nl l] k = k ⟨.ow 5 16 [] 0 (m + 8) none, [.dead], [.vec false 5 false (l ++ pu .u8 (QB n))]⟩ := Ja hc
   rw [h2, ← hr, hm]; simp
 · cases hr)
def Jl7 : Jz
 | [.ow 5 0 [] 0 m none, .sc (.string s)], [.vec false 5 nl l], k => bif okL m l && Nat.ble s.size 65535 then k ⟨.ow 5 16 [] 0 (apT l s).length none, [.dead], [.vec false 5 false (apT l s)]⟩ else none
 | _, _, _ => none
def JG1 : Sig := { own := [true], run := Jl7 }
theorem JyZ : Jc tau Try.prog 97 JG1 := fun xs es k res hl hr => JGV xs es k res hl (by
 change Jl7 xs es k = some res at hr
 show JeB xs es k = some res
 unfold Jl7 at hr
 split at hr
 · rename_i m s nl l
   rw [JhP, Yx] at hr
   obtain ⟨hc, hr⟩ := Jv hr
   have hm : m = l.length := by simp only [Bool.and_eq_true, Nat.beq_eq] at hc; exact hc.1.1
   have h2 : JeB [.ow 5 0 [] 0 m none, .sc (.string s)] [.vec false 5 nl l] k = k ⟨.ow 5 16 [] 0 (m + (s.size + 2)) none, [.dead], [.vec false 5 false (l ++ pu .u8 (WK s))]⟩ := Ja hc
   rw [h2, ← hr, hm]; simp
 · cases hr)
def JG2 : Fns := Jt 76 JBn (F0)
theorem Jwh : Jq tau Try.prog JG2 := (Js).add JyN JyM
def Jwi : Nm := [(0, .any), (1, .any), (5, .own), (6, .any)]
def JBG : An := (.seq .leaf (.seq .leaf (.seq .leaf (.seq .leaf (.seq (.seq .leaf (.seq .leaf (.cond .leaf .leaf))) (.seq .leaf .leaf))))))
def Jss : An := (.seq .leaf (.scope Jwi JBG))
abbrev JhS (n : Int) := (.int .u8 (IntKind.u8.wrap (JV IntKind.u64 (IntKind.u64.wrap n) (IntKind.i64.wrap (8 * 0)))))
abbrev JhT (n : Int) := (.int .u8 (IntKind.u8.wrap (JV IntKind.u64 (IntKind.u64.wrap n) (IntKind.i64.wrap (8 * IntKind.i64.wrap (0 + 1))))))
abbrev JhU (n : Int) := (.int .u8 (IntKind.u8.wrap (JV IntKind.u64 (IntKind.u64.wrap n) (IntKind.i64.wrap (8 * IntKind.i64.wrap (IntKind.i64.wrap (0 + 1) + 1))))))
abbrev JhV (n : Int) := (.int .u8 (IntKind.u8.wrap (JV IntKind.u64 (IntKind.u64.wrap n) (IntKind.i64.wrap (8 * IntKind.i64.wrap (IntKind.i64.wrap (IntKind.i64.wrap (0 + 1) + 1) + 1))))))
abbrev JaX := (IntKind.i64.wrap (IntKind.i64.wrap (IntKind.i64.wrap (0 + 1) + 1) + 1) + 1)
abbrev JhW (n : Int) := (.int .u8 (IntKind.u8.wrap (JV IntKind.u64 (IntKind.u64.wrap n) (IntKind.i64.wrap (8 * IntKind.i64.wrap JaX)))))
abbrev JhX (n : Int) := (.int .u8 (IntKind.u8.wrap (JV IntKind.u64 (IntKind.u64.wrap n) (IntKind.i64.wrap (8 * IntKind.i64.wrap (IntKind.i64.wrap JaX + 1))))))
abbrev JhY (n : Int) := (.int .u8 (IntKind.u8.wrap (JV IntKind.u64 (IntKind.u64.wrap n) (IntKind.i64.wrap (8 * IntKind.i64.wrap (IntKind.i64.wrap (IntKind.i64.wrap JaX + 1) + 1))))))
abbrev JhZ (n : Int) := (.int .u8 (IntKind.u8.wrap (JV IntKind.u64 (IntKind.u64.wrap n) (IntKind.i64.wrap (8 * IntKind.i64.wrap (IntKind.i64.wrap (IntKind.i64.wrap (IntKind.i64.wrap JaX + 1) + 1) + 1))))))
abbrev Jds (b : List PV) (n : Int) := (List.take (0 + b.length + 1 + 1 + 1 + 1 + 1 + 1 + 1 + 1) (List.take (0 + b.length + 1 + 1 + 1 + 1 + 1 + 1 + 1) (List.take (0 + b.length + 1 + 1 + 1 + 1 + 1 + 1) (List.take (0 + b.length + 1 + 1 + 1 + 1 + 1) (List.take (0 + b.length + 1 + 1 + 1 + 1) (List.take (0 + b.length + 1 + 1 + 1) (List.take (0 + b.length + 1 + 1) (List.take (0 + b.length + 1) (List.take (0 + b.length) b ++ [PV.sc (JhS n)]) ++ [PV.sc (JhT n)]) ++ [PV.sc (JhU n)]) ++ [PV.sc (JhV n)]) ++ [PV.sc (JhW n)]) ++ [PV.sc (JhX n)]) ++ [PV.sc (JhY n)]) ++ [PV.sc (JhZ n)]))
def Jst (f : Nat) (b_z b_f : Bool) (b : List PV) (n : Int) (k : KR) : OR := bif b_z then k (Res.mk (.ow 5 16 [] 0 8 none) [] [.vec false 5 false [.sc (JhS n), .sc (JhT n), .sc (JhU n), .sc (JhV n), .sc (JhW n), .sc (JhX n), .sc (JhY n), .sc (JhZ n)]]) else bif Je (0 + b.length) 1 && true then bif Je (0 + b.length + 1) 1 && true then bif Je (0 + b.length + 1 + 1) 1 && true then bif Je (0 + b.length + 1 + 1 + 1) 1 && true then bif Je (0 + b.length + 1 + 1 + 1 + 1) 1 && true then bif Je (0 + b.length + 1 + 1 + 1 + 1 + 1) 1 && true then bif Je (0 + b.length + 1 + 1 + 1 + 1 + 1 + 1) 1 && true then bif Je (0 + b.length + 1 + 1 + 1 + 1 + 1 + 1 + 1) 1 && true then bif Je (0 + b.length + 1 + 1 + 1 + 1 + 1 + 1 + 1 + 1) 1 && true then bif Je (0 + (Jds b n).length) 1 && true then k (Res.mk (.ow 5 16 [] 0 (0 + (Jds b n).length) none) [] [.vec false 5 false (Jds b n)]) else none else none else none else none else none else none else none else none else none else none
theorem JMH (f : Nat) (b_z b_f : Bool) (b : List PV) (n : Int) (k : KR) : JJ tau JG2 Try.f35 (Try.f35.body.get!) Jss [] 12 [.ro 5 b_z b_f b, .sc (.int .i64 n)] [] k = Jst f b_z b_f b n k := by kernel_rfl
theorem JG3 (f : Nat) : ∀ q ∈ Jf (Try.f35.body.get!) Jss, q.Ok tau Try.prog 0 := Jw (by kernel_rfl)
theorem JG4 : Try.prog.funcs[35]? = some Try.f35 := by kernel_rfl
theorem JG5 : Try.f35.body = some (Try.f35.body.get!) := by kernel_rfl
def F97 : Fns := F0
theorem JBH : Jq tau Try.prog F97 := Js
def JBI : An := (.seq .leaf (.seq (.seq .leaf (.cond .leaf .leaf)) (.seq .leaf .leaf)))
def g97 (f : Nat) (s : ByteArray) (k : KR) : OR := bif decide (zi s.size > 65535) then bif decide (65535 <= s.size) && true then bif Je (2 + (Jj (s.extract 0 65535)).length) 1 && true then k (Res.mk (.ow 5 16 [] 0 (2 + (Jj (s.extract 0 65535)).length) none) [] [.vec false 5 false (.sc (.int .u8 (IntKind.u8.wrap (zi (s.extract 0 65535).size))) :: .sc (.int .u8 (IntKind.u8.wrap (JV IntKind.i64 (zi (s.extract 0 65535).size) 8))) :: id (Jj (s.extract 0 65535)))]) else none else none else bif Je (2 + (Jj s).length) 1 && true then k (Res.mk (.ow 5 16 [] 0 (2 + (Jj s).length) none) [] [.vec false 5 false (.sc (.int .u8 (IntKind.u8.wrap (zi s.size))) :: .sc (.int .u8 (IntKind.u8.wrap (JV IntKind.i64 (zi s.size) 8))) :: id (Jj s))]) else none
theorem e97 (f : Nat) (s : ByteArray) (k : KR) : JJ tau F97 Try.f97 (Try.f97.body.get!) JBI [] 0 [.ro 5 true true [], .sc (.string s)] [] k = g97 f s k := by kernel_rfl
theorem JMI (f : Nat) : ∀ q ∈ Jf (Try.f97.body.get!) JBI, q.Ok tau Try.prog 0 := Jw (by kernel_rfl)
theorem JG6 : Try.prog.funcs[97]? = some Try.f97 := by kernel_rfl
theorem JG7 : Try.f97.body = some (Try.f97.body.get!) := by kernel_rfl
theorem JG8 : Enters Try.prog 97 := enters_of JG6 (by kernel_rfl) JG7
def Jl8 : Jz
 | [.ro 5 z f b, .sc (.int .i64 n)], [], k => bif okZ z b then k ⟨.ow 5 16 [] 0 (apI b n).length none, [], [.vec false 5 false (apI b n)]⟩ else none
 | _, _, _ => none
def JG9 : Sig := { own := [], run := Jl8 }
theorem Jsu (f : Bool) (n : Int) (k : KR) : Jst 0 true f [] n k = k ⟨.ow 5 16 [] 0 8 none, [], [.vec false 5 false (pu .u8 (QB n))]⟩ := by
 rw [Yl]; kernel_rfl
theorem JBJ (f : Bool) (b : List PV) (hb : b.length <= 1000000000) (n : Int) (k : KR) : Jst 0 false f b n k = k ⟨.ow 5 16 [] 0 (b.length + 8) none, [], [.vec false 5 false (b ++ pu .u8 (QB n))]⟩ := by
 rw [Yl]
 unfold Jst Jds JhZ JhY JhX JhW JaX JhV JhU JhT JhS
 refine (Jd rfl).trans ?_
 repeat rw [List.take_of_length_le (by simp <;> omega)]
 repeat (refine (Ja (by simp [Je]; omega)).trans ?_)
 simp only [List.nil_append, List.append_assoc, List.length_append, List.length_cons, List.length_nil, Nat.zero_add]
 rfl
theorem JHa : Jc tau Try.prog 35 JG9 := Jc.mk' fun xs es k res hl hr => by
 change Jl8 xs es k = some res at hr
 unfold Jl8 at hr
 split at hr
 · rename_i z f b n
   obtain ⟨hc, hr2⟩ := Jv hr
   clear hr
   rw [GB] at hc
   obtain ⟨h1, h2⟩ := Xw.1 hc
   rw [Yw] at hr2
   have hg : Jst 0 z f b n k = some res := by
    cases z with
    | true => obtain rfl := h1 rfl; rw [Jsu]; simpa using hr2
    | false => rw [JBJ f b h2]; simpa using hr2
   exact J2 Jn Jwh Jo JG4 JG5 Jss [] 0 12 (JG3 0) hl rfl ((JMH 0 z f b n k).trans hg)
 · cases hr
def Jl9 : Jz
 | [.ro 5 true true [], .sc (.int .i64 n)], [], k => k ⟨.ow 5 16 [] 0 (apI [] n).length none, [], [.vec false 5 false (apI [] n)]⟩
 | [.ow 5 0 [] 0 m none, .sc (.int .i64 n)], [.vec false 5 nl l], k => bif okL m l then k ⟨.ow 5 16 [] 0 (apI l n).length none, [.dead], [.vec false 5 false (apI l n)]⟩ else none
 | _, _, _ => none
def Jwj : Sig := { own := [true], run := Jl9 }
theorem Jsv : Jc tau Try.prog 53 Jwj := fun xs es k res hl hr => by
 change Jl9 xs es k = some res at hr
 unfold Jl9 at hr
 split at hr
 · rename_i n
   refine JyV _ _ k res hl ?_
   rw [Yw] at hr
   show k ⟨.ow 5 16 [] 0 8 none, [], [.vec false 5 false (pu .u8 (QB n))]⟩ = some res
   simpa using hr
 · rename_i m n nl l
   exact JyY _ _ k res hl hr
 · cases hr
def Jma : Jz
 | [.ro 5 true true [], .sc (.string s)], [], k => bif Nat.ble s.size 65535 then k ⟨.ow 5 16 [] 0 (apT [] s).length none, [], [.vec false 5 false (apT [] s)]⟩ else none
 | [.ow 5 0 [] 0 m none, .sc (.string s)], [.vec false 5 nl l], k => bif okL m l && Nat.ble s.size 65535 then k ⟨.ow 5 16 [] 0 (apT l s).length none, [.dead], [.vec false 5 false (apT l s)]⟩ else none
 | _, _, _ => none
def JBK : Sig := { own := [true], run := Jma }
theorem Jy0 : Jc tau Try.prog 97 JBK := Jc.mk' fun xs es k res hl hr => by
 change Jma xs es k = some res at hr
 unfold Jma at hr
 split at hr
 · rename_i s
   obtain ⟨hc, hr⟩ := Jv hr
   rw [Nat.ble_eq] at hc
   have hob : (Jj s).length = s.size := by rw [XX]; simp
   have hg : g97 0 s k = some res := by
    unfold g97
    rw [Jd (by simp only [zi, decide_eq_false_iff_not]; omega), Ja (by simp [Je, hob]; omega), hob]
    rw [Yx, YR, Gz] at hr
    simp only [List.nil_append, J9, List.length_append, JI, Jl3, List.length_cons, List.length_nil, ← XX] at hr
    rw [← hr, hob]
    simp only [id, Jdm, Jk7, List.cons_append, List.nil_append, Nat.zero_add, Nat.reduceAdd]
   exact J2 Jn JBH Jo JG6 JG7 JBI [] 0 0 (JMI 0) hl rfl ((e97 0 s k).trans hg)
 · rename_i m s nl l
   exact JyZ _ _ k res hl hr
 · cases hr
def N93 : Nat := 34
def F93 : Fns := Jt 130 JyW (Jt 92 JBF (Jt 35 JGY (F0)))
theorem Jsw : Jq tau Try.prog F93 := (((Js).add JGZ JBr).add JyX JGy).add JBE JGx
def JjV : Code := Qd (Try.f93.body.get!) [1, 0]
def JeC : Nm := [(0, .any), (3, .own), (4, .any)]
def Jmb : Nm := [(2, .any)]
def JoG : An := (.seq .leaf (.seq .leaf (.seq .leaf (.seq (.seq .leaf (.cond (.seq .leaf (.seq .leaf .leaf)) .leaf)) (.seq .leaf .leaf)))))
def Jwk (r0 : Jrc) : An := (.seq .leaf (.ssum JeC N93 (JoG) r0))
abbrev WW (v2 : List PV) (v4 : Int) := (PV.child (0 + 1 + 1) (v2.getD v4.toNat PV.top))
abbrev XY (v2 : List PV) (v4 : Int) := (PV.isSt 113 #[Field.mk "Kind" 3 0 false "" "" 0, Field.mk "N" 3 1 false "" "" 8, Field.mk "S" 9 2 false "" "" 16].size (v2.getD v4.toNat PV.top) && (PV.isInt IntKind.i64 (PV.child 0 (v2.getD v4.toNat PV.top)) && (PV.isInt IntKind.i64 (PV.child (0 + 1) (v2.getD v4.toNat PV.top)) && ((WW v2 v4).isStr && true))))
abbrev WX (v2 : List PV) (v3 : Nat) (v4 : Int) (v5 : List PV) := (List.take (apY (List.take v3 v5) (PV.child 0 (v2.getD v4.toNat PV.top)).int).length (apY (List.take v3 v5) (PV.child 0 (v2.getD v4.toNat PV.top)).int))
def JaY (f : Nat) (rc : Bool -> Bool -> List PV -> Nat -> Int -> List PV -> OR) (k0 : Nat -> List PV -> OR) (v0 v1 : Bool) (v2 : List PV) (v3 : Nat) (v4 : Int) (v5 : List PV) : OR := bif decide (v4 < zi v2.length) then bif decide (0 <= v4) && decide (v4 < zi v2.length) && (XY v2 v4) && true then bif okZ false (List.take v3 v5) then bif decide (0 <= v4) && decide (v4 < zi v2.length) && (XY v2 v4) && true then bif okZ false (WX v2 v3 v4 v5) then bif decide (0 <= v4) && decide (v4 < zi v2.length) && (XY v2 v4) && true then bif okZ false (apI (WX v2 v3 v4 v5) (PV.child (0 + 1) (v2.getD v4.toNat PV.top)).int) && (WW v2 v4).str.size.ble 65535 then rc v0 v1 v2 ((apT (apI (WX v2 v3 v4 v5) (PV.child (0 + 1) (v2.getD v4.toNat PV.top)).int) (WW v2 v4).str).length) (IntKind.i64.wrap (v4 + 1)) (apT (apI (WX v2 v3 v4 v5) (PV.child (0 + 1) (v2.getD v4.toNat PV.top)).int) (WW v2 v4).str) else none else none else none else none else none else none else k0 v3 v5
def GC (f : Nat) (k0 : Nat -> List PV -> OR) : Nat -> Bool -> Bool -> List PV -> Nat -> Int -> List PV -> OR
 | 0, _, _, _, _, _, _ => none
 | n + 1, v0, v1, v2, v3, v4, v5 => JaY f (GC f k0 n) k0 v0 v1 v2 v3 v4 v5
def JaZ (k : Kont) := fun x0 x1 => k Ex.ret (Ji Jmb N93 [.ow 5 560 [] 0 x0 none] [(560, .vec false 5 false x1)])
def Jmc (f : Nat) (k : Kont) (n : Nat) (v0 v1 : Bool) (v2 : List PV) (v3 : Nat) (v4 : Int) (v5 : List PV) : OR := QZ tau 0 JeC (hasLabel JjV) (fun l s k => Qg tau F93 0 0 JjV (JoG ) l s k) n 0 (Ji JeC N93 [.ro 113 v0 v1 v2, .ow 5 560 [] 0 v3 none, .sc (.int .i64 v4)] [(560, .vec false 5 false v5)]) (JG tau 0 Jmb k)
theorem Jwl (f : Nat) (k : Kont) (n : Nat) (v0 v1 : Bool) (v2 : List PV) (v3 : Nat) (v4 : Int) (v5 : List PV) : Jmc f k (n + 1) v0 v1 v2 v3 v4 v5 = JaY f (Jmc f k n) (JaZ k) v0 v1 v2 v3 v4 v5 := by kernel_rfl
theorem JoH (f : Nat) (k : Kont) : ∀ (n : Nat) (v0 v1 : Bool) (v2 : List PV) (v3 : Nat) (v4 : Int) (v5 : List PV), Jmc f k n v0 v1 v2 v3 v4 v5 = GC f (JaZ k) n v0 v1 v2 v3 v4 v5 | 0, _, _, _, _, _, _ => rfl | n + 1, v0, v1, v2, v3, v4, v5 => (Jwl f k n v0 v1 v2 v3 v4 v5).trans (congrArg (fun r => JaY f r (JaZ k) v0 v1 v2 v3 v4 v5) (by funext v0 v1 v2 v3 v4 v5; exact JoH f k n v0 v1 v2 v3 v4 v5))
def JeD (f : Nat) : Nat -> List PV -> List (Nat × Ent) -> Kont -> OR
 | 0, [.ro 113 v0 v1 v2, .ow 5 560 [] 0 v3 none,
 PV.sc
  (Value.int IntKind.i64
   v4)], [(560, .vec false 5 false v5)], k => GC f (JaZ k) f v0 v1 v2 v3 v4 v5
 | _, _, _, _ => none
theorem JBL (f : Nat) : Jf JjV JoG = [] := by kernel_rfl
theorem JBM (f : Nat) : (Item.s JjV JeC N93 (JeD f)).Ok tau Try.prog 0 := XS Jn Jsw Jo (x := JoG) (nm2 := Jmb) (Jk _ _ (by rw [JBL f]; intro q hq; cases hq)) fun l vs hp k res hr => by
 unfold JeD at hr
 split at hr
 · exact ⟨f, 0, (JoH f _ f _ _ _ _ _ _ ).trans hr⟩
 · cases hr
abbrev Jh0 (o : List PV) := (List.take (apY [] (zi o.length)).length (apY [] (zi o.length)))
abbrev JeE (o : List PV) := (apY (Jh0 o) (PV.child 0 (o.getD 0 PV.top)).int)
abbrev JeF (o : List PV) := (PV.child (0 + 1 + 1) (o.getD 0 PV.top))
abbrev Jh1 (o : List PV) := (PV.isSt 113 #[Field.mk "Kind" 3 0 false "" "" 0, Field.mk "N" 3 1 false "" "" 8, Field.mk "S" 9 2 false "" "" 16].size (o.getD (Int.toNat 0) PV.top) && (PV.isInt IntKind.i64 (PV.child 0 (o.getD 0 PV.top)) && (PV.isInt IntKind.i64 (PV.child (0 + 1) (o.getD 0 PV.top)) && ((JeF o).isStr && true))))
abbrev Jh2 (o : List PV) := (apI (List.take (JeE o).length (JeE o)) (PV.child (0 + 1) (o.getD 0 PV.top)).int)
def g93 (f : Nat) (o_z o_f : Bool) (o : List PV) (k : KR) : OR := bif okZ true [] then bif decide (0 < zi o.length) then bif decide (0 < zi o.length) && (Jh1 o) && true then bif okZ false (Jh0 o) then bif decide (0 < zi o.length) && (Jh1 o) && true then bif okZ false (List.take (JeE o).length (JeE o)) then bif decide (0 < zi o.length) && (Jh1 o) && true then bif okZ false (Jh2 o) && (JeF o).str.size.ble 65535 then GC f (fun x0_0 x1_0 => k (Res.mk (.ro 5 false false (List.take x0_0 x1_0)) [] [])) f o_z o_f o ((apT (Jh2 o) (JeF o).str).length) (IntKind.i64.wrap (0 + 1)) (apT (Jh2 o) (JeF o).str) else none else none else none else none else none else none else k (Res.mk (.ro 5 false false (Jh0 o)) [] []) else none
theorem e93 (f : Nat) (o_z o_f : Bool) (o : List PV) (k : KR) : JJ tau F93 Try.f93 (Try.f93.body.get!) (Jwk (JeD f)) [.ro] 0 [.ro 113 o_z o_f o] [] k = g93 f o_z o_f o k := by kernel_rfl
theorem JMJ (f : Nat) : Jf (Try.f93.body.get!) (Jwk (JeD f)) = [.s JjV JeC N93 (JeD f)] := by kernel_rfl
theorem JMK (f : Nat) : ∀ q ∈ Jf (Try.f93.body.get!) (Jwk (JeD f)), q.Ok tau Try.prog 0 := by rw [JMJ f]; exact JL (JBM f) (fun _ h => nomatch h)
theorem JHb : Try.prog.funcs[93]? = some Try.f93 := by kernel_rfl
theorem JHc : Try.f93.body = some (Try.f93.body.get!) := by kernel_rfl
theorem JML : Enters Try.prog 93 := enters_of JHb (by kernel_rfl) JHc
def N98 : Nat := 34
def F98 : Fns := Jt 105 Jsq (Jt 97 JG1 (Jt 53 JG0 (F0)))
theorem Jsx : Jq tau Try.prog F98 := (((Js).add JyY Jv9).add JyZ JGR).add Jsr JyQ
def JoI : Code := Qd (Try.f98.body.get!) [1, 1, 0, 1, 0, 0]
def JeG : Nm := [(0, .any), (3, .own), (4, .any)]
def Jmd : Nm := [(3, .any)]
def Jsy : An := (.seq (.seq .leaf (.cond .leaf .leaf)) (.seq (.block none .leaf) .leaf))
def Jwm (r0 : Qr) : An := (.seq .leaf (.seq .leaf (.seq (.seq .leaf (.block none (.sum JeG N98 r0))) (.seq .leaf .leaf))))
abbrev WY (v2 : List PV) (v4 : Int) := (PV.child (0 + 1 + 1) (v2.getD v4.toNat PV.top))
abbrev XZ (v2 : List PV) (v4 : Int) := (PV.isSt 113 #[Field.mk "Kind" 3 0 false "" "" 0, Field.mk "N" 3 1 false "" "" 8, Field.mk "S" 9 2 false "" "" 16].size (v2.getD v4.toNat PV.top) && (PV.isInt IntKind.i64 (PV.child 0 (v2.getD v4.toNat PV.top)) && (PV.isInt IntKind.i64 (PV.child (0 + 1) (v2.getD v4.toNat PV.top)) && ((WY v2 v4).isStr && true))))
abbrev WZ (v2 : List PV) (v4 : Int) (v5 : List PV) := (apI (apY v5 (PV.child 0 (v2.getD v4.toNat PV.top)).int) (PV.child (0 + 1) (v2.getD v4.toNat PV.top)).int)
def Ja0 (f : Nat) (rc : Bool -> Bool -> List PV -> Nat -> Int -> List PV -> OR) (k0 : Nat -> List PV -> OR) (v0 v1 : Bool) (v2 : List PV) (v3 : Nat) (v4 : Int) (v5 : List PV) : OR := bif decide (v4 < zi v2.length) then bif decide (0 <= v4) && decide (v4 < zi v2.length) && (XZ v2 v4) && true then bif okL v3 v5 then bif decide (0 <= v4) && decide (v4 < zi v2.length) && (XZ v2 v4) && true then bif okL (apY v5 (PV.child 0 (v2.getD v4.toNat PV.top)).int).length (apY v5 (PV.child 0 (v2.getD v4.toNat PV.top)).int) then bif decide (0 <= v4) && decide (v4 < zi v2.length) && (XZ v2 v4) && true then bif okL (WZ v2 v4 v5).length (WZ v2 v4 v5) && (WY v2 v4).str.size.ble 65535 then rc v0 v1 v2 ((apT (WZ v2 v4 v5) (WY v2 v4).str).length) (IntKind.i64.wrap (v4 + 1)) (apT (WZ v2 v4 v5) (WY v2 v4).str) else none else none else none else none else none else none else k0 v3 v5
def GD (f : Nat) (k0 : Nat -> List PV -> OR) : Nat -> Bool -> Bool -> List PV -> Nat -> Int -> List PV -> OR
 | 0, _, _, _, _, _, _ => none
 | n + 1, v0, v1, v2, v3, v4, v5 => Ja0 f (GD f k0 n) k0 v0 v1 v2 v3 v4 v5
def Ja1 (k : Kont) := fun x0 x1 => k (Ex.exit 0) (Ji Jmd N98 [.ow 5 560 [] 0 x0 none] [(560, .vec false 5 false x1)])
def Jme (f : Nat) (k : Kont) (n : Nat) (v0 v1 : Bool) (v2 : List PV) (v3 : Nat) (v4 : Int) (v5 : List PV) : OR := Jy tau 0 JeG (fun s k => ev tau F98 0 0 JoI (Jsy ) s k) n (Ji JeG N98 [.ro 113 v0 v1 v2, .ow 5 560 [] 0 v3 none, .sc (.int .i64 v4)] [(560, .vec false 5 false v5)]) (JG tau 0 Jmd k)
theorem Jwn (f : Nat) (k : Kont) (n : Nat) (v0 v1 : Bool) (v2 : List PV) (v3 : Nat) (v4 : Int) (v5 : List PV) : Jme f k (n + 1) v0 v1 v2 v3 v4 v5 = Ja0 f (Jme f k n) (Ja1 k) v0 v1 v2 v3 v4 v5 := by kernel_rfl
theorem JoJ (f : Nat) (k : Kont) : ∀ (n : Nat) (v0 v1 : Bool) (v2 : List PV) (v3 : Nat) (v4 : Int) (v5 : List PV), Jme f k n v0 v1 v2 v3 v4 v5 = GD f (Ja1 k) n v0 v1 v2 v3 v4 v5 | 0, _, _, _, _, _, _ => rfl | n + 1, v0, v1, v2, v3, v4, v5 => (Jwn f k n v0 v1 v2 v3 v4 v5).trans (congrArg (fun r => Ja0 f r (Ja1 k) v0 v1 v2 v3 v4 v5) (by funext v0 v1 v2 v3 v4 v5; exact JoJ f k n v0 v1 v2 v3 v4 v5))
def JeH (f : Nat) : List PV -> List (Nat × Ent) -> Kont -> OR
 | [.ro 113 v0 v1 v2, .ow 5 560 [] 0 v3 none,
 PV.sc
  (Value.int IntKind.i64
   v4)], [(560, .vec false 5 false v5)], k => GD f (Ja1 k) f v0 v1 v2 v3 v4 v5
 | _, _, _ => none
theorem JBN (f : Nat) : Jf JoI Jsy = [] := by kernel_rfl
theorem JBO (f : Nat) : (Item.l JoI JeG N98 (JeH f)).Ok tau Try.prog 0 := Ju Jn Jsx Jo (x := Jsy) (nm2 := Jmd) (Jk _ _ (by rw [JBN f]; intro q hq; cases hq)) fun vs hp k res hr => by
 unfold JeH at hr
 split at hr
 · exact ⟨f, 0, (JoJ f _ f _ _ _ _ _ _ ).trans hr⟩
 · cases hr
def g98 (f : Nat) (o_z o_f : Bool) (o : List PV) (k : KR) : OR := GD f (fun x0_0 x1_0 => k (Res.mk (.ow 5 16 [] 0 x0_0 none) [] [.vec false 5 false x1_0])) f o_z o_f o ((apY [] (zi o.length)).length) (0) (apY [] (zi o.length))
theorem e98 (f : Nat) (o_z o_f : Bool) (o : List PV) (k : KR) : JJ tau F98 Try.f98 (Try.f98.body.get!) (Jwm (JeH f)) [] 0 [.ro 113 o_z o_f o] [] k = g98 f o_z o_f o k := by kernel_rfl
theorem JMM (f : Nat) : Jf (Try.f98.body.get!) (Jwm (JeH f)) = [.l JoI JeG N98 (JeH f)] := by kernel_rfl
theorem JMN (f : Nat) : ∀ q ∈ Jf (Try.f98.body.get!) (Jwm (JeH f)), q.Ok tau Try.prog 0 := by rw [JMM f]; exact JL (JBO f) (fun _ h => nomatch h)
theorem JHd : Try.prog.funcs[98]? = some Try.f98 := by kernel_rfl
theorem JHe : Try.f98.body = some (Try.f98.body.get!) := by kernel_rfl
theorem JHf : Enters Try.prog 98 := enters_of JHd (by kernel_rfl) JHe
-- FN delta.OpBytes | ref8.OpBytes
def JoK (c : CV) : List Int := [IntKind.u8.wrap c.kd] ++ (QB c.n ++ WK c.s)
def WD (l : List PV) : List Int := l.flatMap fun p => JoK (cv p)
def Jsz (l : List PV) : List Int := [IntKind.u8.wrap (zi l.length)] ++ WD l
def opB : List PV -> List Int := hid Jsz
theorem Jmf (l : List PV) : opB l = Jsz l := by rw [opB, hid_eq]
theorem XA (c : CV) : (JoK c).length = c.s.size + 11 := by simp [JoK]; omega
def cBy : List PV -> Bool := hid fun l => l.all isCp && (l.all (fun p => decide ((cv p).s.size <= 65535)) && decide (l.length <= 1000))
theorem Jdt {l : List PV} : cBy l = true ↔ l.all isCp = true /\ (∀ p ∈ l, (cv p).s.size <= 65535) /\ l.length <= 1000 := by
 rw [cBy, hid_eq]; simp only [Bool.and_eq_true, List.all_eq_true, decide_eq_true_eq]
theorem JeI (m : Nat) : ∀ l : List PV, (∀ p ∈ l, (cv p).s.size <= m) -> (WD l).length <= l.length * (m + 11)
 | [], _ => by simp [WD]
 | p :: l, h => by
  have h1 := h p List.mem_cons_self
  have h2 := JeI m l fun x hx => h x (List.mem_cons_of_mem _ hx)
  simp only [WD, List.flatMap_cons, List.length_append, XA, List.length_cons, Nat.add_mul] at h2 ⊢
  omega
theorem Jh3 (L : List PV) (p : PV) : apT (apI (apY L (PV.child 0 p).int) (PV.child (0 + 1) p).int) (PV.child (0 + 1 + 1) p).str = L ++ pu .u8 (JoK (cv p)) := by
 rw [Yx, Yw, GA]
 show _ = L ++ pu .u8 ([IntKind.u8.wrap (PV.child 0 p).int] ++ (QB (PV.child (0 + 1) p).int ++ WK (PV.child (0 + 1 + 1) p).str))
 simp only [J9, List.append_assoc]
theorem XB (L : List PV) (n : Int) : (apY L n).length = L.length + 1 := by rw [GA]; simp
theorem Xc (L : List PV) (n : Int) : (apI L n).length = L.length + 8 := by rw [Yw]; simp
theorem W1 {l : List PV} (h : l.length <= 1000000000) : okL l.length l = true := by
 rw [JhP, Bool.and_eq_true, Nat.beq_eq, Nat.ble_eq]; exact ⟨rfl, h⟩
theorem Z8 {l : List PV} (h : l.length <= 1000000000) : okZ false l = true := by rw [GB]; exact Xw.2 ⟨fun h => (by cases h), h⟩
theorem Jy1 (l : List PV) (h1 : l.all isCp = true) (h3 : ∀ p ∈ l, (cv p).s.size <= 65535) (h2 : l.length <= 1000) (f : Nat) (k0 : Nat -> List PV -> OR) (z fl : Bool) : ∀ (d i n : Nat) (L : List PV), i + d = l.length -> d < n -> L.length <= 1 + i * 65546 ->
  GC f k0 n z fl l L.length (i : Int) L = k0 (L ++ pu .u8 (WD (l.drop i))).length (L ++ pu .u8 (WD (l.drop i)))
 | 0, i, n + 1, L, hi, hn, hL => by
   rw [List.drop_of_length_le (by omega)]
   simp only [GC, JaY, WX, XY, WW, WD, List.flatMap_nil, Jk7, List.append_nil]
   exact Jd (by simp [zi]; omega)
 | d + 1, i, n + 1, L, hi, hn, hL => by
   have g1 : ((i : Int)).toNat = i := by omega
   have w1 : IntKind.i64.wrap ((i : Int) + 1) = ((i + 1 : Nat) : Int) := by rw [wrap_i64 (by omega) (by omega)]; omega
   have hro : (decide (0 <= (i : Int)) && decide ((i : Int) < zi l.length) && (PV.isSt 113 #[Field.mk "Kind" 3 0 false "" "" 0, Field.mk "N" 3 1 false "" "" 8, Field.mk "S" 9 2 false "" "" 16].size (l.getD i PV.top) && (PV.isInt IntKind.i64 (PV.child 0 (l.getD i PV.top)) && (PV.isInt IntKind.i64 (PV.child (0 + 1) (l.getD i PV.top)) && ((PV.child (0 + 1 + 1) (l.getD i PV.top)).isStr && true)))) && true) = true := by
    have hq : (PV.isSt 113 #[Field.mk "Kind" 3 0 false "" "" 0, Field.mk "N" 3 1 false "" "" 8, Field.mk "S" 9 2 false "" "" 16].size (l.getD i PV.top) && (PV.isInt IntKind.i64 (PV.child 0 (l.getD i PV.top)) && (PV.isInt IntKind.i64 (PV.child (0 + 1) (l.getD i PV.top)) && ((PV.child (0 + 1 + 1) (l.getD i PV.top)).isStr && true)))) = true := XI (WS h1 (by omega))
    rw [hq]; simp [zi]; omega
   have hd := JW (l := l) (i := i) (by omega)
   have hmem : l.getD i .top ∈ l := by rw [List.getD_eq_getElem?_getD, List.getElem?_eq_getElem (by omega)]; exact List.getElem_mem (by omega)
   have hsz := h3 _ hmem
   have hs2 : (PV.child (0 + 1 + 1) (l.getD i PV.top)).str.size.ble 65535 = true := Nat.ble_eq.symm ▸ hsz
   have hi2 : i * 65546 <= 999 * 65546 := Nat.mul_le_mul_right _ (by omega)
   simp only [GC, JaY, WX, XY, WW, g1, w1, List.take_length]
   refine (Ja (by simp [zi]; omega)).trans ((Ja hro).trans ((Ja (Z8 (by omega))).trans ((Ja hro).trans ((Ja (Z8 (by rw [XB]; omega))).trans ((Ja hro).trans ((Ja (by rw [Z8 (by rw [Xc, XB]; omega), hs2]; rfl)).trans ?_))))))
   rw [Jh3]
   refine (Jy1 l h1 h3 h2 f k0 z fl d (i + 1) n _ (by omega) (by omega) (by rw [List.length_append, JI, XA]; omega)).trans ?_
   rw [hd]
   simp only [WD, List.flatMap_cons, J9, List.append_assoc]
theorem Jy2 (l : List PV) (h1 : l.all isCp = true) (h3 : ∀ p ∈ l, (cv p).s.size <= 65535) (h2 : l.length <= 1000) (f : Nat) (k0 : Nat -> List PV -> OR) (z fl : Bool) : ∀ (d i n : Nat) (L : List PV), i + d = l.length -> d < n -> L.length <= 1 + i * 65546 ->
  GD f k0 n z fl l L.length (i : Int) L = k0 (L ++ pu .u8 (WD (l.drop i))).length (L ++ pu .u8 (WD (l.drop i)))
 | 0, i, n + 1, L, hi, hn, hL => by
   rw [List.drop_of_length_le (by omega)]
   simp only [GD, Ja0, WZ, XZ, WY, WD, List.flatMap_nil, Jk7, List.append_nil]
   exact Jd (by simp [zi]; omega)
 | d + 1, i, n + 1, L, hi, hn, hL => by
   have g1 : ((i : Int)).toNat = i := by omega
   have w1 : IntKind.i64.wrap ((i : Int) + 1) = ((i + 1 : Nat) : Int) := by rw [wrap_i64 (by omega) (by omega)]; omega
   have hro : (decide (0 <= (i : Int)) && decide ((i : Int) < zi l.length) && (PV.isSt 113 #[Field.mk "Kind" 3 0 false "" "" 0, Field.mk "N" 3 1 false "" "" 8, Field.mk "S" 9 2 false "" "" 16].size (l.getD i PV.top) && (PV.isInt IntKind.i64 (PV.child 0 (l.getD i PV.top)) && (PV.isInt IntKind.i64 (PV.child (0 + 1) (l.getD i PV.top)) && ((PV.child (0 + 1 + 1) (l.getD i PV.top)).isStr && true)))) && true) = true := by
    have hq : (PV.isSt 113 #[Field.mk "Kind" 3 0 false "" "" 0, Field.mk "N" 3 1 false "" "" 8, Field.mk "S" 9 2 false "" "" 16].size (l.getD i PV.top) && (PV.isInt IntKind.i64 (PV.child 0 (l.getD i PV.top)) && (PV.isInt IntKind.i64 (PV.child (0 + 1) (l.getD i PV.top)) && ((PV.child (0 + 1 + 1) (l.getD i PV.top)).isStr && true)))) = true := XI (WS h1 (by omega))
    rw [hq]; simp [zi]; omega
   have hd := JW (l := l) (i := i) (by omega)
   have hmem : l.getD i .top ∈ l := by rw [List.getD_eq_getElem?_getD, List.getElem?_eq_getElem (by omega)]; exact List.getElem_mem (by omega)
   have hsz := h3 _ hmem
   have hs2 : (PV.child (0 + 1 + 1) (l.getD i PV.top)).str.size.ble 65535 = true := Nat.ble_eq.symm ▸ hsz
   have hi2 : i * 65546 <= 999 * 65546 := Nat.mul_le_mul_right _ (by omega)
   simp only [GD, Ja0, WZ, XZ, WY, g1, w1, List.take_length]
   refine (Ja (by simp [zi]; omega)).trans ((Ja hro).trans ((Ja (W1 (by omega))).trans ((Ja hro).trans ((Ja (W1 (by rw [XB]; omega))).trans ((Ja hro).trans ((Ja (by rw [W1 (by rw [Xc, XB]; omega), hs2]; rfl)).trans ?_))))))
   rw [Jh3]
   refine (Jy2 l h1 h3 h2 f k0 z fl d (i + 1) n _ (by omega) (by omega) (by rw [List.length_append, JI, XA]; omega)).trans ?_
   rw [hd]
   simp only [WD, List.flatMap_cons, J9, List.append_assoc]
theorem JjW {l : List PV} : apY [] (zi l.length) = pu .u8 [IntKind.u8.wrap (zi l.length)] := by rw [GA]; rfl
def Jmg : Jz
 | [.ro 113 z f l], [], k => bif cBy l then k ⟨.ro 5 false false (pu .u8 (opB l)), [], []⟩ else none
 | _, _, _ => none
def JHg : Sig := { own := [], run := Jmg }
theorem JBP (z f : Bool) (l : List PV) (h : cBy l = true) (k : KR) : g93 1010 z f l k = k ⟨.ro 5 false false (pu .u8 (opB l)), [], []⟩ := by
 obtain ⟨h1, h3, h2⟩ := Jdt.1 h
 have hY := JjW (l := l)
 rw [Jmf]
 unfold g93 Jh2 Jh1 JeF JeE Jh0
 simp only [List.take_length]
 refine (Ja (by rw [GB]; rfl)).trans ?_
 cases l with
 | nil => exact (Jd (by simp [zi])).trans (by rw [hY]; rfl)
 | cons p r =>
  have hq : (PV.isSt 113 #[Field.mk "Kind" 3 0 false "" "" 0, Field.mk "N" 3 1 false "" "" 8, Field.mk "S" 9 2 false "" "" 16].size ((p :: r).getD 0 PV.top) && (PV.isInt IntKind.i64 (PV.child 0 ((p :: r).getD 0 PV.top)) && (PV.isInt IntKind.i64 (PV.child (0 + 1) ((p :: r).getD 0 PV.top)) && ((PV.child (0 + 1 + 1) ((p :: r).getD 0 PV.top)).isStr && true)))) = true := by
   have := XI (WS h1 (i := 0) (by simp))
   exact this
  have hro : (decide (0 < zi (p :: r).length) && (PV.isSt 113 #[Field.mk "Kind" 3 0 false "" "" 0, Field.mk "N" 3 1 false "" "" 8, Field.mk "S" 9 2 false "" "" 16].size ((p :: r).getD 0 PV.top) && (PV.isInt IntKind.i64 (PV.child 0 ((p :: r).getD 0 PV.top)) && (PV.isInt IntKind.i64 (PV.child (0 + 1) ((p :: r).getD 0 PV.top)) && ((PV.child (0 + 1 + 1) ((p :: r).getD 0 PV.top)).isStr && true)))) && true) = true := by
   rw [hq]; simp [zi]
  have hsz := h3 p List.mem_cons_self
  have hs2 : (PV.child (0 + 1 + 1) ((p :: r).getD 0 PV.top)).str.size.ble 65535 = true := Nat.ble_eq.symm ▸ hsz
  have l1 : (apY [] (zi (p :: r).length)).length = 1 := by rw [XB]; rfl
  refine (Ja (by simp [zi])).trans ((Ja hro).trans ((Ja (Z8 (by rw [l1]; decide))).trans ((Ja hro).trans ((Ja (Z8 (by rw [XB, l1]; decide))).trans ((Ja hro).trans ((Ja (by rw [Z8 (by rw [Xc, XB, l1]; decide), hs2]; rfl)).trans ?_))))))
  rw [Jh3]
  have w1 : IntKind.i64.wrap (0 + 1) = ((1 : Nat) : Int) := by decide
  rw [w1]
  refine (Jy1 (p :: r) h1 h3 h2 1010 _ z f r.length 1 1010 _ (by simp; omega) (by simp at h2; omega) (by rw [List.length_append, JI, XA, l1]; have : (cv ((p :: r).getD 0 PV.top)).s.size <= 65535 := hsz; omega)).trans ?_
  rw [List.take_length, hY]
  simp only [Jsz, WD, List.flatMap_cons, J9, List.append_assoc, List.drop_succ_cons, List.drop_zero, List.getD_cons_zero]
theorem JHh : Jc tau Try.prog 93 JHg := Jc.mk' fun xs es k res hl hr => by
 change Jmg xs es k = some res at hr
 unfold Jmg at hr
 split at hr
 · rename_i z f l
   obtain ⟨hc, hr⟩ := Jv hr
   exact J2 Jn Jsw Jo JHb JHc (Jwk (JeD 1010)) [.ro] 0 0 (JMK 1010) hl rfl ((e93 1010 z f l k).trans ((JBP z f l hc k).trans hr))
 · cases hr
def Jmh : Jz
 | [.ro 113 z f l], [], k => bif cBy l then k ⟨.ow 5 16 [] 0 (opB l).length none, [], [.vec false 5 false (pu .u8 (opB l))]⟩ else none
 | _, _, _ => none
def JBQ : Sig := { own := [], run := Jmh }
theorem JBR (z f : Bool) (l : List PV) (h : cBy l = true) (k : KR) : g98 1010 z f l k = k ⟨.ow 5 16 [] 0 (opB l).length none, [], [.vec false 5 false (pu .u8 (opB l))]⟩ := by
 obtain ⟨h1, h3, h2⟩ := Jdt.1 h
 have hY := JjW (l := l)
 rw [Jmf]
 unfold g98
 refine (Jy2 l h1 h3 h2 1010 _ z f l.length 0 1010 _ (by omega) (by omega) (by rw [XB]; simp)).trans ?_
 rw [List.drop_zero, hY, ← J9]
 rw [show [IntKind.u8.wrap (zi l.length)] ++ WD l = Jsz l from rfl, JI]
theorem Jy3 : Jc tau Try.prog 98 JBQ := Jc.mk' fun xs es k res hl hr => by
 change Jmh xs es k = some res at hr
 unfold Jmh at hr
 split at hr
 · rename_i z f l
   obtain ⟨hc, hr⟩ := Jv hr
   exact J2 Jn Jsx Jo JHd JHe (Jwm (JeH 1010)) [] 0 0 (JMN 1010) hl rfl ((e98 1010 z f l k).trans ((JBR z f l hc k).trans hr))
 · cases hr
def F99 : Fns := Jt 105 Jsq (Jt 98 JBQ (Jt 97 JBK (Jt 53 Jwj (F0))))
theorem JBS : Jq tau Try.prog F99 := ((((Js).add Jsv Jv9).add Jy0 JG8).add Jy3 JHf).add Jsr JyQ
def JBT : An := (.seq .leaf (.seq .leaf (.seq .leaf (.seq .leaf (.seq .leaf (.seq .leaf .leaf))))))
abbrev JeJ (y0 : Int) (y1 : Int) (d_Id : Int) (y2 : Int) (y3 : List PV) := (List.take (apI (apI (apI (apI [] y0) y1) d_Id) y2).length (apI (apI (apI (apI [] y0) y1) d_Id) y2) ++ List.take 32 y3)
abbrev Jmi (d_Op : List PV) := (ByteArray.mk (Array.mk (JU ((Ent.vec false 5 false (pu IntKind.u8 (opB d_Op))).nil, List.take (opB d_Op).length (List.drop 0 (pu IntKind.u8 (opB d_Op)))).snd)))
abbrev GE (y0 : Int) (y1 : Int) (d_Id : Int) (y2 : Int) (y3 : List PV) (y4 : Int) (d_Op : List PV) := (apT (apY (JeJ y0 y1 d_Id y2 y3) y4) (Jmi d_Op))
def g99 (f : Nat) (y0 y1 d_Id y2 : Int) (y3 : List PV) (y4 : Int) (y5 y6 : Bool) (d_Op : List PV) (y7 y8 : Int) (k : KR) : OR := bif okL (apI [] y0).length (apI [] y0) then bif okL (apI (apI [] y0) y1).length (apI (apI [] y0) y1) then bif okL (apI (apI (apI [] y0) y1) d_Id).length (apI (apI (apI [] y0) y1) d_Id) then bif Je ((apI (apI (apI (apI [] y0) y1) d_Id) y2).length + (List.take 32 y3).length) 1 && true then bif okL ((apI (apI (apI (apI [] y0) y1) d_Id) y2).length + (List.take 32 y3).length) (JeJ y0 y1 d_Id y2 y3) then bif cBy d_Op then bif Jl IntKind.u8 (List.take (opB d_Op).length (pu IntKind.u8 (opB d_Op))) && true then bif okL (apY (JeJ y0 y1 d_Id y2 y3) y4).length (apY (JeJ y0 y1 d_Id y2 y3) y4) && (Jmi d_Op).size.ble 65535 then bif okL (GE y0 y1 d_Id y2 y3 y4 d_Op).length (GE y0 y1 d_Id y2 y3 y4 d_Op) then bif okL (apI (GE y0 y1 d_Id y2 y3 y4 d_Op) y7).length (apI (GE y0 y1 d_Id y2 y3 y4 d_Op) y7) then k (Res.mk (.ow 5 16 [] 0 (apI (apI (GE y0 y1 d_Id y2 y3 y4 d_Op) y7) y8).length none) [] [.vec false 5 false (apI (apI (GE y0 y1 d_Id y2 y3 y4 d_Op) y7) y8)]) else none else none else none else none else none else none else none else none else none else none
theorem e99 (f : Nat) (y0 y1 d_Id y2 : Int) (y3 : List PV) (y4 : Int) (y5 y6 : Bool) (d_Op : List PV) (y7 y8 : Int) (k : KR) : JJ tau F99 Try.f99 (Try.f99.body.get!) JBT [] 0 [.st 53 [.st 42 [.sc (.int .i64 y0), .sc (.int .i64 y1)], .sc (.int .i64 d_Id), .sc (.int .i64 y2), .ar 37 y3, .sc (.int .i64 y4), .ro 113 y5 y6 d_Op, .st 42 [.sc (.int .i64 y7), .sc (.int .i64 y8)]]] [] k = g99 f y0 y1 d_Id y2 y3 y4 y5 y6 d_Op y7 y8 k := by kernel_rfl
theorem JMO (f : Nat) : ∀ q ∈ Jf (Try.f99.body.get!) JBT, q.Ok tau Try.prog 0 := Jw (by kernel_rfl)
theorem JHi : Try.prog.funcs[99]? = some Try.f99 := by kernel_rfl
theorem JHj : Try.f99.body = some (Try.f99.body.get!) := by kernel_rfl
theorem JMP : Enters Try.prog 99 := enters_of JHi (by kernel_rfl) JHj
def F41 : Fns := Jt 93 JHg (Jt 92 JBF (Jt 35 JG9 (F0)))
theorem JBU : Jq tau Try.prog F41 := (((Js).add JHa JBr).add JyX JGy).add JHh JML
def JBV : An := (.seq .leaf (.seq .leaf (.seq .leaf .leaf)))
abbrev Jci (y0 : Bool) (y2 : List PV) := (ByteArray.mk (Array.mk (JU (y0, y2).snd)))
abbrev Z9 (y0 : Bool) (y2 : List PV) (y3 : List PV) := (List.take ((apT [] (Jci y0 y2)).length + (List.take 32 y3).length) (List.take (apT [] (Jci y0 y2)).length (apT [] (Jci y0 y2)) ++ List.take 32 y3))
abbrev Jh4 (e_Op : List PV) := (ByteArray.mk (Array.mk (JU (false, pu IntKind.u8 (opB e_Op)).snd)))
def g41 (f : Nat) (y0 y1 : Bool) (y2 y3 : List PV) (e_At : Int) (y4 y5 : Bool) (e_Op y6 y7 : List PV) (k : KR) : OR := bif Jl IntKind.u8 y2 && true then bif okZ true [] && (Jci y0 y2).size.ble 65535 then bif Je ((apT [] (Jci y0 y2)).length + (List.take 32 y3).length) 1 && true then bif okZ false (Z9 y0 y2 y3) then bif cBy e_Op then bif Jl IntKind.u8 (pu IntKind.u8 (opB e_Op)) && true then bif okZ false (List.take (apI (Z9 y0 y2 y3) e_At).length (apI (Z9 y0 y2 y3) e_At)) && (Jh4 e_Op).size.ble 65535 then k (Res.mk (.ro 5 false false (List.take (apT (List.take (apI (Z9 y0 y2 y3) e_At).length (apI (Z9 y0 y2 y3) e_At)) (Jh4 e_Op)).length (apT (List.take (apI (Z9 y0 y2 y3) e_At).length (apI (Z9 y0 y2 y3) e_At)) (Jh4 e_Op)))) [] []) else none else none else none else none else none else none else none
theorem e41 (f : Nat) (y0 y1 : Bool) (y2 y3 : List PV) (e_At : Int) (y4 y5 : Bool) (e_Op y6 y7 : List PV) (k : KR) : JJ tau F41 Try.f41 (Try.f41.body.get!) JBV [.ro] 0 [.st 51 [.st 47 [.ro 5 y0 y1 y2, .ar 37 y3], .sc (.int .i64 e_At), .ro 113 y4 y5 e_Op, .ar 37 y6, .ar 37 y7]] [] k = g41 f y0 y1 y2 y3 e_At y4 y5 e_Op y6 y7 k := by kernel_rfl
theorem JMQ (f : Nat) : ∀ q ∈ Jf (Try.f41.body.get!) JBV, q.Ok tau Try.prog 0 := Jw (by kernel_rfl)
theorem JHk : Try.prog.funcs[41]? = some Try.f41 := by kernel_rfl
theorem JHl : Try.f41.body = some (Try.f41.body.get!) := by kernel_rfl
theorem JMR : Enters Try.prog 41 := enters_of JHk (by kernel_rfl) JHl
def F52 : Fns := Jt 98 JBQ (Jt 97 JBK (Jt 53 Jwj (F0)))
theorem JBW : Jq tau Try.prog F52 := (((Js).add Jsv Jv9).add Jy0 JG8).add Jy3 JHf
def JBX : An := (.seq .leaf (.seq .leaf (.seq .leaf .leaf)))
abbrev Jcj (y0 : Bool) (y2 : List PV) := (ByteArray.mk (Array.mk (JU (y0, y2).snd)))
abbrev Jck (y0 : Bool) (y2 : List PV) (y3 : List PV) := (List.take (apT [] (Jcj y0 y2)).length (apT [] (Jcj y0 y2)) ++ List.take 32 y3)
abbrev Jh5 (e_Op : List PV) := (ByteArray.mk (Array.mk (JU ((Ent.vec false 5 false (pu IntKind.u8 (opB e_Op))).nil, List.take (opB e_Op).length (List.drop 0 (pu IntKind.u8 (opB e_Op)))).snd)))
def g52 (f : Nat) (y0 y1 : Bool) (y2 y3 : List PV) (e_At : Int) (y4 y5 : Bool) (e_Op y6 y7 : List PV) (k : KR) : OR := bif Jl IntKind.u8 y2 && true then bif (Jcj y0 y2).size.ble 65535 then bif Je ((apT [] (Jcj y0 y2)).length + (List.take 32 y3).length) 1 && true then bif okL ((apT [] (Jcj y0 y2)).length + (List.take 32 y3).length) (Jck y0 y2 y3) then bif cBy e_Op then bif Jl IntKind.u8 (List.take (opB e_Op).length (pu IntKind.u8 (opB e_Op))) && true then bif okL (apI (Jck y0 y2 y3) e_At).length (apI (Jck y0 y2 y3) e_At) && (Jh5 e_Op).size.ble 65535 then k (Res.mk (.ow 5 16 [] 0 (apT (apI (Jck y0 y2 y3) e_At) (Jh5 e_Op)).length none) [] [.vec false 5 false (apT (apI (Jck y0 y2 y3) e_At) (Jh5 e_Op))]) else none else none else none else none else none else none else none
theorem e52 (f : Nat) (y0 y1 : Bool) (y2 y3 : List PV) (e_At : Int) (y4 y5 : Bool) (e_Op y6 y7 : List PV) (k : KR) : JJ tau F52 Try.f52 (Try.f52.body.get!) JBX [] 0 [.st 51 [.st 47 [.ro 5 y0 y1 y2, .ar 37 y3], .sc (.int .i64 e_At), .ro 113 y4 y5 e_Op, .ar 37 y6, .ar 37 y7]] [] k = g52 f y0 y1 y2 y3 e_At y4 y5 e_Op y6 y7 k := by kernel_rfl
theorem JMS (f : Nat) : ∀ q ∈ Jf (Try.f52.body.get!) JBX, q.Ok tau Try.prog 0 := Jw (by kernel_rfl)
theorem JHm : Try.prog.funcs[52]? = some Try.f52 := by kernel_rfl
theorem JHn : Try.f52.body = some (Try.f52.body.get!) := by kernel_rfl
theorem JHo : Enters Try.prog 52 := enters_of JHm (by kernel_rfl) JHn
-- FN sign.Core | ref9.Core
def tx (l : List PV) : ByteArray := ByteArray.mk (Array.mk (JU l))
theorem Ym (l : List PV) : (tx l).size = l.length := Z5 l
structure EV where
 (b m : List PV) (at1 : Int) (o : List PV)
def Jh6 (e : EV) : List Int := WK (tx e.b) ++ (JD e.m ++ (QB e.at1 ++ WK (tx (pu .u8 (opB e.o)))))
def JY : EV -> List Int := hid Jh6
theorem JjX (e : EV) : JY e = Jh6 e := by rw [JY, hid_eq]
def eOk : EV -> Bool := hid fun e => Jl .u8 e.b && (decide (e.b.length <= 65535) && (Jl .u8 e.m && (decide (e.m.length = 32) && (cBy e.o && decide ((opB e.o).length <= 65535)))))
theorem Xd {e : EV} : eOk e = true ↔ Jl .u8 e.b = true /\ e.b.length <= 65535 /\ Jl .u8 e.m = true /\ e.m.length = 32 /\ cBy e.o = true /\ (opB e.o).length <= 65535 := by
 rw [eOk, hid_eq]; simp only [Bool.and_eq_true, decide_eq_true_eq]
theorem XC {e : EV} (h : eOk e = true) : (JY e).length = e.b.length + (opB e.o).length + 44 := by
 obtain ⟨h1, h2, h3, h4, h5, h6⟩ := Xd.1 h
 rw [JjX]
 simp only [Jh6, List.length_append, JaV, QR, Z7, Ym, JI, h4]; omega
theorem JeK {e : EV} (h : eOk e = true) : apT (apI (apT [] (tx e.b) ++ List.take 32 e.m) e.at1) (tx (pu .u8 (opB e.o))) = pu .u8 (JY e) := by
 obtain ⟨h1, h2, h3, h4, h5, h6⟩ := Xd.1 h
 rw [JjX, Yx, Yw, Yx, List.take_of_length_le (by omega)]
 simp only [Jh6, J9, List.nil_append, List.append_assoc, ← Qy h3]
def Jmj : Jz
 | [.st 51 [.st 47 [.ro 5 bz bf b, .ar 37 m], .sc (.int .i64 at1), .ro 113 oz of o, .ar 37 h, .ar 37 mc]], [], k => bif eOk ⟨b, m, at1, o⟩ then k ⟨.ro 5 false false (pu .u8 (JY ⟨b, m, at1, o⟩)), [], []⟩ else none
 | _, _, _ => none
def JHp : Sig := { own := [], run := Jmj }
theorem JBY (bz bf : Bool) (b m : List PV) (at1 : Int) (oz of : Bool) (o h mc : List PV) (he : eOk ⟨b, m, at1, o⟩ = true) (k : KR) : g41 0 bz bf b m at1 oz of o h mc k = k ⟨.ro 5 false false (pu .u8 (JY ⟨b, m, at1, o⟩)), [], []⟩ := by
 have hl := XC he
 have hp := JeK he
 obtain ⟨h1, h2, h3, h4, h5, h6⟩ := Xd.1 he
 simp only at hl hp h1 h2 h3 h4 h5 h6
 have ht : ∀ l : List PV, ByteArray.mk (Array.mk (JU l)) = tx l := fun l => rfl
 have hm : List.take 32 m = m := List.take_of_length_le (by omega)
 have l1 : (apT [] (tx b)).length = b.length + 2 := by rw [Yx]; simp [Ym]
 have l2 : ∀ (L : List PV) (n : Int), (apI L n).length = L.length + 8 := Xc
 have htp : ∀ l : List Int, List.take l.length (pu .u8 l) = pu .u8 l := fun l => List.take_of_length_le (by simp)
 have hcat : ∀ n, n = (apT [] (tx b)).length + m.length -> List.take n (apT [] (tx b) ++ m) = apT [] (tx b) ++ m := fun n hn => List.take_of_length_le (by simp; omega)
 rw [hm] at hp
 unfold g41 Jh4 Z9 Jci
 simp only [ht, hm, List.take_length, htp, List.drop_zero, hcat _ rfl, Ym, JI]
 refine (Ja (by rw [h1]; rfl)).trans ((Ja (by rw [GB]; show (true && _) = true; rw [Bool.true_and, Nat.ble_eq]; exact h2)).trans ((Ja (by simp only [Je, Nat.mul_one, Bool.and_true, decide_eq_true_eq, l1]; omega)).trans ((Ja (by rw [Z8 (by rw [List.length_append, l1]; omega)])).trans ((Ja h5).trans ((Ja (by rw [JO]; rfl)).trans ((Ja (by rw [Z8 (by rw [l2, List.length_append, l1]; omega), Bool.true_and, Nat.ble_eq]; exact h6)).trans ?_))))))
 rw [hp]
 try rfl
theorem JHq : Jc tau Try.prog 41 JHp := Jc.mk' fun xs es k res hl hr => by
 change Jmj xs es k = some res at hr
 unfold Jmj at hr
 split at hr
 · rename_i bz bf b m at1 oz of o h mc
   obtain ⟨hc, hr⟩ := Jv hr
   exact J2 Jn JBU Jo JHk JHl JBV [.ro] 0 0 (JMQ 0) hl rfl ((e41 0 bz bf b m at1 oz of o h mc k).trans ((JBY bz bf b m at1 oz of o h mc hc k).trans hr))
 · cases hr
def Jmk : Jz
 | [.st 51 [.st 47 [.ro 5 bz bf b, .ar 37 m], .sc (.int .i64 at1), .ro 113 oz of o, .ar 37 h, .ar 37 mc]], [], k => bif eOk ⟨b, m, at1, o⟩ then k ⟨.ow 5 16 [] 0 (JY ⟨b, m, at1, o⟩).length none, [], [.vec false 5 false (pu .u8 (JY ⟨b, m, at1, o⟩))]⟩ else none
 | _, _, _ => none
def JBZ : Sig := { own := [], run := Jmk }
theorem JB0 (bz bf : Bool) (b m : List PV) (at1 : Int) (oz of : Bool) (o h mc : List PV) (he : eOk ⟨b, m, at1, o⟩ = true) (k : KR) : g52 0 bz bf b m at1 oz of o h mc k = k ⟨.ow 5 16 [] 0 (JY ⟨b, m, at1, o⟩).length none, [], [.vec false 5 false (pu .u8 (JY ⟨b, m, at1, o⟩))]⟩ := by
 have hl := XC he
 have hp := JeK he
 obtain ⟨h1, h2, h3, h4, h5, h6⟩ := Xd.1 he
 simp only at hl hp h1 h2 h3 h4 h5 h6
 have ht : ∀ l : List PV, ByteArray.mk (Array.mk (JU l)) = tx l := fun l => rfl
 have hm : List.take 32 m = m := List.take_of_length_le (by omega)
 have l1 : (apT [] (tx b)).length = b.length + 2 := by rw [Yx]; simp [Ym]
 have l2 : ∀ (L : List PV) (n : Int), (apI L n).length = L.length + 8 := Xc
 have htp : ∀ l : List Int, List.take l.length (pu .u8 l) = pu .u8 l := fun l => List.take_of_length_le (by simp)
 have hcat : ∀ n, n = (apT [] (tx b)).length + m.length -> List.take n (apT [] (tx b) ++ m) = apT [] (tx b) ++ m := fun n hn => List.take_of_length_le (by simp; omega)
 rw [hm] at hp
 unfold g52 Jh5 Jck Jcj
 simp only [ht, hm, List.take_length, htp, List.drop_zero, hcat _ rfl, Ym, JI]
 refine (Ja (by rw [h1]; rfl)).trans ((Ja (by rw [Nat.ble_eq]; exact h2)).trans ((Ja (by simp only [Je, Nat.mul_one, Bool.and_true, decide_eq_true_eq, l1]; omega)).trans ((Ja (by rw [show (apT [] (tx b)).length + m.length = (apT [] (tx b) ++ m).length from (List.length_append).symm, W1 (by rw [List.length_append, l1]; omega)])).trans ((Ja h5).trans ((Ja (by rw [JO]; rfl)).trans ((Ja (by rw [W1 (by rw [l2, List.length_append, l1]; omega), Bool.true_and, Nat.ble_eq]; exact h6)).trans ?_))))))
 rw [hp]
 rw [JI]
theorem Jy4 : Jc tau Try.prog 52 JBZ := Jc.mk' fun xs es k res hl hr => by
 change Jmk xs es k = some res at hr
 unfold Jmk at hr
 split at hr
 · rename_i bz bf b m at1 oz of o h mc
   obtain ⟨hc, hr⟩ := Jv hr
   exact J2 Jn JBW Jo JHm JHn JBX [] 0 0 (JMS 0) hl rfl ((e52 0 bz bf b m at1 oz of o h mc k).trans ((JB0 bz bf b m at1 oz of o h mc hc k).trans hr))
 · cases hr
-- FN delta.Bytes | ref8.Bytes
structure DV where
 (ad au id ve : Int) (h : List PV) (kd : Int) (o : List PV) (wd wu : Int)
def JsA (d : DV) : List Int := QB d.ad ++ (QB d.au ++ (QB d.id ++ (QB d.ve ++ (JD d.h ++ ([IntKind.u8.wrap d.kd] ++ (WK (tx (pu .u8 (opB d.o))) ++ (QB d.wd ++ QB d.wu)))))))
def dlB : DV -> List Int := hid JsA
theorem Jml (d : DV) : dlB d = JsA d := by rw [dlB, hid_eq]
def dOk : DV -> Bool := hid fun d => Jl .u8 d.h && (decide (d.h.length = 32) && (cBy d.o && decide ((opB d.o).length <= 65535)))
theorem Zf {d : DV} : dOk d = true ↔ Jl .u8 d.h = true /\ d.h.length = 32 /\ cBy d.o = true /\ (opB d.o).length <= 65535 := by
 rw [dOk, hid_eq]; simp only [Bool.and_eq_true, decide_eq_true_eq]
theorem GF {d : DV} (h : dOk d = true) : (dlB d).length = (opB d.o).length + 83 := by
 obtain ⟨h1, h2, h3, h4⟩ := Zf.1 h
 rw [Jml]
 simp only [JsA, List.length_append, JaV, QR, Z7, Ym, JI, h2, List.length_cons, List.length_nil]; omega
theorem JsB {d : DV} (h : dOk d = true) : apI (apI (apT (apY (apI (apI (apI (apI [] d.ad) d.au) d.id) d.ve ++ List.take 32 d.h) d.kd) (tx (pu .u8 (opB d.o)))) d.wd) d.wu = pu .u8 (dlB d) := by
 obtain ⟨h1, h2, h3, h4⟩ := Zf.1 h
 rw [Jml, List.take_of_length_le (by omega)]
 simp only [Yx, Yw, GA, JsA, J9, List.nil_append, List.append_assoc, ← Qy h1]
def Jmm : Jz
 | [.st 53 [.st 42 [.sc (.int .i64 ad), .sc (.int .i64 au)], .sc (.int .i64 id1), .sc (.int .i64 ve), .ar 37 h, .sc (.int .i64 kd), .ro 113 oz of o, .st 42 [.sc (.int .i64 wd), .sc (.int .i64 wu)]]], [], k => bif dOk ⟨ad, au, id1, ve, h, kd, o, wd, wu⟩ then k ⟨.ow 5 16 [] 0 (dlB ⟨ad, au, id1, ve, h, kd, o, wd, wu⟩).length none, [], [.vec false 5 false (pu .u8 (dlB ⟨ad, au, id1, ve, h, kd, o, wd, wu⟩))]⟩ else none
 | _, _, _ => none
def JHr : Sig := { own := [], run := Jmm }
theorem JB1 (ad au id1 ve : Int) (h : List PV) (kd : Int) (oz of : Bool) (o : List PV) (wd wu : Int) (he : dOk ⟨ad, au, id1, ve, h, kd, o, wd, wu⟩ = true) (k : KR) : g99 0 ad au id1 ve h kd oz of o wd wu k = k ⟨.ow 5 16 [] 0 (dlB ⟨ad, au, id1, ve, h, kd, o, wd, wu⟩).length none, [], [.vec false 5 false (pu .u8 (dlB ⟨ad, au, id1, ve, h, kd, o, wd, wu⟩))]⟩ := by
 have hl := GF he
 have hp := JsB he
 obtain ⟨h1, h2, h3, h4⟩ := Zf.1 he
 simp only at hl hp h1 h2 h3 h4
 have ht : ∀ l : List PV, ByteArray.mk (Array.mk (JU l)) = tx l := fun l => rfl
 have hm : List.take 32 h = h := List.take_of_length_le (by omega)
 have l1 : ∀ (L : List PV) (n : Int), (apY L n).length = L.length + 1 := XB
 have l2 : ∀ (L : List PV) (n : Int), (apI L n).length = L.length + 8 := Xc
 have l3 : ∀ (L : List PV), (apT L (tx (pu .u8 (opB o)))).length = L.length + ((opB o).length + 2) := fun L => by rw [Yx]; simp [Ym]
 have htp : ∀ l : List Int, List.take l.length (pu .u8 l) = pu .u8 l := fun l => List.take_of_length_le (by simp)
 have hcat : ∀ L : List PV, List.take (L.length + h.length) (L ++ h) = L ++ h := fun L => List.take_of_length_le (by simp)
 rw [hm] at hp
 unfold g99 GE Jmi JeJ
 simp only [ht, hm, List.take_length, htp, List.drop_zero, hcat, Ym, JI]
 refine (Ja (W1 (by simp only [l2, List.length_nil]; omega))).trans ((Ja (W1 (by simp only [l2, List.length_nil]; omega))).trans ((Ja (W1 (by simp only [l2, List.length_nil]; omega))).trans ?_))
 refine (Ja (by simp only [Je, Nat.mul_one, Bool.and_true, decide_eq_true_eq, l2, List.length_nil]; omega)).trans ?_
 refine (Ja (by rw [show ∀ L : List PV, L.length + h.length = (L ++ h).length from fun L => (List.length_append).symm, W1 (by simp only [List.length_append, l2, List.length_nil]; omega)])).trans ((Ja h3).trans ((Ja (by rw [JO]; rfl)).trans ?_))
 refine (Ja (by rw [W1 (by simp only [l1, List.length_append, l2, List.length_nil]; omega), Bool.true_and, Nat.ble_eq]; exact h4)).trans ?_
 refine (Ja (W1 (by rw [l3]; simp only [l1, List.length_append, l2, List.length_nil]; omega))).trans ?_
 refine (Ja (W1 (by rw [l2, l3]; simp only [l1, List.length_append, l2, List.length_nil]; omega))).trans ?_
 rw [hp]
 rw [JI]
theorem JHs : Jc tau Try.prog 99 JHr := Jc.mk' fun xs es k res hl hr => by
 change Jmm xs es k = some res at hr
 unfold Jmm at hr
 split at hr
 · rename_i ad au id1 ve h kd oz of o wd wu
   obtain ⟨hc, hr⟩ := Jv hr
   exact J2 Jn JBS Jo JHi JHj JBT [] 0 0 (JMO 0) hl rfl ((e99 0 ad au id1 ve h kd oz of o wd wu k).trans ((JB1 ad au id1 ve h kd oz of o wd wu hc k).trans hr))
 · cases hr
-- FN delta.Check | ref8.Check
def Jwo (d : DV) : Int :=
 bif inZ d.ad 2 && (inZ d.au 7 && (inZ d.id 1073741824 && inZ d.ve 1048576)) then
  (bif d.kd == 1 then (bif ckO d.o == 0 then (bif d.wd == 0 && d.wu == 0 then 0 else 1) else ckO d.o)
  else bif d.kd == 2 || d.kd == 3 then (bif d.o.isEmpty && (inZ d.wd 2 && inZ d.wu 7) then 0 else 1)
  else 3)
 else 1
def dCk : DV -> Int := hid Jwo
theorem JsC (d : DV) : dCk d = Jwo d := by rw [dCk, hid_eq]
theorem Ja2 (x m : Int) : inZ x m = (decide (x >= 0) && decide (x <= m)) := rfl
theorem JMT (x : Int) : decide (x < 0) = !decide (x >= 0) := by rw [← decide_not]; apply decide_eq_decide.2; omega
theorem JMU (x m : Int) : decide (x > m) = !decide (x <= m) := by rw [← decide_not]; apply decide_eq_decide.2; omega
theorem JjY (l : List PV) : decide (zi l.length > 0) = !l.isEmpty := by
 cases l with
 | nil => rfl
 | cons p ps => exact decide_eq_true (by simp only [zi, List.length_cons]; omega)
theorem JB2 (ad au id1 ve : Int) (h : List PV) (kd : Int) (oz of : Bool) (o : List PV) (wd wu : Int) (hc : cOk o = true) (k : KR) : g85 0 ad au id1 ve h kd oz of o wd wu k = k ⟨.sc (.int .i64 (dCk ⟨ad, au, id1, ve, h, kd, o, wd, wu⟩)), [], []⟩ := by
 rw [JsC]
 unfold g85 Jwo
 simp only [hc, Ja2, JjY, cond_true, bne]
 have h2 : (kd == 2) = true -> (kd == 1) = false := fun h => by
     have : kd = 2 := by simpa using h
     rw [this]; decide
 generalize o.isEmpty = e0
 generalize (kd == 1) = d1 at *
 generalize (kd == 2) = d2 at *
 generalize (kd == 3) = d3
 generalize (wd == 0) = w0
 generalize (wu == 0) = w1
 generalize hck : ckO o = ck
 cases decide (ad >= 0)
 · rfl
 cases decide (ad <= 2)
 · rfl
 cases decide (au >= 0)
 · rfl
 cases decide (au <= 7)
 · rfl
 cases decide (id1 >= 0)
 · rfl
 cases decide (id1 <= 1073741824)
 · rfl
 cases decide (ve >= 0)
 · rfl
 cases decide (ve <= 1048576)
 · rfl
 cases d1
 · cases d2
   · cases d3
     · rfl
     · cases e0 <;> cases decide (wd >= 0) <;> cases decide (wd <= 2) <;> cases decide (wu >= 0) <;> cases decide (wu <= 7) <;> rfl
   · cases e0 <;> cases decide (wd >= 0) <;> cases decide (wd <= 2) <;> cases decide (wu >= 0) <;> cases decide (wu <= 7) <;> rfl
 · cases ck == 0 <;> cases w0 <;> cases w1 <;> rfl
def Jmn : Jz
 | [.st 53 [.st 42 [.sc (.int .i64 ad), .sc (.int .i64 au)], .sc (.int .i64 id1), .sc (.int .i64 ve), .ar 37 h, .sc (.int .i64 kd), .ro 113 oz of o, .st 42 [.sc (.int .i64 wd), .sc (.int .i64 wu)]]], [], k => bif cOk o then k ⟨.sc (.int .i64 (dCk ⟨ad, au, id1, ve, h, kd, o, wd, wu⟩)), [], []⟩ else none
 | _, _, _ => none
def JHt : Sig := { own := [], run := Jmn }
theorem JHu : Jc tau Try.prog 85 JHt := JLS.of fun xs es k res hr => by
 change Jmn xs es k = some res at hr
 unfold Jmn at hr
 split at hr
 · rename_i ad au id1 ve h kd oz of o wd wu
   obtain ⟨hc, hr⟩ := Jv hr
   exact (JB2 ad au id1 ve h kd oz of o wd wu hc k).trans hr
 · cases hr
theorem JB3 (ad au id1 ve : Int) (h : List PV) (kd : Int) (oz of : Bool) (o : List PV) (wd wu : Int) (hc : cOk o = true) (k : KR) : g50 0 ad au id1 ve h kd oz of o wd wu k = k ⟨.sc (.int .i64 (dCk ⟨ad, au, id1, ve, h, kd, o, wd, wu⟩)), [], []⟩ := by
 rw [JsC]
 unfold g50 Jwo
 simp only [hc, JjY, cond_true, bne]
 simp only [Ja2, JjH, JMT, JMU]
 have h2 : (kd == 2) = true -> (kd == 1) = false := fun h => by
     have : kd = 2 := by simpa using h
     rw [this]; decide
 generalize o.isEmpty = e0
 generalize (kd == 1) = d1 at *
 generalize (kd == 2) = d2 at *
 generalize (kd == 3) = d3
 generalize (wd == 0) = w0
 generalize (wu == 0) = w1
 generalize hck : ckO o = ck
 cases decide (ad >= 0)
 · rfl
 cases decide (ad <= 2)
 · rfl
 cases decide (au >= 0)
 · rfl
 cases decide (au <= 7)
 · rfl
 cases decide (id1 >= 0)
 · rfl
 cases decide (id1 <= 1073741824)
 · rfl
 cases decide (ve >= 0)
 · rfl
 cases decide (ve <= 1048576)
 · rfl
 cases d1
 · cases d2
   · cases d3
     · rfl
     · cases e0 <;> cases decide (wd >= 0) <;> cases decide (wd <= 2) <;> cases decide (wu >= 0) <;> cases decide (wu <= 7) <;> rfl
   · cases e0 <;> cases decide (wd >= 0) <;> cases decide (wd <= 2) <;> cases decide (wu >= 0) <;> cases decide (wu <= 7) <;> rfl
 · cases ck == 0 <;> cases w0 <;> cases w1 <;> rfl
def Jmo : Jz
 | [.st 53 [.st 42 [.sc (.int .i64 ad), .sc (.int .i64 au)], .sc (.int .i64 id1), .sc (.int .i64 ve), .ar 37 h, .sc (.int .i64 kd), .ro 113 oz of o, .st 42 [.sc (.int .i64 wd), .sc (.int .i64 wu)]]], [], k => bif cOk o then k ⟨.sc (.int .i64 (dCk ⟨ad, au, id1, ve, h, kd, o, wd, wu⟩)), [], []⟩ else none
 | _, _, _ => none
def JHv : Sig := { own := [], run := Jmo }
theorem JHw : Jc tau Try.prog 50 JHv := JLV.of fun xs es k res hr => by
 change Jmo xs es k = some res at hr
 unfold Jmo at hr
 split at hr
 · rename_i ad au id1 ve h kd oz of o wd wu
   obtain ⟨hc, hr⟩ := Jv hr
   exact (JB3 ad au id1 ve h kd oz of o wd wu hc k).trans hr
 · cases hr
-- FN ref12.below | ref12.Has
structure AV where
 (d u : Int)
def X9 : PV -> Bool
 | .st t [.sc (.int .i64 _), .sc (.int .i64 _)] => t == 42
 | _ => false
def adP (a : AV) : PV := .st 42 [.sc (.int .i64 a.d), .sc (.int .i64 a.u)]
def av (p : PV) : AV := ⟨(p.child 0).int, (p.child 1).int⟩
theorem JjZ {p : PV} : X9 p = true ↔ ∃ a, p = adP a := by
 constructor
 · intro h
   unfold X9 at h
   split at h
   · rename_i t d u
     obtain rfl : t = 42 := by simpa using h
     exact ⟨⟨d, u⟩, rfl⟩
   · cases h
 · rintro ⟨a, rfl⟩; rfl
theorem Jwp {p : PV} (h : X9 p = true) : adP (av p) = p := by obtain ⟨a, rfl⟩ := JjZ.1 h; rfl
def Zg (p : PV) : Bool := PV.isSt 42 #[Field.mk "D" 3 0 false "" "" 0, Field.mk "U" 3 1 false "" "" 8].size p && (PV.isInt IntKind.i64 (PV.child 0 p) && (PV.isInt IntKind.i64 (PV.child (0 + 1) p) && true))
theorem Wm {p : PV} (h : X9 p = true) : Zg p = true := by
 obtain ⟨a, rfl⟩ := JjZ.1 h
 rfl
theorem Wn {l : List PV} (h : l.all X9 = true) {i : Nat} (hi : i < l.length) : X9 (l.getD i .top) = true := by
 rw [List.getD_eq_getElem?_getD, List.getElem?_eq_getElem hi]
 exact List.all_eq_true.1 h _ (List.getElem_mem hi)
def eqA (x y : AV) : Bool := x.d == y.d && (x.u == y.u && true)
theorem QE {x y : AV} : eqA x y = true ↔ x = y := by
 obtain ⟨a, b⟩ := x; obtain ⟨c, d⟩ := y
 simp [eqA]
def ltA (x y : AV) : Bool := decide (x.d < y.d) || (x.d == y.d && decide (x.u < y.u))
theorem Yn {x y : AV} : ltA x y = true ↔ x.d < y.d ∨ (x.d = y.d /\ x.u < y.u) := by simp [ltA]
def srt : List PV -> Bool
 | [] => true
 | p :: ps => ps.all (fun q => ltA (av p) (av q)) && srt ps
def pOk : List PV -> Bool := hid fun l => l.all X9 && (srt l && decide (l.length <= 8))
theorem QF {l : List PV} : pOk l = true ↔ l.all X9 = true /\ srt l = true /\ l.length <= 8 := by
 rw [pOk, hid_eq]; simp only [Bool.and_eq_true, decide_eq_true_eq]
structure PH where
 (l : List PV) (a : AV)
def hasL (l : List PV) (a : AV) : Bool := l.any fun p => eqA (av p) a
def hasP : PH -> Bool := hid fun x => hasL x.l x.a
theorem hasP_eq (x : PH) : hasP x = hasL x.l x.a := by rw [hasP, hid_eq]
def Jwq : AV -> AV -> Bool := hid ltA
theorem JoL (x y : AV) : Jwq x y = ltA x y := by rw [Jwq, hid_eq]
theorem Jy5 (l : List PV) (d u : Int) (h1 : l.all X9 = true) (h2 : l.length <= 1000) (f : Nat) (k0 : Bool -> OR) (k1 : OR) (z fl : Bool) : ∀ (e i n : Nat), i + e = l.length -> e < n ->
  Gr f k0 k1 n z fl l (i : Int) d u = bif hasL (l.drop i) ⟨d, u⟩ then k0 true else k1
 | 0, i, n + 1, hi, hn => by
   rw [List.drop_of_length_le (by omega)]
   simp only [Gr, Jau]
   exact Jd (by simp [zi]; omega)
 | e + 1, i, n + 1, hi, hn => by
   have g1 : ((i : Int)).toNat = i := by omega
   have w1 : IntKind.i64.wrap ((i : Int) + 1) = ((i + 1 : Nat) : Int) := by rw [wrap_i64 (by omega) (by omega)]; omega
   have hd := JW (l := l) (i := i) (by omega)
   have hc := Wm (Wn h1 (i := i) (by omega))
   unfold Zg at hc
   rw [hd]
   simp only [Gr, Jau, g1, w1]
   refine (Ja (by simp [zi]; omega)).trans ((Ja (by rw [hc]; simp [zi]; omega)).trans ?_)
   have he : ((PV.child 0 (l.getD i PV.top)).int == d && ((PV.child (0 + 1) (l.getD i PV.top)).int == u && true)) = eqA (av (l.getD i .top)) ⟨d, u⟩ := rfl
   rw [he]
   have hh : hasL (l.getD i .top :: l.drop (i + 1)) ⟨d, u⟩ = (eqA (av (l.getD i .top)) ⟨d, u⟩ || hasL (l.drop (i + 1)) ⟨d, u⟩) := rfl
   rw [hh]
   cases eqA (av (l.getD i .top)) ⟨d, u⟩ with
   | true => rfl
   | false => exact (Jd rfl).trans (Jy5 l d u h1 h2 f k0 k1 z fl e (i + 1) n (by omega) (by omega))
def Jmp : Jz
 | [.ro 42 z f l, .st 42 [.sc (.int .i64 d), .sc (.int .i64 u)]], [], k => bif pOk l then k ⟨.sc (.bool (hasP ⟨l, ⟨d, u⟩⟩)), [], []⟩ else none
 | _, _, _ => none
def Jwr : Sig := { own := [], run := Jmp }
theorem JB4 (z f : Bool) (l : List PV) (d u : Int) (h : pOk l = true) (k : KR) : g58 20 z f l d u k = k ⟨.sc (.bool (hasP ⟨l, ⟨d, u⟩⟩)), [], []⟩ := by
 obtain ⟨h1, _, h3⟩ := QF.1 h
 unfold g58
 rw [hasP_eq]
 refine (Jy5 l d u h1 (by omega) 20 _ _ z f l.length 0 20 (by omega) (by omega)).trans ?_
 rw [List.drop_zero]
 cases hasL l ⟨d, u⟩ <;> rfl
theorem JsD : Jc tau Try.prog 58 Jwr := Jc.mk' fun xs es k res hl hr => by
 change Jmp xs es k = some res at hr
 unfold Jmp at hr
 split at hr
 · rename_i z f l d u
   obtain ⟨hc, hr⟩ := Jv hr
   exact J2 Jn Jri Jo JEU JEV (Jvj (Jef 20)) [.ro] 0 0 (JLD 20) hl rfl ((e58 20 z f l d u k).trans ((JB4 z f l d u hc k).trans hr))
 · cases hr
def Jh7 : Jz
 | [.st 42 [.sc (.int .i64 d), .sc (.int .i64 u)], .st 42 [.sc (.int .i64 d2), .sc (.int .i64 u2)]], [], k => k ⟨.sc (.bool (Jwq ⟨d, u⟩ ⟨d2, u2⟩)), [], []⟩
 | _, _, _ => none
def Jy6 : Sig := { own := [], run := Jh7 }
theorem JB5 : Jc tau Try.prog 104 Jy6 := JET.of fun xs es k res hr => by
 change Jh7 xs es k = some res at hr
 unfold Jh7 at hr
 split at hr
 · rename_i d u d2 u2
   refine Eq.trans ?_ hr
   show Jvi 0 d u d2 u2 k = _
   unfold Jvi
   rw [JoL]
   show _ = k ⟨.sc (.bool (decide (d < d2) || (d == d2 && decide (u < u2)))), [], []⟩
   cases decide (d < d2) <;> cases (d == d2) <;> rfl
 · cases hr
-- FN slices.Equal[[]api.Addr,api.Addr]
structure AA where
 (a b : List PV)
def Va : List PV -> List PV -> Bool
 | [], [] => true
 | p :: ps, q :: qs => eqA (av p) (av q) && Va ps qs
 | _, _ => false
def Jh8 : AA -> Bool := hid fun x => Va x.a x.b
theorem Jdu (x : AA) : Jh8 x = Va x.a x.b := by rw [Jh8, hid_eq]
def Zh : List PV -> Bool := hid fun l => l.all X9 && decide (l.length <= 1000)
theorem Xm {l : List PV} : Zh l = true ↔ l.all X9 = true /\ l.length <= 1000 := by
 rw [Zh, hid_eq, Bool.and_eq_true, decide_eq_true_eq]
theorem Jgs : ∀ l : List PV, Va l l = true
 | [] => rfl
 | p :: ps => by simp only [Va, Jgs ps, QE.2 rfl, Bool.and_self]
theorem JeL : ∀ {a b : List PV}, Va a b = true -> a.length = b.length
 | [], [], _ => rfl
 | p :: ps, q :: qs, h => by
  simp only [Va, Bool.and_eq_true] at h
  simp [JeL h.2]
 | [], _ :: _, h => by simp [Va] at h
 | _ :: _, [], h => by simp [Va] at h
theorem Jy7 (a b : List PV) (ha : a.all X9 = true) (hb : b.all X9 = true) (hl : a.length = b.length) (h2 : a.length <= 1000) (f : Nat) (k0 : Bool -> OR) (k1 : OR) (z fl z' fl' : Bool) : ∀ (d i n : Nat), i + d = a.length -> d < n ->
  Gq f k0 k1 n z fl a z' fl' b (zi a.length) (i : Int) = bif Va (a.drop i) (b.drop i) then k1 else k0 false
 | 0, i, n + 1, hi, hn => by
   rw [List.drop_of_length_le (l := a) (by omega), List.drop_of_length_le (l := b) (by omega)]
   simp only [Gq, Jar]
   exact Jd (by simp [zi]; omega)
 | d + 1, i, n + 1, hi, hn => by
   have g1 : ((i : Int)).toNat = i := by omega
   have w1 : IntKind.i64.wrap ((i : Int) + 1) = ((i + 1 : Nat) : Int) := by rw [wrap_i64 (by omega) (by omega)]; omega
   have hro : ∀ l : List PV, l.all X9 = true -> l.length = a.length -> (decide (0 <= (i : Int)) && decide ((i : Int) < zi l.length) && (PV.isSt 42 #[Field.mk "D" 3 0 false "" "" 0, Field.mk "U" 3 1 false "" "" 8].size (l.getD i PV.top) && (PV.isInt IntKind.i64 (PV.child 0 (l.getD i PV.top)) && (PV.isInt IntKind.i64 (PV.child (0 + 1) (l.getD i PV.top)) && true))) && true) = true := by
    intro l h1 h3
    have hq := Wm (Wn h1 (i := i) (by omega))
    unfold Zg at hq
    rw [hq]; simp [zi]; omega
   have hs : ((PV.child 0 (a.getD i PV.top)).int == (PV.child 0 (b.getD i PV.top)).int && ((PV.child (0 + 1) (a.getD i PV.top)).int == (PV.child (0 + 1) (b.getD i PV.top)).int && true)) = eqA (av (a.getD i .top)) (av (b.getD i .top)) := rfl
   simp only [Gq, Jar, g1, w1, hs]
   refine (Ja (by simp [zi]; omega)).trans ((Ja (hro a ha rfl)).trans ((Ja (hro b hb hl.symm)).trans ?_))
   rw [JW (l := a) (i := i) (by omega), JW (l := b) (i := i) (by omega), Va]
   cases eqA (av (a.getD i .top)) (av (b.getD i .top)) with
   | false => rfl
   | true =>
    rw [Bool.true_and]
    exact (Jd rfl).trans (Jy7 a b ha hb hl h2 f k0 k1 z fl z' fl' d (i + 1) n (by omega) (by omega))
def Jmq : Jz
 | [.ro 42 z f a, .ro 42 z' f' b], [], k => bif Zh a && Zh b then k ⟨.sc (.bool (Jh8 ⟨a, b⟩)), [], []⟩ else none
 | _, _, _ => none
def JHx : Sig := { own := [], run := Jmq }
theorem JB6 (z f z' f' : Bool) (a b : List PV) (ha : Zh a = true) (hb : Zh b = true) (k : KR) : g63 (a.length + 2) z f a z' f' b k = k ⟨.sc (.bool (Jh8 ⟨a, b⟩)), [], []⟩ := by
 obtain ⟨h1, h2⟩ := Xm.1 ha
 obtain ⟨h3, h4⟩ := Xm.1 hb
 unfold g63
 rw [Jdu]
 by_cases hl : a.length = b.length
 · refine (Jd (by simp [zi, hl])).trans ?_
   refine (Jy7 a b h1 h3 hl h2 (a.length + 2) _ _ z f z' f' a.length 0 (a.length + 2) (by omega) (by omega)).trans ?_
   rw [List.drop_zero, List.drop_zero]
   cases Va a b <;> rfl
 · have hs : Va a b = false := by
    cases h : Va a b with
    | false => rfl
    | true => exact absurd (JeL h) hl
   rw [hs]
   exact Ja (by simp [zi]; omega)
theorem JHy : Jc tau Try.prog 63 JHx := Jc.mk' fun xs es k res hl hr => by
 change Jmq xs es k = some res at hr
 unfold Jmq at hr
 split at hr
 · rename_i z f a z' f' b
   obtain ⟨hc, hr⟩ := Jv hr
   rw [Bool.and_eq_true] at hc
   exact J2 Jn Jrf Jo JEO JEP (Jvf (Jed (a.length + 2))) [.ro] 0 0 (JLy (a.length + 2)) hl rfl ((e63 (a.length + 2) z f a z' f' b k).trans ((JB6 z f z' f' a b hc.1 hc.2 k).trans hr))
 · cases hr
def F25 : Fns := Jt 63 JHx (F0)
theorem JB7 : Jq tau Try.prog F25 := (Js).add JHy JLz
def JB8 : An := (.seq .leaf (.seq .leaf .leaf))
def g25 (f : Nat) (y0 y1 : Int) (y2 : ByteArray) (y3 y4 : Bool) (y5 : List PV) (y6 : Int) (y7 : List PV) (y8 y9 : Int) (y10 : ByteArray) (y11 y12 : Bool) (y13 : List PV) (y14 : Int) (y15 : List PV) (k : KR) : OR := bif y0 == y8 && (y1 == y9 && true) then bif XN y2 y10 then bif Zh y5 && Zh y13 then bif Jh8 (AA.mk y5 y13) then bif y6 == y14 then bif decide (y7.length = 32) && decide (y15.length = 32) && Jl IntKind.u8 y7 && Jl IntKind.u8 y15 && true then k (Res.mk (.sc (.bool (J3 y7 y15))) [] []) else none else k (Res.mk (.sc (.bool false)) [] []) else k (Res.mk (.sc (.bool false)) [] []) else none else k (Res.mk (.sc (.bool false)) [] []) else k (Res.mk (.sc (.bool false)) [] [])
theorem e25 (f : Nat) (y0 y1 : Int) (y2 : ByteArray) (y3 y4 : Bool) (y5 : List PV) (y6 : Int) (y7 : List PV) (y8 y9 : Int) (y10 : ByteArray) (y11 y12 : Bool) (y13 : List PV) (y14 : Int) (y15 : List PV) (k : KR) : JJ tau F25 Try.f25 (Try.f25.body.get!) JB8 [.ro] 0 [.st 39 [.st 34 [.sc (.int .i64 y0), .sc (.int .i64 y1)], .sc (.string y2), .ro 42 y3 y4 y5, .sc (.int .i64 y6), .ar 37 y7], .st 39 [.st 34 [.sc (.int .i64 y8), .sc (.int .i64 y9)], .sc (.string y10), .ro 42 y11 y12 y13, .sc (.int .i64 y14), .ar 37 y15]] [] k = g25 f y0 y1 y2 y3 y4 y5 y6 y7 y8 y9 y10 y11 y12 y13 y14 y15 k := by kernel_rfl
theorem JMV (f : Nat) : ∀ q ∈ Jf (Try.f25.body.get!) JB8, q.Ok tau Try.prog 0 := Jw (by kernel_rfl)
theorem JHz : Try.prog.funcs[25]? = some Try.f25 := by kernel_rfl
theorem JHA : Try.f25.body = some (Try.f25.body.get!) := by kernel_rfl
theorem JMW : Enters Try.prog 25 := enters_of JHz (by kernel_rfl) JHA
def JsE : Jz
 | [.st 39 [.st 34 [.sc (.int .i64 y0), .sc (.int .i64 y1)], .sc (.string y2), .ro 42 y3 y4 y5, .sc (.int .i64 y6), .ar 37 y7], .st 39 [.st 34 [.sc (.int .i64 y8), .sc (.int .i64 y9)], .sc (.string y10), .ro 42 y11 y12 y13, .sc (.int .i64 y14), .ar 37 y15]], [], k => g25 0 y0 y1 y2 y3 y4 y5 y6 y7 y8 y9 y10 y11 y12 y13 y14 y15 k
 | _, _, _ => none
def s25 : Sig := { own := [], run := JsE }
theorem JMX : Jc tau Try.prog 25 s25 := JN Jn JB7 Jo JHz JHA JB8 [.ro] 0 [] JsE (JMV 0) fun xs es k res hr => by
 unfold JsE at hr
 split at hr
 · exact ⟨rfl, 0, (e25 0 _ _ _ _ _ _ _ _ _ _ _ _ _ _ _ _  _).trans hr⟩
 · cases hr
def JHB : Fns := F0
theorem Jws : Jq tau Try.prog JHB := Js
def JsF : An := (.seq .leaf (.seq .leaf .leaf))
def JHC (f : Nat) (k : KR) : OR := k (Res.mk (.ar 159 [.sc (.int .u32 1116352408), .sc (.int .u32 1899447441), .sc (.int .u32 3049323471), .sc (.int .u32 3921009573), .sc (.int .u32 961987163), .sc (.int .u32 1508970993), .sc (.int .u32 2453635748), .sc (.int .u32 2870763221), .sc (.int .u32 3624381080), .sc (.int .u32 310598401), .sc (.int .u32 607225278), .sc (.int .u32 1426881987), .sc (.int .u32 1925078388), .sc (.int .u32 2162078206), .sc (.int .u32 2614888103), .sc (.int .u32 3248222580), .sc (.int .u32 3835390401), .sc (.int .u32 4022224774), .sc (.int .u32 264347078), .sc (.int .u32 604807628), .sc (.int .u32 770255983), .sc (.int .u32 1249150122), .sc (.int .u32 1555081692), .sc (.int .u32 1996064986), .sc (.int .u32 2554220882), .sc (.int .u32 2821834349), .sc (.int .u32 2952996808), .sc (.int .u32 3210313671), .sc (.int .u32 3336571891), .sc (.int .u32 3584528711), .sc (.int .u32 113926993), .sc (.int .u32 338241895), .sc (.int .u32 666307205), .sc (.int .u32 773529912), .sc (.int .u32 1294757372), .sc (.int .u32 1396182291), .sc (.int .u32 1695183700), .sc (.int .u32 1986661051), .sc (.int .u32 2177026350), .sc (.int .u32 2456956037), .sc (.int .u32 2730485921), .sc (.int .u32 2820302411), .sc (.int .u32 3259730800), .sc (.int .u32 3345764771), .sc (.int .u32 3516065817), .sc (.int .u32 3600352804), .sc (.int .u32 4094571909), .sc (.int .u32 275423344), .sc (.int .u32 430227734), .sc (.int .u32 506948616), .sc (.int .u32 659060556), .sc (.int .u32 883997877), .sc (.int .u32 958139571), .sc (.int .u32 1322822218), .sc (.int .u32 1537002063), .sc (.int .u32 1747873779), .sc (.int .u32 1955562222), .sc (.int .u32 2024104815), .sc (.int .u32 2227730452), .sc (.int .u32 2361852424), .sc (.int .u32 2428436474), .sc (.int .u32 2756734187), .sc (.int .u32 3204031479), .sc (.int .u32 3329325298)]) [] [])
theorem JMY (f : Nat) (k : KR) : JJ tau JHB Try.f116 (Try.f116.body.get!) JsF [.ro] 0 [] [] k = JHC f k := by kernel_rfl
theorem JHD (f : Nat) : ∀ q ∈ Jf (Try.f116.body.get!) JsF, q.Ok tau Try.prog 0 := Jw (by kernel_rfl)
theorem Jy8 : Try.prog.funcs[116]? = some Try.f116 := by kernel_rfl
theorem Jy9 : Try.f116.body = some (Try.f116.body.get!) := by kernel_rfl
theorem JHE : Enters Try.prog 116 := enters_of Jy8 (by kernel_rfl) Jy9
def Jmr : Jz
 | [], [], k => JHC 0  k
 | _, _, _ => none
def JHF : Sig := { own := [], run := Jmr }
theorem JHG : Jc tau Try.prog 116 JHF := JN Jn Jws Jo Jy8 Jy9 JsF [.ro] 0 [] Jmr (JHD 0) fun xs es k res hr => by
 unfold Jmr at hr
 split at hr
 · exact ⟨rfl, 0, (JMY 0  _).trans hr⟩
 · cases hr
def N80 : Nat := 113
def F80 : Fns := Jt 116 JHF (Jt 115 JyD (Jt 117 Jr2 F0))
theorem Jms : Jq tau Try.prog F80 := ((Js.add Jr3 JyA).add JBa JGc).add JHG JHE
def JoM : Code := Qd (Try.f80.body.get!) [1, 1, 1, 0, 1, 0, 0]
def JeM : Nm := [(2, .any), (4, .any), (5, .any), (6, .any), (7, .any), (18, .any)]
def Jmt : Nm := [(2, .any), (4, .any), (7, .any)]
def JsG : An := (.seq .leaf (.seq (.cond .leaf .leaf) (.seq (.block none (.seq .leaf (.seq .leaf (.seq .leaf (.seq .leaf .leaf))))) .leaf)))
def JoN : Code := Qd (Try.f80.body.get!) [1, 1, 1, 1, 0, 1, 0, 0]
def JeN : Nm := [(2, .any), (4, .any), (7, .any), (100, .any)]
def Jmu : Nm := [(4, .any), (7, .any)]
def JsH : An := (.seq .leaf (.seq (.cond .leaf .leaf) (.seq (.block none (.seq .leaf .leaf)) .leaf)))
def JB9 (r0 : Qr) (r1 : Qr) : An := (.seq .leaf (.seq .leaf (.seq .leaf (.seq (.seq .leaf (.block none (.sum JeM N80 r0))) (.seq (.seq .leaf (.block none (.sum JeN N80 r1))) (.seq .leaf .leaf))))))
abbrev Zi (v0 : Int) (v3 : List PV) (v4 : List PV) (v5 : List PV) := (IntKind.u32.wrap (IntKind.u32.wrap (IntKind.u32.wrap ((Jr (PV.ar 143 v5) [7]).int + JM BinOp.xor IntKind.u32 (JM BinOp.xor IntKind.u32 (rr (Jr (PV.ar 143 v5) [4]).int 6) (rr (Jr (PV.ar 143 v5) [4]).int 11)) (rr (Jr (PV.ar 143 v5) [4]).int 25)) + JM BinOp.xor IntKind.u32 (JM BinOp.and IntKind.u32 (Jr (PV.ar 143 v5) [4]).int (Jr (PV.ar 143 v5) [5]).int) (JM BinOp.and IntKind.u32 (JM BinOp.xor IntKind.u32 (Int.ofNat (2 ^ IntKind.u32.bits - Nat.succ 0)) (Jr (PV.ar 143 v5) [4]).int) (Jr (PV.ar 143 v5) [6]).int)) + (Jr (PV.ar 159 v4) [v0.toNat]).int) + (Jr (PV.ar 159 v3) [v0.toNat]).int)
def Ja3 (f : Nat) (rc : Int -> List PV -> List PV -> List PV -> List PV -> List PV -> OR) (k0 : List PV -> List PV -> List PV -> OR) (v0 : Int) (v1 v2 v3 v4 v5 : List PV) : OR := bif decide (v0 < 64) then bif PV.isInt IntKind.u32 (Jr (PV.ar 143 v5) [4]) && true then bif PV.isInt IntKind.u32 (Jr (PV.ar 143 v5) [0]) && true then bif PV.isInt IntKind.u32 (Jr (PV.ar 143 v5) [7]) && true then bif PV.isInt IntKind.u32 (Jr (PV.ar 143 v5) [5]) && true then bif PV.isInt IntKind.u32 (Jr (PV.ar 143 v5) [6]) && true then bif decide (0 <= v0) && decide (v0 < zi 64) && true then bif PV.isInt IntKind.u32 (Jr (PV.ar 159 v4) [v0.toNat]) && true then bif decide (0 <= v0) && decide (v0 < zi 64) && true then bif PV.isInt IntKind.u32 (Jr (PV.ar 159 v3) [v0.toNat]) && true then bif PV.isInt IntKind.u32 (Jr (PV.ar 143 v5) [1]) && true then bif PV.isInt IntKind.u32 (Jr (PV.ar 143 v5) [2]) && true then bif PV.isInt IntKind.u32 (Jr (PV.ar 143 v5) [1]) && true then bif PV.isInt IntKind.u32 (Jr (PV.ar 143 v5) [2]) && true then bif PV.isInt IntKind.u32 (Jr (PV.ar 143 v5) [0]) && true then bif PV.isInt IntKind.u32 (Jr (PV.ar 143 v5) [1]) && true then bif PV.isInt IntKind.u32 (Jr (PV.ar 143 v5) [2]) && true then bif PV.isInt IntKind.u32 (Jr (PV.ar 143 v5) [3]) && true then bif PV.isInt IntKind.u32 (Jr (PV.ar 143 v5) [4]) && true then bif PV.isInt IntKind.u32 (Jr (PV.ar 143 v5) [5]) && true then bif PV.isInt IntKind.u32 (Jr (PV.ar 143 v5) [6]) && true then rc (IntKind.i64.wrap (v0 + 1)) v1 v2 v3 v4 ([.sc (.int .u32 (IntKind.u32.wrap (IntKind.u32.wrap (Zi v0 v3 v4 v5) + IntKind.u32.wrap (JM BinOp.xor IntKind.u32 (JM BinOp.xor IntKind.u32 (rr (Jr (PV.ar 143 v5) [0]).int 2) (rr (Jr (PV.ar 143 v5) [0]).int 13)) (rr (Jr (PV.ar 143 v5) [0]).int 22) + JM BinOp.xor IntKind.u32 (JM BinOp.xor IntKind.u32 (JM BinOp.and IntKind.u32 (Jr (PV.ar 143 v5) [0]).int (Jr (PV.ar 143 v5) [1]).int) (JM BinOp.and IntKind.u32 (Jr (PV.ar 143 v5) [0]).int (Jr (PV.ar 143 v5) [2]).int)) (JM BinOp.and IntKind.u32 (Jr (PV.ar 143 v5) [1]).int (Jr (PV.ar 143 v5) [2]).int))))), .sc (.int .u32 (Jr (PV.ar 143 v5) [0]).int), .sc (.int .u32 (Jr (PV.ar 143 v5) [1]).int), .sc (.int .u32 (Jr (PV.ar 143 v5) [2]).int), .sc (.int .u32 (IntKind.u32.wrap ((Jr (PV.ar 143 v5) [3]).int + IntKind.u32.wrap (Zi v0 v3 v4 v5)))), .sc (.int .u32 (Jr (PV.ar 143 v5) [4]).int), .sc (.int .u32 (Jr (PV.ar 143 v5) [5]).int), .sc (.int .u32 (Jr (PV.ar 143 v5) [6]).int)]) else none else none else none else none else none else none else none else none else none else none else none else none else none else none else none else none else none else none else none else none else k0 v1 v2 v5
def Vb (f : Nat) (k0 : List PV -> List PV -> List PV -> OR) : Nat -> Int -> List PV -> List PV -> List PV -> List PV -> List PV -> OR
 | 0, _, _, _, _, _, _ => none
 | n + 1, v0, v1, v2, v3, v4, v5 => Ja3 f (Vb f k0 n) k0 v0 v1 v2 v3 v4 v5
def Ja4 (k : Kont) := fun x0 x1 x2 => k (Ex.exit 0) (Ji Jmt N80 [.ptr 1824 [], .ptr 1825 [], .ptr 1826 []] [(1824, .box false 143 (PV.ar 143 x0)), (1825, .box false 143 (PV.ar 143 x1)), (1826, .box false 143 (PV.ar 143 x2))])
def Jmv (f : Nat) (k : Kont) (n : Nat) (v0 : Int) (v1 v2 v3 v4 v5 : List PV) : OR := Jy tau 0 JeM (fun s k => ev tau F80 0 0 JoM (JsG ) s k) n (Ji JeM N80 [.ptr 1824 [], .ptr 1825 [], .ptr 1826 [], .ptr 1827 [], .ptr 1828 [], .sc (.int .i64 v0)] [(1824, .box false 143 (PV.ar 143 v1)), (1825, .box false 143 (PV.ar 143 v2)), (1826, .box false 159 (PV.ar 159 v3)), (1827, .box false 159 (PV.ar 159 v4)), (1828, .box false 143 (PV.ar 143 v5))]) (JG tau 0 Jmt k)
theorem Jwt (f : Nat) (k : Kont) (n : Nat) (v0 : Int) (v1 v2 v3 v4 v5 : List PV) : Jmv f k (n + 1) v0 v1 v2 v3 v4 v5 = Ja3 f (Jmv f k n) (Ja4 k) v0 v1 v2 v3 v4 v5 := by kernel_rfl
theorem JoO (f : Nat) (k : Kont) : ∀ (n : Nat) (v0 : Int) (v1 v2 v3 v4 v5 : List PV), Jmv f k n v0 v1 v2 v3 v4 v5 = Vb f (Ja4 k) n v0 v1 v2 v3 v4 v5 | 0, _, _, _, _, _, _ => rfl | n + 1, v0, v1, v2, v3, v4, v5 => (Jwt f k n v0 v1 v2 v3 v4 v5).trans (congrArg (fun r => Ja3 f r (Ja4 k) v0 v1 v2 v3 v4 v5) (by funext v0 v1 v2 v3 v4 v5; exact JoO f k n v0 v1 v2 v3 v4 v5))
def Jgt (f : Nat) : List PV -> List (Nat × Ent) -> Kont -> OR
 | [.ptr 1824 [], .ptr 1825 [], .ptr 1826 [], .ptr 1827 [], .ptr 1828 [],
 PV.sc
  (Value.int IntKind.i64
   v0)], [(1824, .box false 143 (PV.ar 143 v1)), (1825, .box false 143 (PV.ar 143 v2)), (1826, .box false 159 (PV.ar 159 v3)), (1827, .box false 159 (PV.ar 159 v4)),
 (1828,
  Ent.box false 143
   (PV.ar 143
    v5))], k => Vb f (Ja4 k) f v0 v1 v2 v3 v4 v5
 | _, _, _ => none
theorem JCa (f : Nat) : Jf JoM JsG = [] := by kernel_rfl
theorem JHH (f : Nat) : (Item.l JoM JeM N80 (Jgt f)).Ok tau Try.prog 0 := Ju Jn Jms Jo (x := JsG) (nm2 := Jmt) (Jk _ _ (by rw [JCa f]; intro q hq; cases hq)) fun vs hp k res hr => by
 unfold Jgt at hr
 split at hr
 · exact ⟨f, 0, (JoO f _ f _ _ _ _ _ _ ).trans hr⟩
 · cases hr
def Ja5 (f : Nat) (rc : Int -> List PV -> List PV -> List PV -> OR) (k0 : List PV -> List PV -> OR) (v0 : Int) (v1 v2 v3 : List PV) : OR := bif decide (v0 < 8) then bif decide (0 <= v0) && decide (v0 < zi 8) && true then bif PV.isInt IntKind.u32 (Jr (PV.ar 143 v3) [v0.toNat]) && true then bif decide (0 <= v0) && decide (v0 < zi 8) && true then bif PV.isInt IntKind.u32 (Jr (PV.ar 143 v1) [v0.toNat]) && true then bif decide (0 <= v0) && decide (v0 < zi 8) && true then rc (IntKind.i64.wrap (v0 + 1)) v1 v2 (v3.set v0.toNat (.sc (.int .u32 (IntKind.u32.wrap ((Jr (PV.ar 143 v3) [v0.toNat]).int + (Jr (PV.ar 143 v1) [v0.toNat]).int))))) else none else none else none else none else none else k0 v2 v3
def Vc (f : Nat) (k0 : List PV -> List PV -> OR) : Nat -> Int -> List PV -> List PV -> List PV -> OR
 | 0, _, _, _, _ => none
 | n + 1, v0, v1, v2, v3 => Ja5 f (Vc f k0 n) k0 v0 v1 v2 v3
def Ja6 (k : Kont) := fun x0 x1 => k (Ex.exit 2) (Ji Jmu N80 [.ptr 1824 [], .ptr 1825 []] [(1824, .box false 143 (PV.ar 143 x0)), (1825, .box false 143 (PV.ar 143 x1))])
def Jmw (f : Nat) (k : Kont) (n : Nat) (v0 : Int) (v1 v2 v3 : List PV) : OR := Jy tau 0 JeN (fun s k => ev tau F80 0 0 JoN (JsH ) s k) n (Ji JeN N80 [.ptr 1824 [], .ptr 1825 [], .ptr 1826 [], .sc (.int .i64 v0)] [(1824, .box false 143 (PV.ar 143 v1)), (1825, .box false 143 (PV.ar 143 v2)), (1826, .box false 143 (PV.ar 143 v3))]) (JG tau 0 Jmu k)
theorem Jwu (f : Nat) (k : Kont) (n : Nat) (v0 : Int) (v1 v2 v3 : List PV) : Jmw f k (n + 1) v0 v1 v2 v3 = Ja5 f (Jmw f k n) (Ja6 k) v0 v1 v2 v3 := by kernel_rfl
theorem JoP (f : Nat) (k : Kont) : ∀ (n : Nat) (v0 : Int) (v1 v2 v3 : List PV), Jmw f k n v0 v1 v2 v3 = Vc f (Ja6 k) n v0 v1 v2 v3 | 0, _, _, _, _ => rfl | n + 1, v0, v1, v2, v3 => (Jwu f k n v0 v1 v2 v3).trans (congrArg (fun r => Ja5 f r (Ja6 k) v0 v1 v2 v3) (by funext v0 v1 v2 v3; exact JoP f k n v0 v1 v2 v3))
def Jgu (f : Nat) : List PV -> List (Nat × Ent) -> Kont -> OR
 | [.ptr 1824 [], .ptr 1825 [], .ptr 1826 [],
 PV.sc
  (Value.int IntKind.i64
   v0)], [(1824, .box false 143 (PV.ar 143 v1)), (1825, .box false 143 (PV.ar 143 v2)),
 (1826,
  Ent.box false 143
   (PV.ar 143
    v3))], k => Vc f (Ja6 k) f v0 v1 v2 v3
 | _, _, _ => none
theorem JCb (f : Nat) : Jf JoN JsH = [] := by kernel_rfl
theorem JHI (f : Nat) : (Item.l JoN JeN N80 (Jgu f)).Ok tau Try.prog 0 := Ju Jn Jms Jo (x := JsH) (nm2 := Jmu) (Jk _ _ (by rw [JCb f]; intro q hq; cases hq)) fun vs hp k res hr => by
 unfold Jgu at hr
 split at hr
 · exact ⟨f, 0, (JoP f _ f _ _ _ _ ).trans hr⟩
 · cases hr
def g80 (f : Nat) (s : List PV) (nl fl : Bool) (b : List PV) (k : KR) : OR := bif Jl IntKind.u8 b && decide (b.length = 64) then Vb f (fun x0_0 x1_0 x2_0 => Vc f (fun _ x1_1 => k (Res.mk (.ar 143 x1_1) [] [])) f (0) x0_0 x1_0 x2_0) f (0) s ([.sc (.int .u32 0), .sc (.int .u32 0), .sc (.int .u32 0), .sc (.int .u32 0), .sc (.int .u32 0), .sc (.int .u32 0), .sc (.int .u32 0), .sc (.int .u32 0)]) (pu IntKind.u32 (Qp (JD b))) ([.sc (.int .u32 1116352408), .sc (.int .u32 1899447441), .sc (.int .u32 3049323471), .sc (.int .u32 3921009573), .sc (.int .u32 961987163), .sc (.int .u32 1508970993), .sc (.int .u32 2453635748), .sc (.int .u32 2870763221), .sc (.int .u32 3624381080), .sc (.int .u32 310598401), .sc (.int .u32 607225278), .sc (.int .u32 1426881987), .sc (.int .u32 1925078388), .sc (.int .u32 2162078206), .sc (.int .u32 2614888103), .sc (.int .u32 3248222580), .sc (.int .u32 3835390401), .sc (.int .u32 4022224774), .sc (.int .u32 264347078), .sc (.int .u32 604807628), .sc (.int .u32 770255983), .sc (.int .u32 1249150122), .sc (.int .u32 1555081692), .sc (.int .u32 1996064986), .sc (.int .u32 2554220882), .sc (.int .u32 2821834349), .sc (.int .u32 2952996808), .sc (.int .u32 3210313671), .sc (.int .u32 3336571891), .sc (.int .u32 3584528711), .sc (.int .u32 113926993), .sc (.int .u32 338241895), .sc (.int .u32 666307205), .sc (.int .u32 773529912), .sc (.int .u32 1294757372), .sc (.int .u32 1396182291), .sc (.int .u32 1695183700), .sc (.int .u32 1986661051), .sc (.int .u32 2177026350), .sc (.int .u32 2456956037), .sc (.int .u32 2730485921), .sc (.int .u32 2820302411), .sc (.int .u32 3259730800), .sc (.int .u32 3345764771), .sc (.int .u32 3516065817), .sc (.int .u32 3600352804), .sc (.int .u32 4094571909), .sc (.int .u32 275423344), .sc (.int .u32 430227734), .sc (.int .u32 506948616), .sc (.int .u32 659060556), .sc (.int .u32 883997877), .sc (.int .u32 958139571), .sc (.int .u32 1322822218), .sc (.int .u32 1537002063), .sc (.int .u32 1747873779), .sc (.int .u32 1955562222), .sc (.int .u32 2024104815), .sc (.int .u32 2227730452), .sc (.int .u32 2361852424), .sc (.int .u32 2428436474), .sc (.int .u32 2756734187), .sc (.int .u32 3204031479), .sc (.int .u32 3329325298)]) s else none
theorem e80 (f : Nat) (s : List PV) (nl fl : Bool) (b : List PV) (k : KR) : JJ tau F80 Try.f80 (Try.f80.body.get!) (JB9 (Jgt f) (Jgu f)) [] 0 [.ar 143 s, .ro 5 nl fl b] [] k = g80 f s nl fl b k := by kernel_rfl
theorem JMZ (f : Nat) : Jf (Try.f80.body.get!) (JB9 (Jgt f) (Jgu f)) = [.l JoM JeM N80 (Jgt f), .l JoN JeN N80 (Jgu f)] := by kernel_rfl
theorem JM0 (f : Nat) : ∀ q ∈ Jf (Try.f80.body.get!) (JB9 (Jgt f) (Jgu f)), q.Ok tau Try.prog 0 := by rw [JMZ f]; exact JL (JHH f) (JL (JHI f) (fun _ h => nomatch h))
theorem JHJ : Try.prog.funcs[80]? = some Try.f80 := by kernel_rfl
theorem JHK : Try.f80.body = some (Try.f80.body.get!) := by kernel_rfl
theorem JM1 : Enters Try.prog 80 := enters_of JHJ (by kernel_rfl) JHK
-- FN (sha.state).add
theorem Vd {R : List Int} (h : R.length = 8) (j : Nat) (hj : j < 8) : (pu .u32 R).getD j .top = .sc (.int .u32 (R.getD j 0)) := ZW (by omega)
theorem Jza (W s : List Int) (hW : W.length = 64) (hs : s.length = 8) (f : Nat) (k0 : List PV -> List PV -> List PV -> OR) (a b : List PV) : ∀ (d i n : Nat), i + d = 64 -> d < n ->
  Vb f k0 n (i : Int) a b (pu .u32 W) (pu .u32 kks) (pu .u32 (Jch W s i)) = k0 a b (pu .u32 (Jch W s 64))
 | 0, i, n + 1, h, hn => by
   obtain rfl : i = 64 := by omega
   simp only [Vb, Ja3, Zi]
   exact Jd (by decide)
 | d + 1, i, n + 1, h, hn => by
   have hl := Yj W s hs i
   have h1 : IntKind.i64.wrap ((i : Int) + 1) = ((i + 1 : Nat) : Int) := by rw [wrap_i64 (by omega) (by omega)]; omega
   have hk : (pu .u32 kks).getD i .top = .sc (.int .u32 (kks.getD i 0)) := ZW (by show i < 64; omega)
   have hw : (pu .u32 W).getD i .top = .sc (.int .u32 (W.getD i 0)) := ZW (by omega)
   have c1 : decide ((i : Int) < 64) = true := by simp; omega
   have c2 : decide (0 <= (i : Int)) = true := by simp
   have c3 : decide ((i : Int) < zi 64) = true := by simp; omega
   simp only [Vb, Ja3, Zi, Ye, Int.toNat_natCast, h1, hk, hw, c1, c2, c3, Vd hl 0 (by omega), Vd hl 1 (by omega), Vd hl 2 (by omega), Vd hl 3 (by omega), Vd hl 4 (by omega), Vd hl 5 (by omega), Vd hl 6 (by omega), Vd hl 7 (by omega), PV.isInt, PV.int, decide_true, Bool.and_true, cond_true]
   exact Jza W s hW hs f k0 a b d (i + 1) n (by omega) (by omega)
theorem Jzb (t s : List Int) (ht : t.length = 8) (hs : s.length = 8) (f : Nat) (k0 : List PV -> List PV -> OR) (a : List PV) : ∀ (d i n : Nat), i + d = 8 -> d < n ->
  Vc f k0 n (i : Int) (pu .u32 s) a (pu .u32 (QN (fun j => ww (t.getD j 0 + s.getD j 0)) t i)) = k0 a (pu .u32 (QN (fun j => ww (t.getD j 0 + s.getD j 0)) t 8))
 | 0, i, n + 1, h, hn => by
   obtain rfl : i = 8 := by omega
   simp only [Vc, Ja5]
   exact Jd (by decide)
 | d + 1, i, n + 1, h, hn => by
   have hl : (QN (fun j => ww (t.getD j 0 + s.getD j 0)) t i).length = 8 := by rw [JaN _ _ _ (by omega), ht]
   have h1 : IntKind.i64.wrap ((i : Int) + 1) = ((i + 1 : Nat) : Int) := by rw [wrap_i64 (by omega) (by omega)]; omega
   have c1 : decide ((i : Int) < 8) = true := by simp; omega
   have c2 : decide (0 <= (i : Int)) = true := by simp
   have c3 : decide ((i : Int) < zi 8) = true := by simp; omega
   have g1 : ((i : Int)).toNat = i := by omega
   simp only [Vc, Ja5, Ye, g1, h1, c1, c2, c3, Vd hl i (by omega), Vd hs i (by omega), Jgn _ t i (by omega), PV.isInt, PV.int, decide_true, Bool.and_true, cond_true, Xp]
   have := Jzb t s ht hs f k0 a d (i + 1) n (by omega) (by omega)
   rw [← QM _ t i (by omega)] at this
   exact this
theorem JCc (s bs : List Int) (hs : s.length = 8) (hb : bs.length = 64) (nl fl : Bool) (k : KR) : g80 100 (pu .u32 s) nl fl (pu .u8 bs) k = k ⟨.ar 143 (pu .u32 (JlK s bs)), [], []⟩ := by
 have hW : (Qp bs).length = 64 := Qe bs 48
 have hc : (Jl .u8 (pu .u8 bs) && decide ((pu .u8 bs).length = 64)) = true := by simp [hb]
 refine (Ja hc).trans ?_
 rw [Q9]
 have h0 : ∀ k0 a b, Vb 100 k0 100 0 a b (pu .u32 (Qp bs)) (pu .u32 kks) (pu .u32 s) = k0 a b (pu .u32 (Jch (Qp bs) s 64)) := fun k0 a b => Jza (Qp bs) s hW hs 100 k0 a b 64 0 100 (by omega) (by omega)
 have ht := Yj (Qp bs) s hs 64
 have h1 : ∀ k0 a, Vc 100 k0 100 0 (pu .u32 s) a (pu .u32 (Jch (Qp bs) s 64)) = k0 a (pu .u32 (JlK s bs)) := by
  intro k0 a
  have := Jzb (Jch (Qp bs) s 64) s ht hs 100 k0 a 8 0 100 (by omega) (by omega)
  rw [Wc] at this
  refine this.trans ?_
  have h2 := WV (fun j => ww ((Jch (Qp bs) s 64).getD j 0 + s.getD j 0)) (Jch (Qp bs) s 64)
  rw [ht] at h2; rw [h2]; rfl
 exact (h0 _ _ _).trans (h1 _ _)
def Jmx : Jz
 | [.ar 143 s, .ro 5 nl fl b], [], k => bif (Jl .u32 s && decide (s.length = 8)) && (Jl .u8 b && decide (b.length = 64)) then k ⟨.ar 143 (pu .u32 (JlK (JD s) (JD b))), [], []⟩ else none
 | _, _, _ => none
def JHL : Sig := { own := [], run := Jmx }
theorem JHM : Jc tau Try.prog 80 JHL := JN Jn Jms Jo JHJ JHK _ [] 0 [] Jmx (JM0 100) fun xs es k res hr => by
 unfold Jmx at hr
 split at hr
 · obtain ⟨hc, hr⟩ := Jv hr
   simp only [Bool.and_eq_true, decide_eq_true_eq] at hc
   refine ⟨rfl, 0, (e80 100 _ _ _ _ _).trans ?_⟩
   rw [Qy hc.2.1, Qy hc.1.1, JCc _ _ (by simpa using hc.1.2) (by simpa using hc.2.2)]
   exact hr
 · cases hr
def N78 : Nat := 33
def F78 : Fns := F0
theorem Jmy : Jq tau Try.prog F78 := Js
def JeO : Code := Qd (Try.f78.body.get!) [1, 0, 1, 1, 1, 1, 0, 1, 0, 0]
def Yy : Nm := [(0, .any), (3, .any), (19, .any)]
def Ve : Nm := [(0, .any)]
def Jj0 : An := (.seq .leaf (.seq (.cond .leaf .leaf) (.seq (.block none (.seq .leaf .leaf)) .leaf)))
def Ja7 : Code := Qd (Try.f78.body.get!) [1, 0]
def Zj : Nm := [(0, .any), (3, .any)]
def Vf : Nm := [(2, .any)]
def Jgv (r1 : Qr) : An := (.seq .leaf (.seq .leaf (.seq .leaf (.seq (.seq .leaf (.cond (.seq .leaf .leaf) .leaf)) (.seq (.seq .leaf (.block none (.sum Yy N78 r1))) (.seq .leaf .leaf))))))
def JCd (r0 : Jrc) (r1 : Qr) : An := (.seq .leaf (.ssum Zj N78 (Jgv r1) r0))
def Ja8 (f : Nat) (rc : Nat -> Int -> Int -> Bool -> List PV -> OR) (k0 : Nat -> Bool -> List PV -> OR) (v0 : Nat) (v1 v2 : Int) (v3 : Bool) (v4 : List PV) : OR := bif decide (v2 < 8) then bif decide (0 <= IntKind.i64.wrap (56 - IntKind.i64.wrap (8 * v2))) && true then bif Je (v0 + 1) 1 && true then rc (v0 + 1) v1 (IntKind.i64.wrap (v2 + 1)) (v3 && false) (List.take v0 v4 ++ [.sc (.int .u8 (IntKind.u8.wrap (JV IntKind.u64 v1 (IntKind.i64.wrap (56 - IntKind.i64.wrap (8 * v2))))))]) else none else none else k0 v0 v3 v4
def Yz (f : Nat) (k0 : Nat -> Bool -> List PV -> OR) : Nat -> Nat -> Int -> Int -> Bool -> List PV -> OR
 | 0, _, _, _, _, _ => none
 | n + 1, v0, v1, v2, v3, v4 => Ja8 f (Yz f k0 n) k0 v0 v1 v2 v3 v4
theorem Jwv (f : Nat) (k : Kont) (n v0 : Nat) (v1 v2 : Int) (v3 : Bool) (v4 : List PV) : Jy tau 1 Yy (fun s k => ev tau F78 1 0 JeO (Jj0 ) s k) (n + 1) (Ji Yy N78 [.ow 5 545 [] 0 v0 none, .sc (.int .u64 v1), .sc (.int .i64 v2)] [(0, .dead), (545, .vec false 5 v3 v4)]) (JG tau 1 Ve k) = Ja8 f (fun v0 v1 v2 v3 v4 => Jy tau 1 Yy (fun s k => ev tau F78 1 0 JeO (Jj0 ) s k) n (Ji Yy N78 [.ow 5 545 [] 0 v0 none, .sc (.int .u64 v1), .sc (.int .i64 v2)] [(0, .dead), (545, .vec false 5 v3 v4)]) (JG tau 1 Ve k)) (fun x0 x1 x2 => k (Ex.exit 0) (Ji Ve N78 [.ow 5 545 [] 0 x0 none] [(0, .dead), (545, .vec false 5 x1 x2)])) v0 v1 v2 v3 v4 := by kernel_rfl
theorem JoQ (f : Nat) (k : Kont) : ∀ (n v0 : Nat) (v1 v2 : Int) (v3 : Bool) (v4 : List PV), Jy tau 1 Yy (fun s k => ev tau F78 1 0 JeO (Jj0 ) s k) n (Ji Yy N78 [.ow 5 545 [] 0 v0 none, .sc (.int .u64 v1), .sc (.int .i64 v2)] [(0, .dead), (545, .vec false 5 v3 v4)]) (JG tau 1 Ve k) = Yz f (fun x0 x1 x2 => k (Ex.exit 0) (Ji Ve N78 [.ow 5 545 [] 0 x0 none] [(0, .dead), (545, .vec false 5 x1 x2)])) n v0 v1 v2 v3 v4 | 0, _, _, _, _, _ => rfl | n + 1, v0, v1, v2, v3, v4 => (Jwv f k n v0 v1 v2 v3 v4).trans (congrArg (fun r => Ja8 f r (fun x0 x1 x2 => k (Ex.exit 0) (Ji Ve N78 [.ow 5 545 [] 0 x0 none] [(0, .dead), (545, .vec false 5 x1 x2)])) v0 v1 v2 v3 v4) (by funext v0 v1 v2 v3 v4; exact JoQ f k n v0 v1 v2 v3 v4))
def ZF (f : Nat) : List PV -> List (Nat × Ent) -> Kont -> OR
 | [.ow 5 545 [] 0 v0 none, .sc (.int .u64 v1),
 PV.sc
  (Value.int IntKind.i64
   v2)], [(0, .dead),
 (545, .vec false 5 v3 v4)], k => Yz f (fun x0 x1 x2 => k (Ex.exit 0) (Ji Ve N78 [.ow 5 545 [] 0 x0 none] [(0, .dead), (545, .vec false 5 x1 x2)])) f v0 v1 v2 v3 v4
 | _, _, _ => none
theorem JCe (f : Nat) : Jf JeO Jj0 = [] := by kernel_rfl
theorem JsI (f : Nat) : (Item.l JeO Yy N78 (ZF f)).Ok tau Try.prog 1 := Ju Jn Jmy Jo (x := Jj0) (nm2 := Ve) (Jk _ _ (by rw [JCe f]; intro q hq; cases hq)) fun vs hp k res hr => by
 unfold ZF at hr
 split at hr
 · exact ⟨f, 0, (JoQ f _ f _ _ _ _ _ ).trans hr⟩
 · cases hr
def Ja9 (f : Nat) (rc : Nat -> Int -> Bool -> List PV -> OR) (k0 : Nat -> Bool -> List PV -> OR) (v0 : Nat) (v1 : Int) (v2 : Bool) (v3 : List PV) : OR := bif (zi v0).tmod 64 != 56 then bif Je (v0 + 1) 1 && true then rc (v0 + 1) v1 (v2 && false) (List.take v0 v3 ++ [.sc (.int .u8 0)]) else none else Yz f k0 f v0 v1 (0) v2 v3
def GG (f : Nat) (k0 : Nat -> Bool -> List PV -> OR) : Nat -> Nat -> Int -> Bool -> List PV -> OR
 | 0, _, _, _, _ => none
 | n + 1, v0, v1, v2, v3 => Ja9 f (GG f k0 n) k0 v0 v1 v2 v3
theorem Jww (f : Nat) (k : Kont) (n v0 : Nat) (v1 : Int) (v2 : Bool) (v3 : List PV) : QZ tau 1 Zj (hasLabel Ja7) (fun l s k => Qg tau F78 1 0 Ja7 (Jgv (ZF f)) l s k) (n + 1) 0 (Ji Zj N78 [.ow 5 545 [] 0 v0 none, .sc (.int .u64 v1)] [(0, .dead), (545, .vec false 5 v2 v3)]) (JG tau 1 Vf k) = Ja9 f (fun v0 v1 v2 v3 => QZ tau 1 Zj (hasLabel Ja7) (fun l s k => Qg tau F78 1 0 Ja7 (Jgv (ZF f)) l s k) n 0 (Ji Zj N78 [.ow 5 545 [] 0 v0 none, .sc (.int .u64 v1)] [(0, .dead), (545, .vec false 5 v2 v3)]) (JG tau 1 Vf k)) (fun x0 x1 x2 => k Ex.ret (Ji Vf N78 [.ow 5 545 [] 0 x0 none] [(0, .dead), (545, .vec false 5 x1 x2)])) v0 v1 v2 v3 := by kernel_rfl
theorem JoR (f : Nat) (k : Kont) : ∀ (n v0 : Nat) (v1 : Int) (v2 : Bool) (v3 : List PV), QZ tau 1 Zj (hasLabel Ja7) (fun l s k => Qg tau F78 1 0 Ja7 (Jgv (ZF f)) l s k) n 0 (Ji Zj N78 [.ow 5 545 [] 0 v0 none, .sc (.int .u64 v1)] [(0, .dead), (545, .vec false 5 v2 v3)]) (JG tau 1 Vf k) = GG f (fun x0 x1 x2 => k Ex.ret (Ji Vf N78 [.ow 5 545 [] 0 x0 none] [(0, .dead), (545, .vec false 5 x1 x2)])) n v0 v1 v2 v3 | 0, _, _, _, _ => rfl | n + 1, v0, v1, v2, v3 => (Jww f k n v0 v1 v2 v3).trans (congrArg (fun r => Ja9 f r (fun x0 x1 x2 => k Ex.ret (Ji Vf N78 [.ow 5 545 [] 0 x0 none] [(0, .dead), (545, .vec false 5 x1 x2)])) v0 v1 v2 v3) (by funext v0 v1 v2 v3; exact JoR f k n v0 v1 v2 v3))
def Jgw (f : Nat) : Nat -> List PV -> List (Nat × Ent) -> Kont -> OR
 | 0, [.ow 5 545 [] 0 v0 none,
 PV.sc
  (Value.int IntKind.u64
   v1)], [(0, .dead),
 (545, .vec false 5 v2 v3)], k => GG f (fun x0 x1 x2 => k Ex.ret (Ji Vf N78 [.ow 5 545 [] 0 x0 none] [(0, .dead), (545, .vec false 5 x1 x2)])) f v0 v1 v2 v3
 | _, _, _, _ => none
theorem JCf (f : Nat) : Jf Ja7 (Jgv (ZF f)) = [.l JeO Yy N78 (ZF f)] := by kernel_rfl
theorem JCg (f : Nat) : (Item.s Ja7 Zj N78 (Jgw f)).Ok tau Try.prog 1 := XS Jn Jmy Jo (x := (Jgv (ZF f))) (nm2 := Vf) (Jk _ _ (by rw [JCf f]; simp only [List.forall_mem_cons, List.not_mem_nil, false_implies, implies_true, and_true]; exact JsI f)) fun l vs hp k res hr => by
 unfold Jgw at hr
 split at hr
 · exact ⟨f, 0, (JoR f _ f _ _ _ _ ).trans hr⟩
 · cases hr
def g78 (f : Nat) (nl : Bool) (l : List PV) (n : Nat) (k : KR) : OR := bif Je (n + 1) 1 && true then bif (zi (n + 1)).tmod 64 != 56 then bif Je (n + 1 + 1) 1 && true then GG f (fun x0_1 x1_1 x2_1 => k (Res.mk (.ow 5 16 [] 0 x0_1 none) [.dead] [.vec false 5 x1_1 x2_1])) f (n + 1 + 1) (IntKind.u64.wrap (IntKind.u64.wrap (zi n) * 8)) (nl && false && false) (List.take (n + 1) (List.take n l ++ [.sc (.int .u8 128)]) ++ [.sc (.int .u8 0)]) else none else Yz f (fun x0_2 x1_2 x2_2 => k (Res.mk (.ow 5 16 [] 0 x0_2 none) [.dead] [.vec false 5 x1_2 x2_2])) f (n + 1) (IntKind.u64.wrap (IntKind.u64.wrap (zi n) * 8)) (0) (nl && false) (List.take n l ++ [.sc (.int .u8 128)]) else none
theorem e78 (f : Nat) (nl : Bool) (l : List PV) (n : Nat) (k : KR) : JJ tau F78 Try.f78 (Try.f78.body.get!) (JCd (Jgw f) (ZF f)) [] 0 [.ow 5 0 [] 0 n none] [.vec false 5 nl l] k = g78 f nl l n k := by kernel_rfl
theorem JM2 (f : Nat) : Jf (Try.f78.body.get!) (JCd (Jgw f) (ZF f)) = [.s Ja7 Zj N78 (Jgw f), .l JeO Yy N78 (ZF f)] := by kernel_rfl
theorem JM3 (f : Nat) : ∀ q ∈ Jf (Try.f78.body.get!) (JCd (Jgw f) (ZF f)), q.Ok tau Try.prog 1 := by rw [JM2 f]; exact JL (JCg f) (JL (JsI f) (fun _ h => nomatch h))
theorem JHN : Try.prog.funcs[78]? = some Try.f78 := by kernel_rfl
theorem JHO : Try.f78.body = some (Try.f78.body.get!) := by kernel_rfl
theorem JM4 : Enters Try.prog 78 := enters_of JHN (by kernel_rfl) JHO
-- FN sha.padded
def JCh (n : Int) (i : Nat) : Int := IntKind.u8.wrap (JV .u64 n (56 - 8 * (i : Int)))
theorem Jzc (f : Nat) (N : Int) (k0 : Nat -> Bool -> List PV -> OR) (L : List Int) (hL : L.length <= 140737488355300) : ∀ (d i n : Nat) (z : Bool), i + d = 8 -> d < n -> (d = 0 -> z = false) ->
  Yz f k0 n (L.length + i) N (i : Int) z (pu .u8 (L ++ (List.range i).map (JCh N))) = k0 (L.length + 8) false (pu .u8 (L ++ (List.range 8).map (JCh N)))
 | 0, i, n + 1, z, h, hn, hz => by
   obtain rfl : i = 8 := by omega
   simp only [Yz, Ja8]
   rw [hz rfl]
   exact Jd (by decide)
 | d + 1, i, n + 1, z, h, hn, hz => by
   have h1 : IntKind.i64.wrap ((i : Int) + 1) = ((i + 1 : Nat) : Int) := by rw [wrap_i64 (by omega) (by omega)]; omega
   have h8 : IntKind.i64.wrap (8 * (i : Int)) = 8 * (i : Int) := wrap_i64 (by omega) (by omega)
   have h9 : IntKind.i64.wrap (56 - 8 * (i : Int)) = 56 - 8 * (i : Int) := wrap_i64 (by omega) (by omega)
   have c1 : decide ((i : Int) < 8) = true := by simp; omega
   have c2 : decide (0 <= 56 - 8 * (i : Int)) = true := by simp; omega
   have c3 : Je (L.length + i + 1) 1 = true := by simp [Je]; omega
   have hlen : (L ++ (List.range i).map (JCh N)).length = L.length + i := by simp
   simp only [Yz, Ja8, h1, h8, h9, c1, c2, c3, Bool.and_true, cond_true, Yd, Bool.and_false]
   rw [List.take_of_length_le (by omega)]
   have := Jzc f N k0 L hL d (i + 1) n false (by omega) (by omega) (fun _ => rfl)
   rw [List.range_succ, List.map_append, ← List.append_assoc, J9] at this
   exact this
theorem Jzd (f : Nat) (N : Int) (k0 : Nat -> Bool -> List PV -> OR) (hf : 9 <= f) : ∀ (d n : Nat) (L : List Int) (z : Bool), zs L.length = d -> d < n -> L.length + d <= 140737488355200 ->
  GG f k0 n L.length N z (pu .u8 L) = Yz f k0 f (L.length + d) N 0 (z && decide (d = 0)) (pu .u8 (L ++ List.replicate d 0))
 | 0, n + 1, L, z, hd, hn, hL => by
   simp only [GG, Ja9, Jer]
   refine (Jd (by simp [zs] at hd ⊢; omega)).trans ?_
   simp
 | d + 1, n + 1, L, z, hd, hn, hL => by
   have hlt : d + 1 < 64 := by rw [← hd]; unfold zs; omega
   have c3 : Je (L.length + 1) 1 = true := by simp [Je]; omega
   simp only [GG, Ja9, Jer, c3, Bool.and_true, cond_true, Yd, Bool.and_false]
   refine (Ja (by simp [zs] at hd ⊢; omega)).trans ?_
   rw [List.take_of_length_le (Nat.le_refl _)]
   have := Jzd f N k0 hf d n (L ++ [0]) false (by simp [zs] at hd ⊢; omega) (by omega) (by simp; omega)
   simp only [List.length_append, List.length_cons, List.length_nil, Nat.zero_add, J9] at this
   refine this.trans ?_
   rw [show L.length + 1 + d = L.length + (d + 1) from by omega, List.replicate_succ]
   simp
theorem JCi (nl : Bool) (bs : List Int) (hb : bs.length <= 140737488355000) (k : KR) : g78 100 nl (pu .u8 bs) bs.length k = k ⟨.ow 5 16 [] 0 (Q1 bs).length none, [.dead], [.vec false 5 false (pu .u8 (Q1 bs))]⟩ := by
 have c1 : (Je (bs.length + 1) 1 && true) = true := by simp [Je]; omega
 have c2 : (Je (bs.length + 1 + 1) 1 && true) = true := by simp [Je]; omega
 have hlen : (Q1 bs).length = bs.length + 1 + zs (bs.length + 1) + 8 := by simp [Q1, JvZ]; omega
 have hz : zs (bs.length + 1) < 64 := by unfold zs; omega
 refine (Ja c1).trans ?_
 rw [Jer, Yd, List.take_of_length_le (Nat.le_refl _)]
 have fin : ∀ z, Yz 100 (fun x0_2 x1_2 x2_2 => k (Res.mk (PV.ow 5 16 [] 0 x0_2 none) [Ent.dead] [Ent.vec false 5 x1_2 x2_2])) 100 (bs.length + 1 + zs (bs.length + 1)) (IntKind.u64.wrap (IntKind.u64.wrap (zi bs.length) * 8)) 0 z (pu .u8 (bs ++ [128] ++ List.replicate (zs (bs.length + 1)) 0)) = k ⟨.ow 5 16 [] 0 (Q1 bs).length none, [.dead], [.vec false 5 false (pu .u8 (Q1 bs))]⟩ := by
  intro z
  have := Jzc 100 (IntKind.u64.wrap (IntKind.u64.wrap (zi bs.length) * 8)) (fun x0_2 x1_2 x2_2 => k (Res.mk (PV.ow 5 16 [] 0 x0_2 none) [Ent.dead] [Ent.vec false 5 x1_2 x2_2])) (bs ++ [128] ++ List.replicate (zs (bs.length + 1)) 0) (by simp; omega) 8 0 100 z (by omega) (by omega) (by omega)
  have hl2 : (bs ++ [128] ++ List.replicate (zs (bs.length + 1)) 0).length = bs.length + 1 + zs (bs.length + 1) := by simp; omega
  rw [hl2] at this
  simp only [List.range_zero, List.map_nil, List.append_nil, Nat.add_zero] at this
  rw [hlen]
  exact this
 cases hc : (((((bs.length + 1) % 64 : Nat) : Int)) != 56) with
 | true =>
  refine (Ja rfl).trans ((Ja c2).trans ?_)
  have hc' : ((bs.length + 1) % 64 : Nat) ≠ 56 := by simp at hc; omega
  have hz1 : zs (bs.length + 1 + 1) + 1 = zs (bs.length + 1) := by unfold zs; omega
  have := Jzd 100 (IntKind.u64.wrap (IntKind.u64.wrap (zi bs.length) * 8)) (fun x0_1 x1_1 x2_1 => k (Res.mk (PV.ow 5 16 [] 0 x0_1 none) [Ent.dead] [Ent.vec false 5 x1_1 x2_1])) (by omega) (zs (bs.length + 1 + 1)) 100 (bs ++ [128] ++ [0]) (nl && false && false) (by simp) (by unfold zs; omega) (by simp; omega)
  have h0 : pu .u8 (bs ++ [128] ++ [0]) = List.take (bs.length + 1) (pu .u8 bs ++ [PV.sc (Value.int IntKind.u8 128)]) ++ [PV.sc (Value.int IntKind.u8 0)] := by
   rw [List.take_of_length_le (by simp)]; simp
  rw [h0] at this
  simp only [List.length_append, List.length_cons, List.length_nil, Nat.zero_add] at this
  refine this.trans ?_
  have h3 : bs ++ [128] ++ [0] ++ List.replicate (zs (bs.length + 1 + 1)) 0 = bs ++ [128] ++ List.replicate (zs (bs.length + 1)) 0 := by
   rw [← hz1, List.replicate_succ]; simp
  rw [h3, show bs.length + 1 + 1 + zs (bs.length + 1 + 1) = bs.length + 1 + zs (bs.length + 1) from by omega]
  exact fin _
 | false =>
  refine (Jd rfl).trans ?_
  have hc' : ((bs.length + 1) % 64 : Nat) = 56 := by simp at hc; omega
  have hz0 : zs (bs.length + 1) = 0 := by unfold zs; omega
  have := fin (nl && false)
  rw [hz0] at this
  simpa using this
def Jmz : Jz
 | [.ow 5 0 [] 0 n none], [.vec false 5 nl l], k => bif Jl .u8 l && (decide (n = l.length) && decide (l.length <= 140737488355000)) then k ⟨.ow 5 16 [] 0 (Q1 (JD l)).length none, [.dead], [.vec false 5 false (pu .u8 (Q1 (JD l)))]⟩ else none
 | _, _, _ => none
def JHP : Sig := { own := [true], run := Jmz }
theorem JHQ : Jc tau Try.prog 78 JHP := JN Jn Jmy Jo JHN JHO _ [] 1 [true] Jmz (JM3 100) fun xs es k res hr => by
 unfold Jmz at hr
 split at hr
 · obtain ⟨hc, hr⟩ := Jv hr
   simp only [Bool.and_eq_true, decide_eq_true_eq] at hc
   refine ⟨rfl, 0, (e78 100 _ _ _ _).trans ?_⟩
   rw [hc.2.1, Qy hc.1, JI, JCi _ _ (by simpa using hc.2.2)]
   exact hr
 · cases hr
def F77 : Fns := F0
theorem JCj : Jq tau Try.prog F77 := Js
def JCk : An := (.seq .leaf (.seq .leaf .leaf))
def g77 (f : Nat) (k : KR) : OR := k (Res.mk (.ar 143 [.sc (.int .u32 1779033703), .sc (.int .u32 3144134277), .sc (.int .u32 1013904242), .sc (.int .u32 2773480762), .sc (.int .u32 1359893119), .sc (.int .u32 2600822924), .sc (.int .u32 528734635), .sc (.int .u32 1541459225)]) [] [])
theorem e77 (f : Nat) (k : KR) : JJ tau F77 Try.f77 (Try.f77.body.get!) JCk [.ro] 0 [] [] k = g77 f k := by kernel_rfl
theorem JM5 (f : Nat) : ∀ q ∈ Jf (Try.f77.body.get!) JCk, q.Ok tau Try.prog 0 := Jw (by kernel_rfl)
theorem JHR : Try.prog.funcs[77]? = some Try.f77 := by kernel_rfl
theorem JHS : Try.f77.body = some (Try.f77.body.get!) := by kernel_rfl
theorem JM6 : Enters Try.prog 77 := enters_of JHR (by kernel_rfl) JHS
def JsJ : Jz
 | [], [], k => g77 0  k
 | _, _, _ => none
def s77 : Sig := { own := [], run := JsJ }
theorem JM7 : Jc tau Try.prog 77 s77 := JN Jn JCj Jo JHR JHS JCk [.ro] 0 [] JsJ (JM5 0) fun xs es k res hr => by
 unfold JsJ at hr
 split at hr
 · exact ⟨rfl, 0, (e77 0  _).trans hr⟩
 · cases hr
def N36 : Nat := 37
def F36 : Fns := Jt 77 s77 (Jt 78 JHP (Jt 79 Jv5 (Jt 80 JHL F0)))
theorem JmA : Jq tau Try.prog F36 := (((Js.add JHM JM1).add Jse JBh).add JHQ JM4).add JM7 JM6
def JoS : Code := Qd (Try.f36.body.get!) [1, 1, 0, 1, 0, 0]
def JeP : Nm := [(2, .any), (3, .any), (4, .ro)]
def JmB : Nm := [(2, .any), (3, .any)]
def JsK : An := (.seq (.seq .leaf (.cond .leaf .leaf)) (.seq (.block none .leaf) .leaf))
def JoT : Code := Qd (Try.f36.body.get!) [1, 1, 1, 1, 0, 1, 0, 0]
def JeQ : Nm := [(2, .any), (3, .any), (5, .any), (20, .any)]
def JmC : Nm := [(2, .any), (5, .any)]
def JsL : An := (.seq .leaf (.seq (.cond .leaf .leaf) (.seq (.block none (.seq .leaf .leaf)) .leaf)))
def Jwx (r0 : Qr) (r1 : Qr) : An := (.seq .leaf (.seq .leaf (.seq (.seq .leaf (.block none (.sum JeP N36 r0))) (.seq .leaf (.seq (.seq .leaf (.block none (.sum JeQ N36 r1))) (.seq .leaf .leaf))))))
def Jba (f : Nat) (rc : List PV -> List PV -> List PV -> OR) (k0 : List PV -> List PV -> OR) (v0 v1 v2 : List PV) : OR := bif decide (zi v0.length > 0) then bif decide (64 <= v0.length) && true then bif Jl IntKind.u32 v2 && decide (v2.length = 8) && (Jl IntKind.u8 (List.take 64 v0) && decide ((List.take 64 v0).length = 64)) then bif decide (64 <= v0.length) && decide (v0.length <= v0.length) && true then rc (List.drop 64 (List.take v0.length v0)) v1 (pu IntKind.u32 (JlK (JD v2) (JD (List.take 64 v0)))) else none else none else none else k0 v1 v2
def Vg (f : Nat) (k0 : List PV -> List PV -> OR) : Nat -> List PV -> List PV -> List PV -> OR
 | 0, _, _, _ => none
 | n + 1, v0, v1, v2 => Jba f (Vg f k0 n) k0 v0 v1 v2
def Jbb (k : Kont) := fun x0 x1 => k (Ex.exit 0) (Ji JmB N36 [.ptr 608 [], .ptr 609 []] [(608, .box false 37 (PV.ar 37 x0)), (609, .box false 143 (PV.ar 143 x1))])
def JmD (f : Nat) (k : Kont) (n : Nat) (v0 v1 v2 : List PV) : OR := Jy tau 0 JeP (fun s k => ev tau F36 0 0 JoS (JsK ) s k) n (Ji JeP N36 [.ptr 608 [], .ptr 609 [], .ro 5 false false v0] [(608, .box false 37 (PV.ar 37 v1)), (609, .box false 143 (PV.ar 143 v2))]) (JG tau 0 JmB k)
theorem Jwy (f : Nat) (k : Kont) (n : Nat) (v0 v1 v2 : List PV) : JmD f k (n + 1) v0 v1 v2 = Jba f (JmD f k n) (Jbb k) v0 v1 v2 := by kernel_rfl
theorem JoU (f : Nat) (k : Kont) : ∀ (n : Nat) (v0 v1 v2 : List PV), JmD f k n v0 v1 v2 = Vg f (Jbb k) n v0 v1 v2 | 0, _, _, _ => rfl | n + 1, v0, v1, v2 => (Jwy f k n v0 v1 v2).trans (congrArg (fun r => Jba f r (Jbb k) v0 v1 v2) (by funext v0 v1 v2; exact JoU f k n v0 v1 v2))
def JeR (f : Nat) : List PV -> List (Nat × Ent) -> Kont -> OR
 | [.ptr 608 [], .ptr 609 [],
 PV.ro 5 false false
  v0], [(608, .box false 37 (PV.ar 37 v1)),
 (609,
  Ent.box false 143
   (PV.ar 143
    v2))], k => Vg f (Jbb k) f v0 v1 v2
 | _, _, _ => none
theorem JCl (f : Nat) : Jf JoS JsK = [] := by kernel_rfl
theorem JHT (f : Nat) : (Item.l JoS JeP N36 (JeR f)).Ok tau Try.prog 0 := Ju Jn JmA Jo (x := JsK) (nm2 := JmB) (Jk _ _ (by rw [JCl f]; intro q hq; cases hq)) fun vs hp k res hr => by
 unfold JeR at hr
 split at hr
 · exact ⟨f, 0, (JoU f _ f _ _ _ ).trans hr⟩
 · cases hr
def Jbc (f : Nat) (rc : Int -> List PV -> List PV -> List PV -> OR) (k0 : List PV -> List PV -> OR) (v0 : Int) (v1 v2 v3 : List PV) : OR := bif decide (v0 < 32) then bif decide (0 <= IntKind.i64.wrap (v0.tdiv 4)) && decide (IntKind.i64.wrap (v0.tdiv 4) < zi 8) && true then bif PV.isInt IntKind.u32 (Jr (PV.ar 143 v2) [(IntKind.i64.wrap (v0.tdiv 4)).toNat]) && true then bif decide (0 <= IntKind.i64.wrap (24 - IntKind.i64.wrap (8 * v0.tmod 4))) && true then bif decide (0 <= v0) && decide (v0 < zi 32) && true then rc (IntKind.i64.wrap (v0 + 1)) v1 v2 (v3.set v0.toNat (.sc (.int .u8 (IntKind.u8.wrap (JV IntKind.u32 (Jr (PV.ar 143 v2) [(IntKind.i64.wrap (v0.tdiv 4)).toNat]).int (IntKind.i64.wrap (24 - IntKind.i64.wrap (8 * v0.tmod 4)))))))) else none else none else none else none else k0 v1 v3
def Vh (f : Nat) (k0 : List PV -> List PV -> OR) : Nat -> Int -> List PV -> List PV -> List PV -> OR
 | 0, _, _, _, _ => none
 | n + 1, v0, v1, v2, v3 => Jbc f (Vh f k0 n) k0 v0 v1 v2 v3
def Jbd (k : Kont) := fun x0 x1 => k (Ex.exit 2) (Ji JmC N36 [.ptr 608 [], .ptr 609 []] [(608, .box false 37 (PV.ar 37 x0)), (609, .box false 37 (PV.ar 37 x1))])
def JmE (f : Nat) (k : Kont) (n : Nat) (v0 : Int) (v1 v2 v3 : List PV) : OR := Jy tau 0 JeQ (fun s k => ev tau F36 0 0 JoT (JsL ) s k) n (Ji JeQ N36 [.ptr 608 [], .ptr 609 [], .ptr 610 [], .sc (.int .i64 v0)] [(608, .box false 37 (PV.ar 37 v1)), (609, .box false 143 (PV.ar 143 v2)), (610, .box false 37 (PV.ar 37 v3))]) (JG tau 0 JmC k)
theorem Jwz (f : Nat) (k : Kont) (n : Nat) (v0 : Int) (v1 v2 v3 : List PV) : JmE f k (n + 1) v0 v1 v2 v3 = Jbc f (JmE f k n) (Jbd k) v0 v1 v2 v3 := by kernel_rfl
theorem JoV (f : Nat) (k : Kont) : ∀ (n : Nat) (v0 : Int) (v1 v2 v3 : List PV), JmE f k n v0 v1 v2 v3 = Vh f (Jbd k) n v0 v1 v2 v3 | 0, _, _, _, _ => rfl | n + 1, v0, v1, v2, v3 => (Jwz f k n v0 v1 v2 v3).trans (congrArg (fun r => Jbc f r (Jbd k) v0 v1 v2 v3) (by funext v0 v1 v2 v3; exact JoV f k n v0 v1 v2 v3))
def JeS (f : Nat) : List PV -> List (Nat × Ent) -> Kont -> OR
 | [.ptr 608 [], .ptr 609 [], .ptr 610 [],
 PV.sc
  (Value.int IntKind.i64
   v0)], [(608, .box false 37 (PV.ar 37 v1)), (609, .box false 143 (PV.ar 143 v2)),
 (610,
  Ent.box false 37
   (PV.ar 37
    v3))], k => Vh f (Jbd k) f v0 v1 v2 v3
 | _, _, _ => none
theorem JCm (f : Nat) : Jf JoT JsL = [] := by kernel_rfl
theorem JHU (f : Nat) : (Item.l JoT JeQ N36 (JeS f)).Ok tau Try.prog 0 := Ju Jn JmA Jo (x := JsL) (nm2 := JmC) (Jk _ _ (by rw [JCm f]; intro q hq; cases hq)) fun vs hp k res hr => by
 unfold JeS at hr
 split at hr
 · exact ⟨f, 0, (JoV f _ f _ _ _ _ ).trans hr⟩
 · cases hr
abbrev JsM := ([PV.sc (.int .u8 0), PV.sc (.int .u8 0), PV.sc (.int .u8 0), PV.sc (.int .u8 0), PV.sc (.int .u8 0), PV.sc (.int .u8 0), PV.sc (.int .u8 0), PV.sc (.int .u8 0), PV.sc (.int .u8 0), PV.sc (.int .u8 0), PV.sc (.int .u8 0), PV.sc (.int .u8 0), PV.sc (.int .u8 0), PV.sc (.int .u8 0), PV.sc (.int .u8 0), PV.sc (.int .u8 0), PV.sc (.int .u8 0), PV.sc (.int .u8 0), PV.sc (.int .u8 0), PV.sc (.int .u8 0), PV.sc (.int .u8 0), PV.sc (.int .u8 0), PV.sc (.int .u8 0), PV.sc (.int .u8 0), PV.sc (.int .u8 0), PV.sc (.int .u8 0), PV.sc (.int .u8 0), PV.sc (.int .u8 0), PV.sc (.int .u8 0), PV.sc (.int .u8 0), PV.sc (.int .u8 0), PV.sc (.int .u8 0)])
def g36 (f : Nat) (nl fl : Bool) (l : List PV) (k : KR) : OR := bif l.all (PV.isRo 5) && (decide ((JH l).length <= 140737488355328) && decide (l.length <= 140737488355328)) then bif Jl IntKind.u8 (JH l) && (decide ((JH l).length = (JH l).length) && decide ((JH l).length <= 140737488355000)) then Vg f (fun x0_0 x1_0 => Vh f (fun _ x1_1 => k (Res.mk (.ar 37 x1_1) [] [])) f (0) x0_0 x1_0 JsM) f (List.take (Q1 (JD (JH l))).length (pu IntKind.u8 (Q1 (JD (JH l))))) JsM ([.sc (.int .u32 1779033703), .sc (.int .u32 3144134277), .sc (.int .u32 1013904242), .sc (.int .u32 2773480762), .sc (.int .u32 1359893119), .sc (.int .u32 2600822924), .sc (.int .u32 528734635), .sc (.int .u32 1541459225)]) else none else none
theorem e36 (f : Nat) (nl fl : Bool) (l : List PV) (k : KR) : JJ tau F36 Try.f36 (Try.f36.body.get!) (Jwx (JeR f) (JeS f)) [] 0 [.ro 29 nl fl l] [] k = g36 f nl fl l k := by kernel_rfl
theorem JM8 (f : Nat) : Jf (Try.f36.body.get!) (Jwx (JeR f) (JeS f)) = [.l JoS JeP N36 (JeR f), .l JoT JeQ N36 (JeS f)] := by kernel_rfl
theorem JM9 (f : Nat) : ∀ q ∈ Jf (Try.f36.body.get!) (Jwx (JeR f) (JeS f)), q.Ok tau Try.prog 0 := by rw [JM8 f]; exact JL (JHT f) (JL (JHU f) (fun _ h => nomatch h))
theorem JHV : Try.prog.funcs[36]? = some Try.f36 := by kernel_rfl
theorem JHW : Try.f36.body = some (Try.f36.body.get!) := by kernel_rfl
theorem JHX : Enters Try.prog 36 := enters_of JHV (by kernel_rfl) JHW
-- FN sha.Sum
theorem Jgx : iv.length = 8 := rfl
theorem Jze (P : List Int) (m : Nat) (hP : P.length = 64 * m) (f : Nat) (k0 : List PV -> List PV -> OR) (a : List PV) : ∀ (d i n : Nat), i + d = m -> d < n ->
  Vg f k0 n (pu .u8 (P.drop (64 * i))) a (pu .u32 (XW iv P i)) = k0 a (pu .u32 (XW iv P m))
 | 0, i, n + 1, h, hn => by
   obtain rfl : i = m := by omega
   have hl : (P.drop (64 * i)).length = 0 := by rw [List.length_drop]; omega
   simp only [Vg, Jba, JI, hl]
   exact Jd (by decide)
 | d + 1, i, n + 1, h, hn => by
   have hl : 64 <= (P.drop (64 * i)).length := by rw [List.length_drop]; omega
   have hf := Xx iv P Jgx i
   simp only [Vg, Jba, JI, Yd, JO, hf, Q9]
   refine (Ja (by simp; omega)).trans ?_
   refine (Ja (by simp at hl ⊢; omega)).trans ?_
   refine (Ja (by simp at hl ⊢; omega)).trans ?_
   refine (Ja (by simp at hl ⊢; omega)).trans ?_
   rw [List.take_of_length_le (Nat.le_refl _), Jog, List.drop_drop]
   have := Jze P m hP f k0 a d (i + 1) n (by omega) (by omega)
   rw [show 64 * i + 64 = 64 * (i + 1) from by omega]
   exact this
theorem Jzf (s : List Int) (hs : s.length = 8) (f : Nat) (k0 : List PV -> List PV -> OR) (a : List PV) (t : List Int) (ht : t.length = 32) : ∀ (d i n : Nat), i + d = 32 -> d < n ->
  Vh f k0 n (i : Int) a (pu .u32 s) (pu .u8 (QN (ZH s) t i)) = k0 a (pu .u8 (Jr9 s))
 | 0, i, n + 1, h, hn => by
   obtain rfl : i = 32 := by omega
   simp only [Vh, Jbc]
   refine (Jd (by decide)).trans ?_
   have := WV (ZH s) t
   rw [ht] at this; rw [this]; rfl
 | d + 1, i, n + 1, h, hn => by
   have e1 : ((i : Int)).tdiv 4 = ((i / 4 : Nat) : Int) := by rw [Int.tdiv_eq_ediv_of_nonneg (by omega)]; omega
   have e2 : ((i : Int)).tmod 4 = ((i % 4 : Nat) : Int) := by rw [Int.tmod_eq_emod_of_nonneg (by omega)]; omega
   have h1 : IntKind.i64.wrap ((i : Int) + 1) = ((i + 1 : Nat) : Int) := by rw [wrap_i64 (by omega) (by omega)]; omega
   have h2 : IntKind.i64.wrap ((i / 4 : Nat) : Int) = ((i / 4 : Nat) : Int) := wrap_i64 (by omega) (by omega)
   have h3 : IntKind.i64.wrap (8 * ((i % 4 : Nat) : Int)) = 8 * ((i % 4 : Nat) : Int) := wrap_i64 (by omega) (by omega)
   have h4 : IntKind.i64.wrap (24 - 8 * ((i % 4 : Nat) : Int)) = 24 - 8 * ((i % 4 : Nat) : Int) := wrap_i64 (by omega) (by omega)
   have g1 : ((i : Int)).toNat = i := by omega
   have g2 : (((i / 4 : Nat) : Int)).toNat = i / 4 := by omega
   have c0 : decide ((i : Int) < 32) = true := by simp; omega
   have c1 : (decide (0 <= ((i / 4 : Nat) : Int)) && decide (((i / 4 : Nat) : Int) < zi 8) && true) = true := by simp; omega
   have c2 : (decide (0 <= 24 - 8 * ((i % 4 : Nat) : Int)) && true) = true := by simp; omega
   have c3 : (decide (0 <= (i : Int)) && decide ((i : Int) < zi 32) && true) = true := by simp; omega
   simp only [Vh, Jbc, e1, e2, h1, h2, h3, h4, g1, g2, Ye, c0, c1, c2, c3, Vd hs (i / 4) (by omega), PV.isInt, PV.int, decide_true, Bool.and_true, cond_true, Xp]
   have := Jzf s hs f k0 a t ht d (i + 1) n (by omega) (by omega)
   rw [← QM (ZH s) t i (by omega)] at this
   exact this
theorem JCn (nl fl : Bool) (l : List PV) (k : KR) (hl : l.all (PV.isRo 5) = true) (hn : l.length <= 140737488355328) (hi : Jl .u8 (JH l) = true) (hs : (JH l).length <= 140737488355000) :
  g36 ((Q1 (JD (JH l))).length / 64 + 100) nl fl l k = k ⟨.ar 37 (pu .u8 (JX (JD (JH l)))), [], []⟩ := by
 refine (Ja (by simp only [hl, Bool.true_and, Bool.and_eq_true, decide_eq_true_eq]; omega)).trans ?_
 refine (Ja (by simp only [hi, Bool.true_and, Bool.and_eq_true, decide_eq_true_eq, true_and]; exact hs)).trans ?_
 rw [Yd, List.take_of_length_le (Nat.le_refl _)]
 generalize hP : Q1 (JD (JH l)) = P
 have hlen : P.length = 64 * (P.length / 64) := by rw [← hP]; exact JcY _
 have h0 : ∀ k0 a, Vg (P.length / 64 + 100) k0 (P.length / 64 + 100) (pu .u8 P) a (pu .u32 iv) = k0 a (pu .u32 (XW iv P (P.length / 64))) := fun k0 a => Jze P (P.length / 64) hlen _ k0 a (P.length / 64) 0 _ (by omega) (by omega)
 have h1 : ∀ k0 a s, s.length = 8 -> Vh (P.length / 64 + 100) k0 (P.length / 64 + 100) 0 a (pu .u32 s) (pu .u8 (List.replicate 32 0)) = k0 a (pu .u8 (Jr9 s)) := by
  intro k0 a s hs
  have := Jzf s hs (P.length / 64 + 100) k0 a (List.replicate 32 0) (by simp) 32 0 (P.length / 64 + 100) (by omega) (by omega)
  rw [Wc] at this
  exact this
 refine (h0 _ _).trans ((h1 _ _ _ (Xx iv P Jgx _)).trans ?_)
 rw [Jdp, Joz, hP]
def JmF : Jz
 | [.ro 29 nl fl l], [], k => bif (l.all (PV.isRo 5) && decide (l.length <= 140737488355328)) && (Jl .u8 (JH l) && decide ((JH l).length <= 140737488355000)) then k ⟨.ar 37 (pu .u8 (JX (JD (JH l)))), [], []⟩ else none
 | _, _, _ => none
def JCo : Sig := { own := [], run := JmF }
theorem Jzg : Jc tau Try.prog 36 JCo := Jhg Jn JmA Jo JHV JHW (fun n => Jwx (JeR n) (JeS n)) [] 0 [] JmF (fun n => JM9 n) fun xs es k res hr => by
 unfold JmF at hr
 split at hr
 · rename_i nl fl l
   obtain ⟨hc, hr⟩ := Jv hr
   simp only [Bool.and_eq_true, decide_eq_true_eq] at hc
   refine ⟨rfl, (Q1 (JD (JH l))).length / 64 + 100, 0, (e36 _ _ _ _ _).trans ?_⟩
   rw [JCn nl fl l k hc.1.1 hc.1.2 hc.2.1 hc.2.2]; exact hr
 · cases hr
def F13 : Fns := Jt 36 JCo (Jt 35 JGT (F0))
theorem JCp : Jq tau Try.prog F13 := ((Js).add JyU JBr).add Jzg JHX
def JCq : Nm := [(2, .any), (3, .any), (4, .any), (5, .any), (22, .any), (23, .any), (24, .any)]
def Wo : An := (.seq .leaf (.seq (.cond .leaf .leaf) (.seq (.block none (.seq .leaf .leaf)) .leaf)))
def JCr : An := (.seq .leaf (.seq .leaf (.seq (.seq .leaf (.block none (.loop JCq Wo))) (.seq .leaf .leaf))))
abbrev Vi (y0 : Int) := (fTo FloatKind.f64 (fOf FloatKind.f64 y0))
abbrev GH (id_N : Int) := (fTo FloatKind.f64 (fOf FloatKind.f64 id_N))
abbrev Jcl (y1 : Int) := (fTo FloatKind.f64 (fOf FloatKind.f64 y1))
abbrev JeT (y2 : Int) := (fTo FloatKind.f64 (fOf FloatKind.f64 y2))
abbrev Jh9 (y0 : Int) (id_N : Int) (y1 : Int) (y2 : Int) := (JH [PV.ro 5 false false (pu IntKind.u8 (QB ((Vi y0).getD 0)) ++ pu IntKind.u8 (QB ((GH id_N).getD 0)) ++ pu IntKind.u8 (QB ((Jcl y1).getD 0)) ++ pu IntKind.u8 (QB ((JeT y2).getD 0)))])
abbrev JeU := (2 ^ (IntKind.i64.bits - 1) - Nat.succ 0)
def g13 (f : Nat) (y0 id_N y1 y2 : Int) (k : KR) : OR := bif (Vi y0).isSome && decide (Int.negSucc 9223372036854775807 <= (Vi y0).getD 0) && decide ((Vi y0).getD 0 <= Int.ofNat JeU) && true then bif (GH id_N).isSome && decide (Int.negSucc 9223372036854775807 <= (GH id_N).getD 0) && decide ((GH id_N).getD 0 <= Int.ofNat JeU) && true then bif slB false (pu IntKind.u8 (QB ((Vi y0).getD 0))) then bif (Jcl y1).isSome && decide (Int.negSucc 9223372036854775807 <= (Jcl y1).getD 0) && decide ((Jcl y1).getD 0 <= Int.ofNat JeU) && true then bif slB false (pu IntKind.u8 (QB ((Vi y0).getD 0)) ++ pu IntKind.u8 (QB ((GH id_N).getD 0))) then bif (JeT y2).isSome && decide (Int.negSucc 9223372036854775807 <= (JeT y2).getD 0) && decide ((JeT y2).getD 0 <= Int.ofNat JeU) && true then bif slB false (pu IntKind.u8 (QB ((Vi y0).getD 0)) ++ pu IntKind.u8 (QB ((GH id_N).getD 0)) ++ pu IntKind.u8 (QB ((Jcl y1).getD 0))) then bif Jl IntKind.u8 (Jh9 y0 id_N y1 y2) && decide ((Jh9 y0 id_N y1 y2).length <= 140737488355000) then k (Res.mk (.st 39 [.st 34 [.sc (.int .i64 y0), .sc (.int .i64 id_N)], .sc (.string (ByteArray.mk #[])), .ro 42 false false [.st 42 [.sc (.int .i64 y1), .sc (.int .i64 y2)]], .sc (.int .i64 0), .ar 37 (pu IntKind.u8 (JX (JD (Jh9 y0 id_N y1 y2))))]) [] []) else none else none else none else none else none else none else none else none
theorem e13 (f : Nat) (y0 id_N y1 y2 : Int) (k : KR) : JJ tau F13 Try.f13 (Try.f13.body.get!) JCr [.ro] 4 [.st 34 [.sc (.int .i64 y0), .sc (.int .i64 id_N)], .st 42 [.sc (.int .i64 y1), .sc (.int .i64 y2)]] [] k = g13 f y0 id_N y1 y2 k := by kernel_rfl
theorem JNa (f : Nat) : ∀ q ∈ Jf (Try.f13.body.get!) JCr, q.Ok tau Try.prog 0 := Jw (by kernel_rfl)
theorem JHY : Try.prog.funcs[13]? = some Try.f13 := by kernel_rfl
theorem JHZ : Try.f13.body = some (Try.f13.body.get!) := by kernel_rfl
theorem JH0 : Enters Try.prog 13 := enters_of JHY (by kernel_rfl) JHZ
-- FN wavelet.New
theorem JwA : (List.range 128).all (fun i => fTo .f64 (fOf .f64 (i : Int)) == some (i : Int)) = true := by kernel_rfl
theorem VO {x : Int} (h0 : 0 <= x) (h1 : x < 128) : fTo .f64 (fOf .f64 x) = some x := by
 have := List.all_eq_true.1 JwA x.toNat (List.mem_range.2 (by omega))
 rw [show ((x.toNat : Nat) : Int) = x from by omega] at this
 simpa using this
structure Nw4 where
 (a b c d : Int)
def Vj : Nw4 -> Bool := hid fun x => (decide (0 <= x.a) && decide (x.a < 128)) && (decide (0 <= x.b) && decide (x.b < 128)) && (decide (0 <= x.c) && decide (x.c < 128)) && (decide (0 <= x.d) && decide (x.d < 128))
def Jia (x : Nw4) : List Int := QB x.a ++ QB x.b ++ QB x.c ++ QB x.d
def Jib : Nw4 -> List Int := hid fun x => JX (Jia x)
theorem Jdv (x : Nw4) : Jib x = JX (Jia x) := by rw [Jib, hid_eq]
def wnP (h n d u : Int) (s : List Int) : PV := .st 39 [.st 34 [.sc (.int .i64 h), .sc (.int .i64 n)], .sc (.string (ByteArray.mk #[])), .ro 42 false false [.st 42 [.sc (.int .i64 d), .sc (.int .i64 u)]], .sc (.int .i64 0), .ar 37 (pu .u8 s)]
theorem JCs (h n d u : Int) (hs : Vj ⟨h, n, d, u⟩ = true) (k : KR) : g13 0 h n d u k = k ⟨wnP h n d u (Jib ⟨h, n, d, u⟩), [], []⟩ := by
 rw [Vj, hid_eq] at hs
 simp only [Bool.and_eq_true, decide_eq_true_eq] at hs
 have c : ∀ x : Int, 0 <= x -> x < 128 -> (decide (Int.negSucc 9223372036854775807 <= x) && decide (x <= Int.ofNat (2 ^ (IntKind.i64.bits - 1) - Nat.succ 0))) = true := by
   intro x h0 h1
   have e1 : Int.ofNat (2 ^ (IntKind.i64.bits - 1) - Nat.succ 0) = 9223372036854775807 := by decide
   rw [e1]; simp; omega
 have c1 : ∀ x : Int, 0 <= x -> x < 128 -> decide (Int.negSucc 9223372036854775807 <= x) = true := fun x h0 h1 => by have := c x h0 h1; simp only [Bool.and_eq_true] at this; exact this.1
 have c2 : ∀ x : Int, 0 <= x -> x < 128 -> decide (x <= Int.ofNat (2 ^ (IntKind.i64.bits - 1) - Nat.succ 0)) = true := fun x h0 h1 => by have := c x h0 h1; simp only [Bool.and_eq_true] at this; exact this.2
 rw [Jdv]
 unfold g13 JeU Jh9 JeT Jcl GH Vi
 simp only [VO hs.1.1.1.1 hs.1.1.1.2, VO hs.1.1.2.1 hs.1.1.2.2, VO hs.1.2.1 hs.1.2.2, VO hs.2.1 hs.2.2, Option.isSome_some, Option.getD_some, c1 _ hs.1.1.1.1 hs.1.1.1.2, c1 _ hs.1.1.2.1 hs.1.1.2.2, c1 _ hs.1.2.1 hs.1.2.2, c1 _ hs.2.1 hs.2.2, c2 _ hs.1.1.1.1 hs.1.1.1.2, c2 _ hs.1.1.2.1 hs.1.1.2.2, c2 _ hs.1.2.1 hs.1.2.2, c2 _ hs.2.1 hs.2.2,
   Q9, JO, JI, XJ, JaS, PV.els, List.append_nil, List.nil_append, List.length_append, Z7, Bool.and_true, Bool.true_and, cond_true, Nat.reduceAdd, Nat.reduceLeDiff, decide_true]
 have sl : ∀ l : List PV, l.length <= 1000 -> slB false l = true := fun l h => Xw.2 ⟨fun h => (by cases h), by omega⟩
 refine (Ja (sl _ (by simp))).trans ((Ja (sl _ (by simp))).trans ((Ja (sl _ (by simp))).trans ((Ja ?_).trans ?_)))
 · simp only [Q6, JO]; rfl
 simp only [← J9, Q9]
 rfl
def JmG : Jz
 | [.st 34 [.sc (.int .i64 h), .sc (.int .i64 n)], .st 42 [.sc (.int .i64 d), .sc (.int .i64 u)]], [], k => bif Vj ⟨h, n, d, u⟩ then k ⟨.st 39 [.st 34 [.sc (.int .i64 h), .sc (.int .i64 n)], .sc (.string (ByteArray.mk #[])), .ro 42 false false [.st 42 [.sc (.int .i64 d), .sc (.int .i64 u)]], .sc (.int .i64 0), .ar 37 (pu .u8 (Jib ⟨h, n, d, u⟩))], [], []⟩ else none
 | _, _, _ => none
def JCt : Sig := { own := [], run := JmG }
theorem Jzh : Jc tau Try.prog 13 JCt := Jc.mk' fun xs es k res hl hr => by
 change JmG xs es k = some res at hr
 unfold JmG at hr
 split at hr
 · rename_i h n d u
   obtain ⟨hc, hr2⟩ := Jv hr
   exact J2 Jn JCp Jo JHY JHZ JCr [.ro] 0 4 (JNa 0) hl rfl ((e13 0 h n d u k).trans ((JCs h n d u hc k).trans hr2))
 · cases hr
def F9 : Fns := Jt 13 JCt (F0)
theorem JH1 : Jq tau Try.prog F9 := (Js).add Jzh JH0
def an9 : An := (.seq .leaf (.seq .leaf (.seq .leaf .leaf)))
def g9 (f : Nat) (k : KR) : OR := bif Vj (Nw4.mk 1 0 1 2) then k (Res.mk (.sc (.bool true)) [] []) else none
theorem e9 (f : Nat) (k : KR) : JJ tau F9 Try.f9 (Try.f9.body.get!) an9 [.ro] 0 [] [] k = g9 f k := by kernel_rfl
theorem ia9 (f : Nat) : ∀ q ∈ Jf (Try.f9.body.get!) an9, q.Ok tau Try.prog 0 := Jw (by kernel_rfl)
theorem fo9 : Try.prog.funcs[9]? = some Try.f9 := by kernel_rfl
theorem bo9 : Try.f9.body = some (Try.f9.body.get!) := by kernel_rfl
theorem en9 : Enters Try.prog 9 := enters_of fo9 (by kernel_rfl) bo9
def JCu : Jz
 | [], [], k => g9 0  k
 | _, _, _ => none
def s9 : Sig := { own := [], run := JCu }
theorem ok9 : Jc tau Try.prog 9 s9 := JN Jn JH1 Jo fo9 bo9 an9 [.ro] 0 [] JCu (ia9 0) fun xs es k res hr => by
 unfold JCu at hr
 split at hr
 · exact ⟨rfl, 0, (e9 0  _).trans hr⟩
 · cases hr
def F65 : Fns := Jt 76 JFJ (F0)
theorem JCv : Jq tau Try.prog F65 := (Js).add JFK JL5
def JCw : An := (.seq .leaf (.seq .leaf .leaf))
def g65 (f : Nat) (b_z b_f : Bool) (b : List PV) (k : KR) : OR := bif slB b_z b then k (Res.mk (.ptr 16 []) [] [.box false 166 (PV.st 166 [.ro 5 b_z b_z b, .sc (.int .i64 0)])]) else none
theorem e65 (f : Nat) (b_z b_f : Bool) (b : List PV) (k : KR) : JJ tau F65 Try.f65 (Try.f65.body.get!) JCw [.any] 0 [.ro 5 b_z b_f b] [] k = g65 f b_z b_f b k := by kernel_rfl
theorem JNb (f : Nat) : ∀ q ∈ Jf (Try.f65.body.get!) JCw, q.Ok tau Try.prog 0 := Jw (by kernel_rfl)
theorem JH2 : Try.prog.funcs[65]? = some Try.f65 := by kernel_rfl
theorem JH3 : Try.f65.body = some (Try.f65.body.get!) := by kernel_rfl
theorem JH4 : Enters Try.prog 65 := enters_of JH2 (by kernel_rfl) JH3
def JsN : Jz
 | [.ro 5 b_z b_f b], [], k => g65 0 b_z b_f b k
 | _, _, _ => none
def s65 : Sig := { own := [], run := JsN }
theorem JH5 : Jc tau Try.prog 65 s65 := JN Jn JCv Jo JH2 JH3 JCw [.any] 0 [] JsN (JNb 0) fun xs es k res hr => by
 unfold JsN at hr
 split at hr
 · exact ⟨rfl, 0, (e65 0 _ _ _  _).trans hr⟩
 · cases hr
def F67 : Fns := F0
theorem JCx : Jq tau Try.prog F67 := Js
def JCy : An := (.seq .leaf (.seq (.seq .leaf (.cond (.seq .leaf .leaf) .leaf)) (.seq .leaf .leaf)))
def g67 (f : Nat) (y0 y1 : Bool) (r_b : List PV) (r_e : Int) (k : KR) : OR := bif r_e == 0 then bif decide (zi r_b.length > 0) then k (Res.mk (.sc (.int .i64 9)) [.box false 166 (PV.st 166 [.ro 5 y0 y1 r_b, .sc (.int .i64 r_e)])] []) else k (Res.mk (.sc (.int .i64 r_e)) [.box false 166 (PV.st 166 [.ro 5 y0 y1 r_b, .sc (.int .i64 r_e)])] []) else k (Res.mk (.sc (.int .i64 r_e)) [.box false 166 (PV.st 166 [.ro 5 y0 y1 r_b, .sc (.int .i64 r_e)])] [])
theorem e67 (f : Nat) (y0 y1 : Bool) (r_b : List PV) (r_e : Int) (k : KR) : JJ tau F67 Try.f67 (Try.f67.body.get!) JCy [.ro] 0 [.ptr 0 []] [.box false 166 (.st 166 [.ro 5 y0 y1 r_b, .sc (.int .i64 r_e)])] k = g67 f y0 y1 r_b r_e k := by kernel_rfl
theorem JNc (f : Nat) : ∀ q ∈ Jf (Try.f67.body.get!) JCy, q.Ok tau Try.prog 1 := Jw (by kernel_rfl)
theorem JH6 : Try.prog.funcs[67]? = some Try.f67 := by kernel_rfl
theorem JH7 : Try.f67.body = some (Try.f67.body.get!) := by kernel_rfl
theorem JH8 : Enters Try.prog 67 := enters_of JH6 (by kernel_rfl) JH7
def JsO : Jz
 | [.ptr 0 []], [.box false 166 (.st 166 [.ro 5 y0 y1 r_b, .sc (.int .i64 r_e)])], k => g67 0 y0 y1 r_b r_e k
 | _, _, _ => none
def s67 : Sig := { own := [], run := JsO }
theorem JH9 : Jc tau Try.prog 67 s67 := JN Jn JCx Jo JH6 JH7 JCy [.ro] 1 [] JsO (JNc 0) fun xs es k res hr => by
 unfold JsO at hr
 split at hr
 · exact ⟨rfl, 0, (e67 0 _ _ _ _  _).trans hr⟩
 · cases hr
def JIa : Fns := F0
theorem JwB : Jq tau Try.prog JIa := Js
def JsP : An := (.seq .leaf (.seq (.seq .leaf (.cond (.seq .leaf .leaf) .leaf)) (.seq .leaf .leaf)))
def JIb (f : Nat) (s_z s_f : Bool) (s : List PV) (k : KR) : OR := bif s_z then k (Res.mk (.ro 113 true true []) [] []) else bif Je (0 + s.length) 32 && true then k (Res.mk (.ro 113 false false (List.take (0 + s.length) s)) [] []) else none
theorem JNd (f : Nat) (s_z s_f : Bool) (s : List PV) (k : KR) : JJ tau JIa Try.f120 (Try.f120.body.get!) JsP [.ro] 0 [.ro 113 s_z s_f s] [] k = JIb f s_z s_f s k := by kernel_rfl
theorem JIc (f : Nat) : ∀ q ∈ Jf (Try.f120.body.get!) JsP, q.Ok tau Try.prog 0 := Jw (by kernel_rfl)
theorem Jzi : Try.prog.funcs[120]? = some Try.f120 := by kernel_rfl
theorem Jzj : Try.f120.body = some (Try.f120.body.get!) := by kernel_rfl
theorem JId : Enters Try.prog 120 := enters_of Jzi (by kernel_rfl) Jzj
def JmH : Jz
 | [.ro 113 s_z s_f s], [], k => JIb 0 s_z s_f s k
 | _, _, _ => none
def JIe : Sig := { own := [], run := JmH }
theorem JIf : Jc tau Try.prog 120 JIe := JN Jn JwB Jo Jzi Jzj JsP [.ro] 0 [] JmH (JIc 0) fun xs es k res hr => by
 unfold JmH at hr
 split at hr
 · exact ⟨rfl, 0, (JNd 0 _ _ _  _).trans hr⟩
 · cases hr
def N84 : Nat := 50
def F84 : Fns := Jt 120 JIe (Jt 107 JAG (Jt 88 Jvv (Jt 83 JAP (Jt 82 s82 (Jt 81 s81 (Jt 67 s67 (Jt 65 s65 (F0))))))))
theorem JsQ : Jq tau Try.prog F84 := ((((((((Js).add JH5 JH4).add JH9 JH8).add JFz JFy).add JFD JFC).add Jyt JFG).add Jrq JAr).add Jyn Jym).add JIf JId
def Jgy : Code := Qd (Try.f84.body.get!) [1, 1, 1, 1, 1, 1, 0, 1, 0, 0]
def Zk : Nm := [(4, .any), (5, .any), (6, .any), (7, .any), (9, .own), (25, .any), (26, .any)]
def Vk : Nm := [(4, .any), (9, .any)]
def Jj1 : An := (.seq .leaf (.seq (.cond .leaf .leaf) (.seq (.block none .leaf) .leaf)))
def JwC (r0 : Qr) : An := (.seq .leaf (.seq .leaf (.seq .leaf (.seq .leaf (.seq (.seq .leaf (.cond (.seq .leaf .leaf) .leaf)) (.seq .leaf (.seq (.seq .leaf (.block none (.sum Zk N84 r0))) (.seq .leaf (.seq (.seq .leaf (.cond .leaf .leaf)) (.seq (.seq .leaf (.cond (.seq .leaf .leaf) .leaf)) (.seq .leaf .leaf)))))))))))
def Jbe (f : Nat) (rc : Nat -> Int -> Int -> Bool -> Bool -> List PV -> Int -> Bool -> List PV -> OR) (k0 : Nat -> Bool -> Bool -> List PV -> Int -> Bool -> List PV -> OR) (v0 : Nat) (v1 v2 : Int) (v3 v4 : Bool) (v5 : List PV) (v6 : Int) (v7 : Bool) (v8 : List PV) : OR := bif decide (v2 < v1) then bif (!v3 || v4) && true && byB v5 then bif (!v3 || v4) && true && byB (Jb 1 (RS.mk v5 v6)).b then bif (!v3 || v4) && byB (Jb 8 (Jb 1 (RS.mk v5 v6))).b then bif Je (v0 + 1) 32 && true then rc (v0 + 1) v1 (IntKind.i64.wrap (v2 + 1)) v3 v4 ((Qc (Jb 8 (Jb 1 (RS.mk v5 v6)))).b) ((Qc (Jb 8 (Jb 1 (RS.mk v5 v6)))).e) (v7 && false) (List.take v0 v8 ++ [.st 113 [.sc (.int .i64 (JA 1 (RS.mk v5 v6))), .sc (.int .i64 (JA 8 (Jb 1 (RS.mk v5 v6)))), .sc (.string (JS (Jb 8 (Jb 1 (RS.mk v5 v6)))))]]) else none else none else none else none else k0 v0 v3 v4 v5 v6 v7 v8
def YA (f : Nat) (k0 : Nat -> Bool -> Bool -> List PV -> Int -> Bool -> List PV -> OR) : Nat -> Nat -> Int -> Int -> Bool -> Bool -> List PV -> Int -> Bool -> List PV -> OR
 | 0, _, _, _, _, _, _, _, _, _ => none
 | n + 1, v0, v1, v2, v3, v4, v5, v6, v7, v8 => Jbe f (YA f k0 n) k0 v0 v1 v2 v3 v4 v5 v6 v7 v8
theorem JwD (f : Nat) (k : Kont) (n v0 : Nat) (v1 v2 : Int) (v3 v4 : Bool) (v5 : List PV) (v6 : Int) (v7 : Bool) (v8 : List PV) : Jy tau 0 Zk (fun s k => ev tau F84 0 0 Jgy (Jj1 ) s k) (n + 1) (Ji Zk N84 [.ptr 816 [], PV.fn (Fn.func 82) [.ptr 816 []] [], PV.fn (Fn.func 81) [.ptr 816 []] [], PV.fn (Fn.func 83) [.ptr 816 []] [], .ow 113 817 [] 0 v0 none, .sc (.int .i64 v1), .sc (.int .i64 v2)] [(816, .box false 166 (PV.st 166 [.ro 5 v3 v4 v5, .sc (.int .i64 v6)])), (817, .vec false 113 v7 v8)]) (JG tau 0 Vk k) = Jbe f (fun v0 v1 v2 v3 v4 v5 v6 v7 v8 => Jy tau 0 Zk (fun s k => ev tau F84 0 0 Jgy (Jj1 ) s k) n (Ji Zk N84 [.ptr 816 [], PV.fn (Fn.func 82) [.ptr 816 []] [], PV.fn (Fn.func 81) [.ptr 816 []] [], PV.fn (Fn.func 83) [.ptr 816 []] [], .ow 113 817 [] 0 v0 none, .sc (.int .i64 v1), .sc (.int .i64 v2)] [(816, .box false 166 (PV.st 166 [.ro 5 v3 v4 v5, .sc (.int .i64 v6)])), (817, .vec false 113 v7 v8)]) (JG tau 0 Vk k)) (fun x0 x1 x2 x3 x4 x5 x6 => k (Ex.exit 0) (Ji Vk N84 [.ptr 816 [], .ow 113 817 [] 0 x0 none] [(816, .box false 166 (PV.st 166 [.ro 5 x1 x2 x3, .sc (.int .i64 x4)])), (817, .vec false 113 x5 x6)])) v0 v1 v2 v3 v4 v5 v6 v7 v8 := by kernel_rfl
theorem JoW (f : Nat) (k : Kont) : ∀ (n v0 : Nat) (v1 v2 : Int) (v3 v4 : Bool) (v5 : List PV) (v6 : Int) (v7 : Bool) (v8 : List PV), Jy tau 0 Zk (fun s k => ev tau F84 0 0 Jgy (Jj1 ) s k) n (Ji Zk N84 [.ptr 816 [], PV.fn (Fn.func 82) [.ptr 816 []] [], PV.fn (Fn.func 81) [.ptr 816 []] [], PV.fn (Fn.func 83) [.ptr 816 []] [], .ow 113 817 [] 0 v0 none, .sc (.int .i64 v1), .sc (.int .i64 v2)] [(816, .box false 166 (PV.st 166 [.ro 5 v3 v4 v5, .sc (.int .i64 v6)])), (817, .vec false 113 v7 v8)]) (JG tau 0 Vk k) = YA f (fun x0 x1 x2 x3 x4 x5 x6 => k (Ex.exit 0) (Ji Vk N84 [.ptr 816 [], .ow 113 817 [] 0 x0 none] [(816, .box false 166 (PV.st 166 [.ro 5 x1 x2 x3, .sc (.int .i64 x4)])), (817, .vec false 113 x5 x6)])) n v0 v1 v2 v3 v4 v5 v6 v7 v8 | 0, _, _, _, _, _, _, _, _, _ => rfl | n + 1, v0, v1, v2, v3, v4, v5, v6, v7, v8 => (JwD f k n v0 v1 v2 v3 v4 v5 v6 v7 v8).trans (congrArg (fun r => Jbe f r (fun x0 x1 x2 x3 x4 x5 x6 => k (Ex.exit 0) (Ji Vk N84 [.ptr 816 [], .ow 113 817 [] 0 x0 none] [(816, .box false 166 (PV.st 166 [.ro 5 x1 x2 x3, .sc (.int .i64 x4)])), (817, .vec false 113 x5 x6)])) v0 v1 v2 v3 v4 v5 v6 v7 v8) (by funext v0 v1 v2 v3 v4 v5 v6 v7 v8; exact JoW f k n v0 v1 v2 v3 v4 v5 v6 v7 v8))
def JeV (f : Nat) : List PV -> List (Nat × Ent) -> Kont -> OR
 | [.ptr 816 [], PV.fn (Fn.func 82) [.ptr 816 []] [], PV.fn (Fn.func 81) [.ptr 816 []] [], PV.fn (Fn.func 83) [.ptr 816 []] [], .ow 113 817 [] 0 v0 none, .sc (.int .i64 v1),
 PV.sc
  (Value.int IntKind.i64
   v2)], [(816, .box false 166 (PV.st 166 [.ro 5 v3 v4 v5, .sc (.int .i64 v6)])),
 (817,
  Ent.vec false 113 v7
   v8)], k => YA f (fun x0 x1 x2 x3 x4 x5 x6 => k (Ex.exit
 0) (Ji Vk N84 [.ptr 816 [],
 PV.ow 113 817 [] 0 x0 none] [(816, .box false 166 (PV.st 166 [.ro 5 x1 x2 x3, .sc (.int .i64 x4)])), (817, .vec false 113 x5 x6)])) f v0 v1 v2 v3 v4 v5 v6 v7 v8
 | _, _, _ => none
theorem JCz (f : Nat) : Jf Jgy Jj1 = [] := by kernel_rfl
theorem JCA (f : Nat) : (Item.l Jgy Zk N84 (JeV f)).Ok tau Try.prog 0 := Ju Jn JsQ Jo (x := Jj1) (nm2 := Vk) (Jk _ _ (by rw [JCz f]; intro q hq; cases hq)) fun vs hp k res hr => by
 unfold JeV at hr
 split at hr
 · exact ⟨f, 0, (JoW f _ f _ _ _ _ _ _ _ _ _ ).trans hr⟩
 · cases hr
abbrev W2 := (Res.mk (PV.tup [PV.ro 113 true true [], PV.sc (.int .i64 0)]) [] [])
abbrev Jic := (Res.mk (PV.tup [PV.ro 113 true true [], PV.sc (.int .i64 9)]) [] [])
def g84 (f : Nat) (b_z b_f : Bool) (b : List PV) (k : KR) : OR := bif slB b_z b then bif (!b_z || b_z) && true && byB b then bif decide (JA 1 (RS.mk b 0) > 40) then bif (Jb 1 (RS.mk b 0)).e == 0 then YA f (fun x0_0 _ _ x3_0 x4_0 x5_0 x6_0 => bif x4_0 == 0 then bif decide (zi x3_0.length > 0) then k Jic else bif x4_0 == 0 then bif cOk (List.take x0_0 x6_0) then bif ckO (List.take x0_0 x6_0) != 0 then k (Res.mk (.tup [.ro 113 true true [], .sc (.int .i64 (ckO (List.take x0_0 x6_0)))]) [] []) else bif (Ent.vec false 113 x5_0 x6_0).nil then k W2 else bif Je (0 + (List.take x0_0 x6_0).length) 32 && true then k (Res.mk (.tup [.ro 113 false false (List.take (0 + (List.take x0_0 x6_0).length) (List.take x0_0 x6_0)), .sc (.int .i64 0)]) [] []) else none else none else bif x4_0 != 0 then k (Res.mk (.tup [.ro 113 true true [], .sc (.int .i64 x4_0)]) [] []) else bif (Ent.vec false 113 x5_0 x6_0).nil then k W2 else bif Je (0 + (List.take x0_0 x6_0).length) 32 && true then k (Res.mk (.tup [.ro 113 false false (List.take (0 + (List.take x0_0 x6_0).length) (List.take x0_0 x6_0)), .sc (.int .i64 0)]) [] []) else none else bif x4_0 == 0 then bif cOk (List.take x0_0 x6_0) then bif ckO (List.take x0_0 x6_0) != 0 then k (Res.mk (.tup [.ro 113 true true [], .sc (.int .i64 (ckO (List.take x0_0 x6_0)))]) [] []) else bif (Ent.vec false 113 x5_0 x6_0).nil then k W2 else bif Je (0 + (List.take x0_0 x6_0).length) 32 && true then k (Res.mk (.tup [.ro 113 false false (List.take (0 + (List.take x0_0 x6_0).length) (List.take x0_0 x6_0)), .sc (.int .i64 0)]) [] []) else none else none else bif x4_0 != 0 then k (Res.mk (.tup [.ro 113 true true [], .sc (.int .i64 x4_0)]) [] []) else bif (Ent.vec false 113 x5_0 x6_0).nil then k W2 else bif Je (0 + (List.take x0_0 x6_0).length) 32 && true then k (Res.mk (.tup [.ro 113 false false (List.take (0 + (List.take x0_0 x6_0).length) (List.take x0_0 x6_0)), .sc (.int .i64 0)]) [] []) else none) f (0) (0) (0) b_z b_z ((Jb 1 (RS.mk b 0)).b) (4) true ([]) else YA f (fun x0_1 _ _ x3_1 x4_1 x5_1 x6_1 => bif x4_1 == 0 then bif decide (zi x3_1.length > 0) then k Jic else bif x4_1 == 0 then bif cOk (List.take x0_1 x6_1) then bif ckO (List.take x0_1 x6_1) != 0 then k (Res.mk (.tup [.ro 113 true true [], .sc (.int .i64 (ckO (List.take x0_1 x6_1)))]) [] []) else bif (Ent.vec false 113 x5_1 x6_1).nil then k W2 else bif Je (0 + (List.take x0_1 x6_1).length) 32 && true then k (Res.mk (.tup [.ro 113 false false (List.take (0 + (List.take x0_1 x6_1).length) (List.take x0_1 x6_1)), .sc (.int .i64 0)]) [] []) else none else none else bif x4_1 != 0 then k (Res.mk (.tup [.ro 113 true true [], .sc (.int .i64 x4_1)]) [] []) else bif (Ent.vec false 113 x5_1 x6_1).nil then k W2 else bif Je (0 + (List.take x0_1 x6_1).length) 32 && true then k (Res.mk (.tup [.ro 113 false false (List.take (0 + (List.take x0_1 x6_1).length) (List.take x0_1 x6_1)), .sc (.int .i64 0)]) [] []) else none else bif x4_1 == 0 then bif cOk (List.take x0_1 x6_1) then bif ckO (List.take x0_1 x6_1) != 0 then k (Res.mk (.tup [.ro 113 true true [], .sc (.int .i64 (ckO (List.take x0_1 x6_1)))]) [] []) else bif (Ent.vec false 113 x5_1 x6_1).nil then k W2 else bif Je (0 + (List.take x0_1 x6_1).length) 32 && true then k (Res.mk (.tup [.ro 113 false false (List.take (0 + (List.take x0_1 x6_1).length) (List.take x0_1 x6_1)), .sc (.int .i64 0)]) [] []) else none else none else bif x4_1 != 0 then k (Res.mk (.tup [.ro 113 true true [], .sc (.int .i64 x4_1)]) [] []) else bif (Ent.vec false 113 x5_1 x6_1).nil then k W2 else bif Je (0 + (List.take x0_1 x6_1).length) 32 && true then k (Res.mk (.tup [.ro 113 false false (List.take (0 + (List.take x0_1 x6_1).length) (List.take x0_1 x6_1)), .sc (.int .i64 0)]) [] []) else none) f (0) (0) (0) b_z b_z ((Jb 1 (RS.mk b 0)).b) ((Jb 1 (RS.mk b 0)).e) true ([]) else YA f (fun x0_2 _ _ x3_2 x4_2 x5_2 x6_2 => bif x4_2 == 0 then bif decide (zi x3_2.length > 0) then k Jic else bif x4_2 == 0 then bif cOk (List.take x0_2 x6_2) then bif ckO (List.take x0_2 x6_2) != 0 then k (Res.mk (.tup [.ro 113 true true [], .sc (.int .i64 (ckO (List.take x0_2 x6_2)))]) [] []) else bif (Ent.vec false 113 x5_2 x6_2).nil then k W2 else bif Je (0 + (List.take x0_2 x6_2).length) 32 && true then k (Res.mk (.tup [.ro 113 false false (List.take (0 + (List.take x0_2 x6_2).length) (List.take x0_2 x6_2)), .sc (.int .i64 0)]) [] []) else none else none else bif x4_2 != 0 then k (Res.mk (.tup [.ro 113 true true [], .sc (.int .i64 x4_2)]) [] []) else bif (Ent.vec false 113 x5_2 x6_2).nil then k W2 else bif Je (0 + (List.take x0_2 x6_2).length) 32 && true then k (Res.mk (.tup [.ro 113 false false (List.take (0 + (List.take x0_2 x6_2).length) (List.take x0_2 x6_2)), .sc (.int .i64 0)]) [] []) else none else bif x4_2 == 0 then bif cOk (List.take x0_2 x6_2) then bif ckO (List.take x0_2 x6_2) != 0 then k (Res.mk (.tup [.ro 113 true true [], .sc (.int .i64 (ckO (List.take x0_2 x6_2)))]) [] []) else bif (Ent.vec false 113 x5_2 x6_2).nil then k W2 else bif Je (0 + (List.take x0_2 x6_2).length) 32 && true then k (Res.mk (.tup [.ro 113 false false (List.take (0 + (List.take x0_2 x6_2).length) (List.take x0_2 x6_2)), .sc (.int .i64 0)]) [] []) else none else none else bif x4_2 != 0 then k (Res.mk (.tup [.ro 113 true true [], .sc (.int .i64 x4_2)]) [] []) else bif (Ent.vec false 113 x5_2 x6_2).nil then k W2 else bif Je (0 + (List.take x0_2 x6_2).length) 32 && true then k (Res.mk (.tup [.ro 113 false false (List.take (0 + (List.take x0_2 x6_2).length) (List.take x0_2 x6_2)), .sc (.int .i64 0)]) [] []) else none) f (0) (JA 1 (RS.mk b 0)) (0) b_z b_z ((Jb 1 (RS.mk b 0)).b) ((Jb 1 (RS.mk b 0)).e) true ([]) else none else none
theorem e84 (f : Nat) (b_z b_f : Bool) (b : List PV) (k : KR) : JJ tau F84 Try.f84 (Try.f84.body.get!) (JwC (JeV f)) [.ro, .ro] 0 [.ro 5 b_z b_f b] [] k = g84 f b_z b_f b k := by kernel_rfl
theorem JNe (f : Nat) : Jf (Try.f84.body.get!) (JwC (JeV f)) = [.l Jgy Zk N84 (JeV f)] := by kernel_rfl
theorem JNf (f : Nat) : ∀ q ∈ Jf (Try.f84.body.get!) (JwC (JeV f)), q.Ok tau Try.prog 0 := by rw [JNe f]; exact JL (JCA f) (fun _ h => nomatch h)
theorem JIg : Try.prog.funcs[84]? = some Try.f84 := by kernel_rfl
theorem JIh : Try.f84.body = some (Try.f84.body.get!) := by kernel_rfl
theorem JNg : Enters Try.prog 84 := enters_of JIg (by kernel_rfl) JIh
def F42 : Fns := F0
theorem JCB : Jq tau Try.prog F42 := Js
def JCC : An := (.seq .leaf (.seq .leaf .leaf))
def g42 (f : Nat) (b_z b_f : Bool) (b : List PV) (k : KR) : OR := k (Res.mk (.ptr 16 []) [] [.box false 135 (PV.st 135 [.ro 5 b_z b_f b, .sc (.int .i64 0), .sc (.int .i64 0)])])
theorem e42 (f : Nat) (b_z b_f : Bool) (b : List PV) (k : KR) : JJ tau F42 Try.f42 (Try.f42.body.get!) JCC [.any] 0 [.ro 5 b_z b_f b] [] k = g42 f b_z b_f b k := by kernel_rfl
theorem JNh (f : Nat) : ∀ q ∈ Jf (Try.f42.body.get!) JCC, q.Ok tau Try.prog 0 := Jw (by kernel_rfl)
theorem JIi : Try.prog.funcs[42]? = some Try.f42 := by kernel_rfl
theorem JIj : Try.f42.body = some (Try.f42.body.get!) := by kernel_rfl
theorem JIk : Enters Try.prog 42 := enters_of JIi (by kernel_rfl) JIj
def JsR : Jz
 | [.ro 5 b_z b_f b], [], k => g42 0 b_z b_f b k
 | _, _, _ => none
def s42 : Sig := { own := [], run := JsR }
theorem JIl : Jc tau Try.prog 42 s42 := JN Jn JCB Jo JIi JIj JCC [.any] 0 [] JsR (JNh 0) fun xs es k res hr => by
 unfold JsR at hr
 split at hr
 · exact ⟨rfl, 0, (e42 0 _ _ _  _).trans hr⟩
 · cases hr
def F48 : Fns := F0
theorem JCD : Jq tau Try.prog F48 := Js
def JCE : An := (.seq .leaf (.seq (.seq .leaf (.cond (.seq .leaf .leaf) .leaf)) (.seq .leaf .leaf)))
def g48 (f : Nat) (y0 y1 : Bool) (r_B : List PV) (r_P y2 : Int) (k : KR) : OR := bif y2 == 0 then bif decide (r_P < zi r_B.length) then k (Res.mk (.sc (.int .i64 9)) [.box false 135 (PV.st 135 [.ro 5 y0 y1 r_B, .sc (.int .i64 r_P), .sc (.int .i64 y2)])] []) else k (Res.mk (.sc (.int .i64 y2)) [.box false 135 (PV.st 135 [.ro 5 y0 y1 r_B, .sc (.int .i64 r_P), .sc (.int .i64 y2)])] []) else k (Res.mk (.sc (.int .i64 y2)) [.box false 135 (PV.st 135 [.ro 5 y0 y1 r_B, .sc (.int .i64 r_P), .sc (.int .i64 y2)])] [])
theorem e48 (f : Nat) (y0 y1 : Bool) (r_B : List PV) (r_P y2 : Int) (k : KR) : JJ tau F48 Try.f48 (Try.f48.body.get!) JCE [.ro] 0 [.ptr 0 []] [.box false 135 (.st 135 [.ro 5 y0 y1 r_B, .sc (.int .i64 r_P), .sc (.int .i64 y2)])] k = g48 f y0 y1 r_B r_P y2 k := by kernel_rfl
theorem JNi (f : Nat) : ∀ q ∈ Jf (Try.f48.body.get!) JCE, q.Ok tau Try.prog 1 := Jw (by kernel_rfl)
theorem JIm : Try.prog.funcs[48]? = some Try.f48 := by kernel_rfl
theorem JIn : Try.f48.body = some (Try.f48.body.get!) := by kernel_rfl
theorem JIo : Enters Try.prog 48 := enters_of JIm (by kernel_rfl) JIn
def JsS : Jz
 | [.ptr 0 []], [.box false 135 (.st 135 [.ro 5 y0 y1 r_B, .sc (.int .i64 r_P), .sc (.int .i64 y2)])], k => g48 0 y0 y1 r_B r_P y2 k
 | _, _, _ => none
def s48 : Sig := { own := [], run := JsS }
theorem JIp : Jc tau Try.prog 48 s48 := JN Jn JCD Jo JIm JIn JCE [.ro] 1 [] JsS (JNi 0) fun xs es k res hr => by
 unfold JsS at hr
 split at hr
 · exact ⟨rfl, 0, (e48 0 _ _ _ _ _  _).trans hr⟩
 · cases hr
end
end Go.Proofs.Ythpmachmnoljeaa.Rx
