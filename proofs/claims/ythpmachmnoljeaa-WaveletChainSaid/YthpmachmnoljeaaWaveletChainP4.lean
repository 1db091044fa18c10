/- What the functions of this law compute, and their plain laws. Conditions: none. -/
import Derived.Test.YthpmachmnoljeaaWaveletChainP3
namespace Go.Proofs.Ythpmachmnoljeaa.Rx
noncomputable section
open Go
set_option linter.unusedVariables false
set_option linter.unusedSimpArgs false
set_option maxRecDepth 100000
set_option maxHeartbeats 0
def kpP (k : Int) : PV := .st 113 [.sc (.int .i64 1), .sc (.int .i64 k), .sc (.string (ByteArray.mk #[]))]
def ctP (k : Int) : PV := .st 113 [.sc (.int .i64 3), .sc (.int .i64 k), .sc (.string (ByteArray.mk #[]))]
def ptP (s : ByteArray) : PV := .st 113 [.sc (.int .i64 2), .sc (.int .i64 0), .sc (.string s)]
def abc : ByteArray := ByteArray.mk (Array.mk [97, 98, 99, 100, 101, 102, 103, 104, 105, 106])
def zed : ByteArray := ByteArray.mk (Array.mk [122])
def JfQ (k : Int) : ByteArray := abc.extract 0 k.toNat
theorem JgA {k : Int} (h : 0 <= k) (h2 : k <= 10) : ((JfQ k).size : Int) = k := by
 have : (JfQ k).size = min k.toNat 10 - 0 := by simp [JfQ, abc, ByteArray.size_extract]; rfl
 omega
def mkK (x n : Int) : Int := 1 + IntKind.i64.wrap (x.tdiv 7) % Qh n 9
def mkS (x : Int) : Int := 1 + IntKind.i64.wrap (x.tdiv 7) % 5
theorem Jpg {n : Int} (h : 0 < n) : 0 < Qh n 9 /\ Qh n 9 <= n /\ Qh n 9 <= 9 := by unfold Qh; split <;> omega
def mkE (c : Bool) (n out : Int) : List PV := (bif decide (n > 0) then [kpP n] else []) ++ (bif c && decide (out <= 115) then [ptP zed] else [])
def YT (c : Bool) : Nat -> Int -> Int -> List PV -> List PV
 | 0, n, out, _ => mkE c n out
 | _ + 1, n, out, [] => mkE c n out
 | b + 1, n, out, p :: ps =>
  bif decide (n > 0) then
   (bif p.int % 4 == 0 || p.int % 4 == 1 then kpP (mkK p.int n) :: YT c b (n - mkK p.int n) out ps
   else bif p.int % 4 == 2 then ctP (mkK p.int n) :: YT c b (n - mkK p.int n) (out - mkK p.int n) ps
   else bif decide (out + mkS p.int <= 120) then ptP (JfQ (mkS p.int)) :: YT c b n (out + mkS p.int) ps
   else YT c b n out ps)
  else mkE c n out
def mkC (ns : List PV) : Bool := decide (ns.length > 0) && IntKind.i64.wrap ((ns.getD 0 .top).int.tdiv 3) % 3 == 0
structure MN where
 (n : Int) (ns : List PV)
def WK : MN -> List PV := hid fun x => YT (mkC x.ns) 12 x.n x.n x.ns
theorem JjX (x : MN) : WK x = YT (mkC x.ns) 12 x.n x.n x.ns := by rw [WK, hid_eq]
def Jik : Int -> List PV -> Bool := hid fun n ns => decide (0 <= n) && (decide (n <= 120) && (Jl .i64 ns && decide (ns.length <= 9223372036854775807)))
theorem JjY {n : Int} {ns : List PV} : Jik n ns = true ↔ 0 <= n /\ n <= 120 /\ Jl .i64 ns = true /\ ns.length <= 9223372036854775807 := by
 rw [Jik, hid_eq]; simp only [Bool.and_eq_true, decide_eq_true_eq]
def inC (c : CV) : Int := bif c.kd == 2 then 0 else c.n
def QN (c : CV) : Int := bif c.kd == 1 then c.n else c.s.size
def inL : List PV -> Int
 | [] => 0
 | p :: ps => inC (cv p) + inL ps
def outL : List PV -> Int
 | [] => 0
 | p :: ps => QN (cv p) + outL ps
structure MkOk (n done b : Int) (l : List PV) : Prop where
 cp : ∀ p ∈ l, isCp p = true
 ck : ∀ p ∈ l, ckC (cv p) = 0
 sz : ∀ p ∈ l, (cv p).s.size <= 10
 len : (l.length : Int) <= b
 inn : inL l = n
 out : done + outL l <= 120
 out0 : 0 <= outL l
theorem Jbx {n n' done done' b : Int} {p : PV} {l : List PV} (h : MkOk n' done' b l) (h1 : isCp p = true) (h2 : ckC (cv p) = 0) (h3 : (cv p).s.size <= 10) (h4 : inC (cv p) + n' = n) (h5 : done + QN (cv p) = done') (h6 : 0 <= QN (cv p)) : MkOk n done (b + 1) (p :: l) where
 cp := fun q hq => (List.mem_cons.1 hq).elim (fun e => e ▸ h1) (fun m => h.cp q m)
 ck := fun q hq => (List.mem_cons.1 hq).elim (fun e => e ▸ h2) (fun m => h.ck q m)
 sz := fun q hq => (List.mem_cons.1 hq).elim (fun e => e ▸ h3) (fun m => h.sz q m)
 len := by have := h.len; simp only [List.length_cons]; omega
 inn := by have := h.inn; simp only [inL]; omega
 out := by have := h.out; simp only [outL]; omega
 out0 := by have := h.out0; simp only [outL]; omega
theorem ZJ {n done b b' : Int} {l : List PV} (h : MkOk n done b l) (hb : b <= b') : MkOk n done b' l := { h with len := by have := h.len; omega }
theorem Jil {done : Int} (h : done <= 120) : MkOk 0 done 0 [] where
 cp := fun q hq => by cases hq
 ck := fun q hq => by cases hq
 sz := fun q hq => by cases hq
 len := by simp
 inn := rfl
 out := by simp only [outL]; omega
 out0 := by simp [outL]
theorem JzG {k : Int} (h : 1 <= k) (h2 : k <= 120) : ckC (cv (kpP k)) = 0 := by
 have e : cv (kpP k) = ⟨1, k, ByteArray.mk #[]⟩ := rfl
 rw [e, Jcc]; unfold Jjp
 have hs : (ByteArray.mk #[]).size = 0 := rfl
 simp only [hs]
 rw [show (decide (k < 1)) = false from decide_eq_false (by omega), show (decide (k > 120)) = false from decide_eq_false (by omega)]; rfl
theorem JJp {k : Int} (h : 1 <= k) (h2 : k <= 120) : ckC (cv (ctP k)) = 0 := by
 have e : cv (ctP k) = ⟨3, k, ByteArray.mk #[]⟩ := rfl
 rw [e, Jcc]; unfold Jjp
 have hs : (ByteArray.mk #[]).size = 0 := rfl
 simp only [hs]
 rw [show (decide (k < 1)) = false from decide_eq_false (by omega), show (decide (k > 120)) = false from decide_eq_false (by omega)]; rfl
theorem JzH {s : ByteArray} (h : 1 <= s.size) (h2 : s.size <= 120) : ckC (cv (ptP s)) = 0 := by
 have e : cv (ptP s) = ⟨2, 0, s⟩ := rfl
 rw [e, Jcc]; unfold Jjp
 rw [show (s.size == 0) = false from beq_false_of_ne (by omega)]
 refine (Jd rfl).trans ((Ja rfl).trans ((Jd rfl).trans (Jd (decide_eq_false (by show ¬ ((s.size : Int) > 120); omega)))))
theorem JmT (c : Bool) {n out : Int} (h : 0 <= n) (h2 : n <= out) (h3 : out <= 120) : MkOk n (out - n) 2 (mkE c n out) := by
 have hz : ∀ {d : Int}, d + 1 <= 120 -> MkOk 0 d 1 [ptP zed] := fun {d} hd =>
  Jbx (n' := 0) (done' := d + 1) (Jil hd) rfl (JzH (by decide) (by decide)) (by show zed.size <= 10; decide) rfl rfl (by decide)
 unfold mkE
 cases hn : decide (n > 0) with
 | true =>
  have hn := of_decide_eq_true hn
  rw [cond_true, List.singleton_append]
  have e : ∀ {b : Int} {l : List PV}, MkOk 0 out b l -> MkOk n (out - n) (b + 1) (kpP n :: l) := fun hl =>
   Jbx hl rfl (JzG (by omega) (by omega)) (by show (0 : Nat) <= 10; omega) (by show n + 0 = n; omega) (by show out - n + n = out; omega) (by show 0 <= n; omega)
  cases hc : (c && decide (out <= 115)) with
  | true => simp only [Bool.and_eq_true, decide_eq_true_eq] at hc; rw [cond_true]; exact e (hz (by omega))
  | false => rw [cond_false]; exact ZJ (e (Jil h3)) (by omega)
 | false =>
  have hn := of_decide_eq_false hn
  have : n = 0 := by omega
  subst this
  rw [cond_false, List.nil_append, Int.sub_zero]
  cases hc : (c && decide (out <= 115)) with
  | true => simp only [Bool.and_eq_true, decide_eq_true_eq] at hc; rw [cond_true]; exact ZJ (hz (by omega)) (by omega)
  | false => rw [cond_false]; exact ZJ (Jil h3) (by omega)
theorem Jtu {x n : Int} (h : 0 < n) : 1 <= mkK x n /\ mkK x n <= n /\ mkK x n <= 9 := by
 obtain ⟨m1, m2, m3⟩ := Jpg h
 have h1 := Int.emod_nonneg (IntKind.i64.wrap (x.tdiv 7)) (show Qh n 9 ≠ 0 by omega)
 have h2 := Int.emod_lt_of_pos (IntKind.i64.wrap (x.tdiv 7)) m1
 unfold mkK; omega
theorem Jtv (x : Int) : 1 <= mkS x /\ mkS x <= 5 := by
 have h1 := Int.emod_nonneg (IntKind.i64.wrap (x.tdiv 7)) (show (5 : Int) ≠ 0 by omega)
 have h2 := Int.emod_lt_of_pos (IntKind.i64.wrap (x.tdiv 7)) (show (0 : Int) < 5 by omega)
 unfold mkS; omega
theorem Jby (c : Bool) : ∀ (b : Nat) (n out : Int) (ns : List PV), 0 <= n -> n <= out -> out <= 120 -> MkOk n (out - n) (b + 2) (YT c b n out ns)
 | 0, n, out, _, h, h2, h3 => ZJ (JmT c h h2 h3) (by omega)
 | b + 1, n, out, [], h, h2, h3 => ZJ (JmT c h h2 h3) (by omega)
 | b + 1, n, out, p :: ps, h, h2, h3 => by
  simp only [YT]
  cases hn : decide (n > 0) with
  | false => rw [cond_false]; exact ZJ (JmT c h h2 h3) (by omega)
  | true =>
   have hn := of_decide_eq_true hn
   obtain ⟨k1, k2, k3⟩ := Jtu (x := p.int) hn
   obtain ⟨s1, s2⟩ := Jtv p.int
   rw [cond_true]
   cases hc : (p.int % 4 == 0 || p.int % 4 == 1) with
   | true =>
    rw [cond_true]
    refine ZJ (Jbx (Jby c b (n - mkK p.int n) out ps (by omega) (by omega) h3) rfl (JzG k1 (by omega)) (by show (0 : Nat) <= 10; omega) (by show mkK p.int n + _ = _; omega) (by show out - n + mkK p.int n = _; omega) (by show 0 <= mkK p.int n; omega)) (by omega)
   | false =>
    rw [cond_false]
    cases hc2 : (p.int % 4 == 2) with
    | true =>
     rw [cond_true]
     refine ZJ (Jbx (Jby c b (n - mkK p.int n) (out - mkK p.int n) ps (by omega) (by omega) (by omega)) rfl (JJp k1 (by omega)) (by show (0 : Nat) <= 10; omega) (by show mkK p.int n + _ = _; omega) (by show out - n + (0 : Int) = _; omega) (by show 0 <= (0 : Int); omega)) (by omega)
    | false =>
     rw [cond_false]
     cases hc3 : decide (out + mkS p.int <= 120) with
     | false => rw [cond_false]; exact ZJ (Jby c b n out ps h h2 h3) (by omega)
     | true =>
      have hc3 := of_decide_eq_true hc3
      have hz := JgA (k := mkS p.int) (by omega) (by omega)
      rw [cond_true]
      refine ZJ (Jbx (Jby c b n (out + mkS p.int) ps (by omega) (by omega) hc3) rfl (JzH (by omega) (by omega)) (by show (JfQ (mkS p.int)).size <= 10; omega) (by show (0 : Int) + n = n; omega) (by show out - n + ((JfQ (mkS p.int)).size : Int) = _; omega) (by show 0 <= ((JfQ (mkS p.int)).size : Int); omega)) (by omega)
theorem Jtw {n : Int} (ns : List PV) (h : 0 <= n) (h2 : n <= 120) : MkOk n 0 14 (WK ⟨n, ns⟩) := by
 rw [JjX]
 have := Jby (mkC ns) 12 n n ns h (by omega) h2
 rwa [Int.sub_self] at this
theorem Jtx : ∀ {l : List PV}, (∀ p ∈ l, ckC (cv p) = 0) -> ckL l = 0
 | [], _ => rfl
 | p :: r, h => by
  simp only [ckL]
  rw [h p List.mem_cons_self]
  exact Jtx fun q hq => h q (List.mem_cons_of_mem _ hq)
theorem Jty {n d : Int} {l : List PV} (h : MkOk n d 14 l) : cBy l = true := by
 have := h.len
 exact Jdu.2 ⟨List.all_eq_true.2 h.cp, fun p hp => by have := h.sz p hp; omega, by omega⟩
theorem Jtz {n d : Int} {l : List PV} (h : MkOk n d 14 l) : (opB l).length <= 400 := by
 have h1 := JeF 10 l h.sz
 have h2 := h.len
 rw [JlY, Jsv, List.length_append]
 simp only [List.length_cons, List.length_nil]; omega
theorem Xo {c : CV} (h : ckC c = 0) : (c.kd = 1 ∨ c.kd = 3) /\ 1 <= c.n /\ c.n <= 120 /\ c.s.size = 0 ∨ c.kd = 2 /\ c.n = 0 /\ 1 <= c.s.size /\ c.s.size <= 120 := by
 rw [Jcc] at h
 unfold Jjp at h
 cases h1 : (c.kd == 1 || c.kd == 3) with
 | true =>
  rw [h1, cond_true] at h
  cases h2 : (decide (c.n < 1) || (decide (c.n > 120) || !(c.s.size == 0))) with
  | true => rw [h2, cond_true] at h; exact absurd h (by decide)
  | false =>
   simp only [Bool.or_eq_false_iff, decide_eq_false_iff_not, Bool.not_eq_false', beq_iff_eq] at h2
   simp only [Bool.or_eq_true, beq_iff_eq] at h1
   exact .inl ⟨h1, by omega, by omega, h2.2.2⟩
 | false =>
  rw [h1, cond_false] at h
  cases h3 : (c.kd == 2) with
  | false => rw [h3, cond_false] at h; exact absurd h (by decide)
  | true =>
   rw [h3, cond_true] at h
   cases h2 : (!(c.n == 0) || c.s.size == 0) with
   | true => rw [h2, cond_true] at h; exact absurd h (by decide)
   | false =>
    rw [h2, cond_false] at h
    cases h4 : decide (zi c.s.size > 120) with
    | true => rw [h4, cond_true] at h; exact absurd h (by decide)
    | false =>
     simp only [Bool.or_eq_false_iff, Bool.not_eq_false', beq_iff_eq, beq_eq_false_iff_ne] at h2
     simp only [zi, decide_eq_false_iff_not] at h4
     simp only [beq_iff_eq] at h3
     exact .inr ⟨h3, h2.1, by omega, by omega⟩
def aOk : List PV -> Bool := hid fun l => cOk l && ckO l == 0
theorem JgB : ∀ {l : List PV}, ckL l = 0 -> ∀ p ∈ l, ckC (cv p) = 0
 | [], _, p, hp => by cases hp
 | q :: r, h, p, hp => by
  simp only [ckL] at h
  cases hq : (ckC (cv q) == 0) with
  | false => rw [hq, cond_false] at h; rw [h] at hq; exact absurd hq (by decide)
  | true =>
   rw [hq, cond_true] at h
   rcases List.mem_cons.1 hp with rfl | hp
   · simpa using hq
   · exact JgB h p hp
theorem Q7 {l : List PV} : aOk l = true ↔ l.all isCp = true /\ l.length <= 40 /\ ∀ p ∈ l, ckC (cv p) = 0 := by
 rw [aOk, hid_eq, Bool.and_eq_true, beq_iff_eq, Yi]
 constructor
 · rintro ⟨⟨h1, h2⟩, h3⟩
   rw [Jhe] at h3
   unfold Jqk at h3
   cases hc : decide (zi l.length > 40) with
   | true => rw [hc, cond_true] at h3; exact absurd h3 (by decide)
   | false =>
    rw [hc, cond_false] at h3
    simp only [zi, decide_eq_false_iff_not] at hc
    exact ⟨h1, by omega, JgB h3⟩
 · rintro ⟨h1, h2, h3⟩
   refine ⟨⟨h1, by omega⟩, ?_⟩
   rw [Jhe]; unfold Jqk
   exact (Jd (decide_eq_false (by simp only [zi]; omega))).trans (Jtx h3)
theorem JmU {l : List PV} (h : cOk l = true) (h2 : ckO l = 0) : aOk l = true := by rw [aOk, hid_eq, h, h2]; rfl
theorem YU {l : List PV} (h : aOk l = true) {i : Nat} (hi : i < l.length) : isCp (l.getD i .top) = true /\ ckC (cv (l.getD i .top)) = 0 := by
 obtain ⟨h1, _, h3⟩ := Q7.1 h
 refine ⟨WW h1 hi, ?_⟩
 rw [List.getD_eq_getElem?_getD, List.getElem?_eq_getElem hi]
 exact h3 _ (List.getElem_mem hi)
def GX (p : PV) : Bool := PV.isSt 113 #[Field.mk "Kind" 3 0 false "" "" 0, Field.mk "N" 3 1 false "" "" 8, Field.mk "S" 9 2 false "" "" 16].size p && (PV.isInt IntKind.i64 (PV.child 0 p) && (PV.isInt IntKind.i64 (PV.child (0 + 1) p) && ((PV.child (0 + 1 + 1) p).isStr && true)))
theorem JjZ {l : List PV} (h : l.all isCp = true) {i : Nat} (hi : i < l.length) : (decide (0 <= (i : Int)) && decide ((i : Int) < zi l.length) && GX (l.getD i .top) && true) = true := by
 have hq : GX (l.getD i .top) = true := XJ (WW h hi)
 rw [hq]; simp [zi]; omega
def inO : List PV -> Int := hid inL
def Jw5 : List PV -> Int := hid outL
theorem JtA (l : List PV) : inO l = inL l := by rw [inO, hid_eq]
theorem Jph (l : List PV) : Jw5 l = outL l := by rw [Jw5, hid_eq]
theorem Jfc {c : CV} (h : ckC c = 0) : 0 <= inC c /\ inC c <= 120 := by
 unfold inC
 rcases Xo h with ⟨h1, h2, h3, h4⟩ | ⟨h1, h2, h3, h4⟩
 · rw [show (c.kd == 2) = false from beq_false_of_ne (by omega), cond_false]; omega
 · rw [h1]; show 0 <= (0 : Int) /\ (0 : Int) <= 120; decide
theorem Jbz {c : CV} (h : ckC c = 0) : 0 <= QN c /\ QN c <= 120 := by
 unfold QN
 rcases Xo h with ⟨h1, h2, h3, h4⟩ | ⟨h1, h2, h3, h4⟩
 · cases hc : (c.kd == 1) with
   | true => rw [cond_true]; omega
   | false => rw [cond_false]; omega
 · rw [h1]; show 0 <= (c.s.size : Int) /\ (c.s.size : Int) <= 120; omega
theorem JmV (l : List PV) (ha : aOk l = true) (f : Nat) (k0 : Int -> OR) (z fl : Bool) : ∀ (d i n : Nat) (s : Int), i + d = l.length -> d < n -> 0 <= s -> s <= 120 * i ->
  Zv f k0 n z fl l s (i : Int) = k0 (s + inL (l.drop i))
 | 0, i, n + 1, s, hi, hn, h3, h4 => by
   rw [List.drop_of_length_le (by omega)]
   simp only [Zv, Vs, Yr, inL, Int.add_zero]
   exact Jd (by simp [zi]; omega)
 | d + 1, i, n + 1, s, hi, hn, h3, h4 => by
   obtain ⟨h1, hl, _⟩ := Q7.1 ha
   have g1 := tI i
   have w1 := wI (i := i) (by omega)
   have hc := JjZ h1 (i := i) (by omega)
   unfold GX at hc
   have hk := (YU ha (i := i) (by omega)).2
   rw [Qb (by omega)]
   simp only [Zv, Vs, Yr, g1, w1]
   refine (Ja (by simp [zi]; omega)).trans ((Ja hc).trans ?_)
   generalize l.getD i .top = p at *
   have i1 := Jfc hk
   have e1 : (PV.child 0 p).int = (cv p).kd := rfl
   have e2 : (PV.child (0 + 1) p).int = (cv p).n := rfl
   rw [e1, e2, inL, ← Int.add_assoc]
   cases hq : ((cv p).kd != 2) with
   | true =>
    have hz : inC (cv p) = (cv p).n := by unfold inC; rw [show ((cv p).kd == 2) = false from by simpa [bne] using hq]; rfl
    refine (Ja rfl).trans ((Ja hc).trans ?_)
    rw [← hz, wrap_i64 (by omega) (by omega)]
    exact JmV l ha f k0 z fl d (i + 1) n _ (by omega) (by omega) (by omega) (by omega)
   | false =>
    have hz : inC (cv p) = 0 := by unfold inC; rw [show ((cv p).kd == 2) = true from by simpa [bne] using hq]; rfl
    rw [hz, Int.add_zero]
    exact (Jd rfl).trans (JmV l ha f k0 z fl d (i + 1) n s (by omega) (by omega) h3 (by omega))
theorem JmW (l : List PV) (ha : aOk l = true) (f : Nat) (k0 : Int -> OR) (z fl : Bool) : ∀ (d i n : Nat) (s : Int), i + d = l.length -> d < n -> 0 <= s -> s <= 120 * i ->
  Zw f k0 n z fl l s (i : Int) = k0 (s + outL (l.drop i))
 | 0, i, n + 1, s, hi, hn, h3, h4 => by
   rw [List.drop_of_length_le (by omega)]
   simp only [Zw, Vt, Ws, outL, Int.add_zero]
   exact Jd (by simp [zi]; omega)
 | d + 1, i, n + 1, s, hi, hn, h3, h4 => by
   obtain ⟨h1, hl, _⟩ := Q7.1 ha
   have g1 := tI i
   have w1 := wI (i := i) (by omega)
   have hc := JjZ h1 (i := i) (by omega)
   unfold GX at hc
   have hk := (YU ha (i := i) (by omega)).2
   rw [Qb (by omega)]
   simp only [Zw, Vt, Ws, g1, w1]
   refine (Ja (by simp [zi]; omega)).trans ((Ja hc).trans ?_)
   generalize l.getD i .top = p at *
   have i1 := Jbz hk
   have e1 : (PV.child 0 p).int = (cv p).kd := rfl
   have e2 : (PV.child (0 + 1) p).int = (cv p).n := rfl
   have e3 : (PV.child (0 + 1 + 1) p).str = (cv p).s := rfl
   rw [e1, e2, e3, outL, ← Int.add_assoc]
   have hf := Xo hk
   cases hq : ((cv p).kd == 1) with
   | true =>
    have hz : QN (cv p) = (cv p).n := by unfold QN; rw [hq]; rfl
    have hq' : (cv p).kd = 1 := by simpa using hq
    have hs : zi (cv p).s.size = 0 := by show ((cv p).s.size : Int) = 0; omega
    refine (Ja rfl).trans ((Ja hc).trans ((Ja hc).trans ?_))
    rw [hs, ← hz, Int.add_zero, wrap_i64 (x := s + QN (cv p)) (by omega) (by omega), wrap_i64 (by omega) (by omega)]
    exact JmW l ha f k0 z fl d (i + 1) n _ (by omega) (by omega) (by omega) (by omega)
   | false =>
    have hz : QN (cv p) = zi (cv p).s.size := by unfold QN; rw [hq]; rfl
    refine (Jd rfl).trans ((Ja hc).trans ?_)
    rw [← hz, wrap_i64 (by omega) (by omega)]
    exact JmW l ha f k0 z fl d (i + 1) n _ (by omega) (by omega) (by omega) (by omega)
def Jim : JA
 | [.ro 113 z f o], [], k => bif aOk o then k ⟨.sc (.int .i64 (inO o)), [], []⟩ else none
 | _, _, _ => none
def JzI : Sig := { own := [], run := Jim }
theorem JDu : Jc tau Try.prog 102 JzI := Jc.mk' fun xs es k res hl hr => by
 change Jim xs es k = some res at hr
 unfold Jim at hr
 split at hr
 · rename_i z f o
   obtain ⟨hc, hr⟩ := Jw hr
   have hl2 := (Q7.1 hc).2.1
   refine J6 Jn Jpa Jo JzC JzD (Jpb (GU 50)) [.ro] 0 0 (JJj 50) hl rfl ((JNs 50 z f o k).trans (Eq.trans ?_ hr))
   unfold JJh
   refine (JmV o hc 50 _ z f o.length 0 50 0 (by omega) (by omega) (by omega) (by omega)).trans ?_
   rw [List.drop_zero, Int.zero_add, JtA]
 · cases hr
def Jin : JA
 | [.ro 113 z f o], [], k => bif aOk o then k ⟨.sc (.int .i64 (Jw5 o)), [], []⟩ else none
 | _, _, _ => none
def JzJ : Sig := { own := [], run := Jin }
theorem JDv : Jc tau Try.prog 103 JzJ := Jc.mk' fun xs es k res hl hr => by
 change Jin xs es k = some res at hr
 unfold Jin at hr
 split at hr
 · rename_i z f o
   obtain ⟨hc, hr⟩ := Jw hr
   have hl2 := (Q7.1 hc).2.1
   refine J6 Jn Jpd Jo JzE JzF (Jpe (GV 50)) [.ro] 0 0 (JJn 50) hl rfl ((JNt 50 z f o k).trans (Eq.trans ?_ hr))
   unfold JJl
   refine (JmW o hc 50 _ z f o.length 0 50 0 (by omega) (by omega) (by omega) (by omega)).trans ?_
   rw [List.drop_zero, Int.zero_add, Jph]
 · cases hr
def N60 : Nat := 66
def F60 : Fns := Js 103 JzJ (Js 102 JzI (F0))
theorem JtB : Jq tau Try.prog F60 := ((Jt).add JDu JJk).add JDv JJo
def Jpi : Code := Qj (Try.f60.body.get!) [1, 1, 1, 1, 1, 0, 1, 0, 0]
def Jfd : Nm := [(0, .any), (1, .any), (6, .any), (7, .any), (8, .any)]
def JmX : Nm := [(6, .any)]
def JtC : An := (.seq (.seq .leaf (.cond .leaf .leaf)) (.seq (.block none (.seq .leaf (.block none (.seq .leaf (.cond (.seq .leaf .leaf) (.seq .leaf (.cond .leaf .leaf))))))) .leaf))
def Jw6 (r0 : Qz) : An := (.seq .leaf (.seq (.seq .leaf (.cond (.seq .leaf .leaf) .leaf)) (.seq (.seq .leaf (.cond (.seq .leaf .leaf) .leaf)) (.seq .leaf (.seq .leaf (.seq (.seq .leaf (.block none (.sum Jfd N60 r0))) (.seq .leaf .leaf)))))))
abbrev JtD := ByteArray -> Bool -> Bool -> List PV -> ByteArray -> Int -> Int -> OR
abbrev Wi (v3 : List PV) (v6 : Int) := (PV.isSt 113 #[Field.mk "Kind" 3 0 false "" "" 0, Field.mk "N" 3 1 false "" "" 8, Field.mk "S" 9 2 false "" "" 16].size (v3.getD v6.toNat PV.top) && (PV.isInt IntKind.i64 (PV.child 0 (v3.getD v6.toNat PV.top)) && (PV.isInt IntKind.i64 (PV.child (0 + 1) (v3.getD v6.toNat PV.top)) && ((PV.child (0 + 1 + 1) (v3.getD v6.toNat PV.top)).isStr && true))))
abbrev Q1 (v3 : List PV) (v5 : Int) (v6 : Int) := (IntKind.i64.wrap (v5 + (PV.child (0 + 1) (v3.getD v6.toNat PV.top)).int))
def JbA (f : Nat) (rc : JtD) (k0 : ByteArray -> OR) (v0 : ByteArray) (v1 v2 : Bool) (v3 : List PV) (v4 : ByteArray) (v5 v6 : Int) : OR := bif decide (v6 < zi v3.length) then bif decide (0 <= v6) && decide (v6 < zi v3.length) && (Wi v3 v6) && true then bif (PV.child 0 (v3.getD v6.toNat PV.top)).int == 1 then bif decide (0 <= v6) && decide (v6 < zi v3.length) && (Wi v3 v6) && true then bif decide (0 <= v5) && decide (0 <= IntKind.i64.wrap (v5 + (PV.child (0 + 1) (v3.getD v6.toNat PV.top)).int)) && decide (v5.toNat <= (Q1 v3 v5 v6).toNat) && decide ((Q1 v3 v5 v6).toNat <= v0.size) && true then bif decide (v4.size + (v0.extract v5.toNat (Q1 v3 v5 v6).toNat).size <= 9223372036854775807) && true then bif decide (0 <= v6) && decide (v6 < zi v3.length) && (Wi v3 v6) && true then rc v0 v1 v2 v3 (v4 ++ v0.extract v5.toNat (Q1 v3 v5 v6).toNat) (Q1 v3 v5 v6) (IntKind.i64.wrap (v6 + 1)) else none else none else none else none else bif (PV.child 0 (v3.getD v6.toNat PV.top)).int == 2 then bif decide (0 <= v6) && decide (v6 < zi v3.length) && (Wi v3 v6) && true then bif decide (v4.size + (PV.child (0 + 1 + 1) (v3.getD v6.toNat PV.top)).str.size <= 9223372036854775807) && true then rc v0 v1 v2 v3 (v4 ++ (PV.child (0 + 1 + 1) (v3.getD v6.toNat PV.top)).str) v5 (IntKind.i64.wrap (v6 + 1)) else none else none else bif decide (0 <= v6) && decide (v6 < zi v3.length) && (Wi v3 v6) && true then rc v0 v1 v2 v3 v4 (Q1 v3 v5 v6) (IntKind.i64.wrap (v6 + 1)) else none else none else k0 v4
def GY (f : Nat) (k0 : ByteArray -> OR) : Nat -> JtD
 | 0 => fun _ _ _ _ _ _ _ => none
 | n + 1 => JbA f (GY f k0 n) k0
def JbB (k : Kont) := fun x0 => k (Ex.exit 0) (Jj JmX N60 [.sc (.string x0)] [])
def JmY (f : Nat) (k : Kont) (n : Nat) (v0 : ByteArray) (v1 v2 : Bool) (v3 : List PV) (v4 : ByteArray) (v5 v6 : Int) : OR := Jy tau 0 Jfd (fun s k => ev tau F60 0 0 Jpi (JtC ) s k) n (Jj Jfd N60 [.sc (.string v0), .ro 113 v1 v2 v3, .sc (.string v4), .sc (.int .i64 v5), .sc (.int .i64 v6)] []) (JI tau 0 JmX k)
theorem Jw7 (f : Nat) (k : Kont) (n : Nat) : JmY f k (n + 1) = JbA f (JmY f k n) (JbB k) := by kernel_rfl
theorem Jpj (f : Nat) (k : Kont) : ∀ n, JmY f k n = GY f (JbB k) n
 | 0 => rfl
 | n + 1 => (Jw7 f k n).trans (congrArg (fun r => JbA f r (JbB k)) (Jpj f k n))
def Jfe (f : Nat) : List PV -> List (Nat × Ent) -> Kont -> OR
 | [.sc (.string v0), .ro 113 v1 v2 v3, .sc (.string v4), .sc (.int .i64 v5),
 .sc (.int .i64 v6)], [], k => GY f (JbB k) f v0 v1 v2 v3 v4 v5 v6
 | _, _, _ => none
theorem JDw (f : Nat) : Jg Jpi JtC = [] := by kernel_rfl
theorem JDx (f : Nat) : (Item.l Jpi Jfd N60 (Jfe f)).Ok tau Try.prog 0 := Ju Jn JtB Jo (x := JtC) (nm2 := JmX) (Jk _ _ (by rw [JDw f]; intro q hq; cases hq)) fun vs hp k res hr => by
 unfold Jfe at hr
 split at hr
 · rw [← Jpj f] at hr; exact ⟨f, 0, hr⟩
 · cases hr
def g60 (f : Nat) (doc : ByteArray) (o_z o_f : Bool) (o : List PV) (k : KR) : OR := bif aOk o then bif inO o != zi doc.size then k (Res.mk (.tup [.sc (.string (ByteArray.mk (Array.mk []))), .sc (.int .i64 7)]) [] []) else bif aOk o then bif decide (Jw5 o > 120) then k (Res.mk (.tup [.sc (.string (ByteArray.mk (Array.mk []))), .sc (.int .i64 5)]) [] []) else GY f (fun x0_0 => k (Res.mk (.tup [.sc (.string x0_0), .sc (.int .i64 0)]) [] [])) f doc o_z o_f o (ByteArray.mk (Array.mk [])) (0) (0) else none else none
theorem e60 (f : Nat) (doc : ByteArray) (o_z o_f : Bool) (o : List PV) (k : KR) : JK tau F60 Try.f60 (Try.f60.body.get!) (Jw6 (Jfe f)) [.ro, .ro] 0 [.sc (.string doc), .ro 113 o_z o_f o] [] k = g60 f doc o_z o_f o k := by kernel_rfl
theorem JNu (f : Nat) : Jg (Try.f60.body.get!) (Jw6 (Jfe f)) = [.l Jpi Jfd N60 (Jfe f)] := by kernel_rfl
theorem JNv (f : Nat) : ∀ q ∈ Jg (Try.f60.body.get!) (Jw6 (Jfe f)), q.Ok tau Try.prog 0 := by rw [JNu f]; exact JL (JDx f) (fun _ h => nomatch h)
theorem JJq : Try.prog.funcs[60]? = some Try.f60 := by kernel_rfl
theorem JJr : Try.f60.body = some (Try.f60.body.get!) := by kernel_rfl
theorem JNw : Enters Try.prog 60 := enters_of JJq (by kernel_rfl) JJr
structure AP where
 (doc : ByteArray) (o : List PV)
def apl : List PV -> ByteArray -> Nat -> ByteArray -> ByteArray
 | [], _, _, out => out
 | p :: ps, doc, at1, out =>
  bif (cv p).kd == 1 then apl ps doc (at1 + (cv p).n.toNat) (out ++ doc.extract at1 (at1 + (cv p).n.toNat))
  else bif (cv p).kd == 2 then apl ps doc at1 (out ++ (cv p).s)
  else apl ps doc (at1 + (cv p).n.toNat) out
def Jj0 (x : AP) : Int := bif inL x.o != zi x.doc.size then 7 else bif decide (outL x.o > 120) then 5 else 0
def apE : AP -> Int := hid Jj0
def apD : AP -> ByteArray := hid fun x => bif Jj0 x == 0 then apl x.o x.doc 0 (ByteArray.mk (Array.mk [])) else ByteArray.mk (Array.mk [])
theorem JtE (x : AP) : apE x = Jj0 x := by rw [apE, hid_eq]
theorem JmZ (x : AP) : apD x = bif Jj0 x == 0 then apl x.o x.doc 0 (ByteArray.mk (Array.mk [])) else ByteArray.mk (Array.mk []) := by rw [apD, hid_eq]
theorem Ys (a b : ByteArray) : (a ++ b).size = a.size + b.size := ByteArray.size_append
theorem Jc9 (a : ByteArray) (i j : Nat) (h : i <= j) (h2 : j <= a.size) : (a.extract i j).size = j - i := by rw [ByteArray.size_extract]; omega
theorem X8 : ∀ {l : List PV}, (∀ p ∈ l, ckC (cv p) = 0) -> 0 <= inL l
 | [], _ => by simp [inL]
 | p :: l, h => by
  have h1 := (Jfc (h p List.mem_cons_self)).1
  have h2 := X8 fun q hq => h q (List.mem_cons_of_mem _ hq)
  simp only [inL]; omega
theorem Yt : ∀ {l : List PV}, (∀ p ∈ l, ckC (cv p) = 0) -> 0 <= outL l
 | [], _ => by simp [outL]
 | p :: l, h => by
  have h1 := (Jbz (h p List.mem_cons_self)).1
  have h2 := Yt fun q hq => h q (List.mem_cons_of_mem _ hq)
  simp only [outL]; omega
theorem JbC : ∀ {l : List PV} {doc : ByteArray} {at1 : Nat} {out : ByteArray}, (∀ p ∈ l, ckC (cv p) = 0) -> (at1 : Int) + inL l <= doc.size -> ((apl l doc at1 out).size : Int) = out.size + outL l
 | [], _, _, _, _, _ => by simp [apl, outL]
 | p :: l, doc, at1, out, h, hi => by
  have hk := h p List.mem_cons_self
  have h' : ∀ q ∈ l, ckC (cv q) = 0 := fun q hq => h q (List.mem_cons_of_mem _ hq)
  have hn := X8 h'
  simp only [apl, inL, outL] at hi ⊢
  rcases Xo hk with ⟨h1, h2, h3, h4⟩ | ⟨h1, h2, h3, h4⟩
  · rcases h1 with h1 | h1
    · have e1 : inC (cv p) = (cv p).n := by unfold inC; rw [h1]; rfl
      have e2 : QN (cv p) = (cv p).n := by unfold QN; rw [h1]; rfl
      rw [h1]
      refine (congrArg (fun b : ByteArray => (b.size : Int)) (Ja rfl)).trans ?_
      rw [JbC h' (by omega), Ys, Jc9 _ _ _ (by omega) (by omega)]; omega
    · have e1 : inC (cv p) = (cv p).n := by unfold inC; rw [h1]; rfl
      have e2 : QN (cv p) = (cv p).s.size := by unfold QN; rw [h1]; rfl
      rw [h1]
      refine (congrArg (fun b : ByteArray => (b.size : Int)) ((Jd rfl).trans (Jd rfl))).trans ?_
      rw [JbC h' (by omega)]; omega
  · have e1 : inC (cv p) = 0 := by unfold inC; rw [h1]; rfl
    have e2 : QN (cv p) = (cv p).s.size := by unfold QN; rw [h1]; rfl
    rw [h1]
    refine (congrArg (fun b : ByteArray => (b.size : Int)) ((Jd rfl).trans (Ja rfl))).trans ?_
    rw [JbC h' (by omega), Ys]; omega
theorem Jpk (l : List PV) (ha : aOk l = true) (doc : ByteArray) (hd : doc.size <= 10000) (f : Nat) (k0 : ByteArray -> OR) (z fl : Bool) : ∀ (d i n : Nat) (out : ByteArray) (at1 : Nat), i + d = l.length -> d < n -> (at1 : Int) + inL (l.drop i) <= doc.size -> (out.size : Int) + outL (l.drop i) <= 120 ->
  GY f k0 n doc z fl l out (at1 : Int) (i : Int) = k0 (apl (l.drop i) doc at1 out)
 | 0, i, n + 1, out, at1, hi, hn, h3, h4 => by
   rw [List.drop_of_length_le (by omega)]
   simp only [GY, JbA, Q1, Wi, apl]
   exact Jd (by simp [zi]; omega)
 | d + 1, i, n + 1, out, at1, hi, hn, h3, h4 => by
   obtain ⟨h1, hl, hck⟩ := Q7.1 ha
   have g1 := tI i
   have g2 := tI at1
   have w1 := wI (i := i) (by omega)
   have hc := JjZ h1 (i := i) (by omega)
   unfold GX at hc
   have hk := (YU ha (i := i) (by omega)).2
   have hck' : ∀ q ∈ l.drop (i + 1), ckC (cv q) = 0 := fun q hq => hck q (List.mem_of_mem_drop hq)
   have hin := X8 hck'
   have hon := Yt hck'
   rw [Qb (by omega)] at h3 h4 ⊢
   simp only [GY, JbA, Q1, Wi, g1, g2, w1]
   refine (Ja (by simp [zi]; omega)).trans ((Ja hc).trans ?_)
   generalize l.getD i .top = p at *
   have e1 : (PV.child 0 p).int = (cv p).kd := rfl
   have e2 : (PV.child (0 + 1) p).int = (cv p).n := rfl
   have e3 : (PV.child (0 + 1 + 1) p).str = (cv p).s := rfl
   simp only [e1, e2, e3, apl]
   simp only [inL, outL] at h3 h4
   rcases Xo hk with ⟨q1, q2, q3, q4⟩ | ⟨q1, q2, q3, q4⟩
   · rcases q1 with q1 | q1
     · have i1 : inC (cv p) = (cv p).n := by unfold inC; rw [q1]; rfl
       have i2 : QN (cv p) = (cv p).n := by unfold QN; rw [q1]; rfl
       have w2 : IntKind.i64.wrap ((at1 : Int) + (cv p).n) = ((at1 + (cv p).n.toNat : Nat) : Int) := by rw [wrap_i64 (by omega) (by omega)]; omega
       have g3 : (((at1 + (cv p).n.toNat : Nat) : Int)).toNat = at1 + (cv p).n.toNat := Int.toNat_natCast _
       have sz := Jc9 doc at1 (at1 + (cv p).n.toNat) (by omega) (by omega)
       simp only [q1, w2, g3]
       refine (Ja rfl).trans ((Ja hc).trans ((Ja (by simp; omega)).trans ((Ja (by rw [sz]; simp; omega)).trans ((Ja hc).trans ?_))))
       refine (Jpk l ha doc hd f k0 z fl d (i + 1) n _ _ (by omega) (by omega) (by omega) (by rw [Ys, sz]; omega)).trans ?_
       rfl
     · have i1 : inC (cv p) = (cv p).n := by unfold inC; rw [q1]; rfl
       have i2 : QN (cv p) = (cv p).s.size := by unfold QN; rw [q1]; rfl
       have w2 : IntKind.i64.wrap ((at1 : Int) + (cv p).n) = ((at1 + (cv p).n.toNat : Nat) : Int) := by rw [wrap_i64 (by omega) (by omega)]; omega
       simp only [q1, w2]
       refine (Jd rfl).trans ((Jd rfl).trans ((Ja hc).trans ?_))
       refine (Jpk l ha doc hd f k0 z fl d (i + 1) n _ _ (by omega) (by omega) (by omega) (by omega)).trans ?_
       rfl
   · have i1 : inC (cv p) = 0 := by unfold inC; rw [q1]; rfl
     have i2 : QN (cv p) = (cv p).s.size := by unfold QN; rw [q1]; rfl
     simp only [q1]
     refine (Jd rfl).trans ((Ja rfl).trans ((Ja hc).trans ((Ja (by simp; omega)).trans ?_)))
     refine (Jpk l ha doc hd f k0 z fl d (i + 1) n _ _ (by omega) (by omega) (by omega) (by rw [Ys]; omega)).trans ?_
     rfl
theorem Jm0 : ∀ {l : List PV}, (∀ p ∈ l, ckC (cv p) = 0) -> inL l <= 120 * l.length
 | [], _ => by simp [inL]
 | p :: l, h => by
  have h1 := (Jfc (h p List.mem_cons_self)).2
  have h2 := Jm0 fun q hq => h q (List.mem_cons_of_mem _ hq)
  simp only [inL, List.length_cons]; omega
def Jm1 : JA
 | [.sc (.string doc), .ro 113 z f o], [], k => bif aOk o then k ⟨.tup [.sc (.string (apD ⟨doc, o⟩)), .sc (.int .i64 (apE ⟨doc, o⟩))], [], []⟩ else none
 | _, _, _ => none
def JJs : Sig := { own := [], run := Jm1 }
theorem JDy (doc : ByteArray) (z f : Bool) (o : List PV) (h : aOk o = true) (k : KR) : g60 50 doc z f o k = k ⟨.tup [.sc (.string (apD ⟨doc, o⟩)), .sc (.int .i64 (apE ⟨doc, o⟩))], [], []⟩ := by
 obtain ⟨h1, h2, h3⟩ := Q7.1 h
 unfold g60
 rw [JmZ, JtE, Jj0, JtA, Jph]
 refine (Ja h).trans ?_
 cases hi : (inL o != zi doc.size) with
 | true => rfl
 | false =>
  refine (Jd rfl).trans ((Ja h).trans ?_)
  have hi : inL o = zi doc.size := by simpa [bne] using hi
  have hle := Jm0 h3
  cases ho : decide (outL o > 120) with
  | true => rfl
  | false =>
   have ho := of_decide_eq_false ho
   refine (Jd rfl).trans ?_
   refine (Jpk o h doc (by simp only [zi] at hi; omega) 50 _ z f o.length 0 50 (ByteArray.mk (Array.mk [])) 0 (by omega) (by omega) (by rw [List.drop_zero, hi]; simp [zi]) (by rw [List.drop_zero]; show (0 : Int) + _ <= _; omega)).trans ?_
   rw [List.drop_zero]; rfl
theorem JJt : Jc tau Try.prog 60 JJs := Jc.mk' fun xs es k res hl hr => by
 change Jm1 xs es k = some res at hr
 unfold Jm1 at hr
 split at hr
 · rename_i doc z f o
   obtain ⟨hc, hr⟩ := Jw hr
   exact J6 Jn JtB Jo JJq JJr (Jw6 (Jfe 50)) [.ro, .ro] 0 0 (JNv 50) hl rfl ((e60 50 doc z f o k).trans ((JDy doc z f o hc k).trans hr))
 · cases hr
theorem JtF {x : AP} (h : aOk x.o = true) : (apD x).size <= 120 := by
 obtain ⟨h1, h2, h3⟩ := Q7.1 h
 rw [JmZ]
 cases he : (Jj0 x == 0) with
 | false => exact Nat.zero_le _
 | true =>
  rw [cond_true]
  unfold Jj0 at he
  cases hi : (inL x.o != zi x.doc.size) with
  | true => rw [hi] at he; exact absurd (show false = true from he) (by decide)
  | false =>
   rw [hi] at he
   cases ho : decide (outL x.o > 120) with
   | true => rw [ho] at he; exact absurd (show false = true from he) (by decide)
   | false =>
    have ho := of_decide_eq_false ho
    have hi : inL x.o = zi x.doc.size := by simpa [bne] using hi
    have := JbC (l := x.o) (doc := x.doc) (at1 := 0) (out := ByteArray.mk (Array.mk [])) h3 (by rw [hi]; simp [zi])
    have e : (ByteArray.mk (Array.mk ([] : List UInt8))).size = 0 := rfl
    rw [e] at this; omega
def N61 : Nat := 51
def F61 : Fns := Js 104 Jy9 (Js 74 JAH (Js 58 Jws (F0)))
theorem JtG : Jq tau Try.prog F61 := (((Jt).add Jsz JAt).add Jyg JFf).add JCe JEX
def Jpl : Code := Qj (Try.f61.body.get!) [1, 1, 1, 0, 0, 0]
def Jff : Nm := [(0, .any), (3, .any), (6, .any)]
def Jm2 : Nm := [(0, .any), (3, .any), (6, .any)]
def JtH : An := (.seq (.seq .leaf (.cond .leaf .leaf)) (.block none .leaf))
def Jw8 (r0 : Qz) : An := (.seq .leaf (.seq (.block none (.seq .leaf (.cond (.seq .leaf .leaf) (.seq .leaf (.cond (.seq .leaf .leaf) (.seq .leaf (.cond (.seq .leaf .leaf) .leaf))))))) (.seq .leaf (.seq (.block none (.sum Jff N61 r0)) (.seq .leaf (.seq .leaf (.seq .leaf .leaf)))))))
abbrev JtI := Bool -> Bool -> List PV -> Int -> Int -> Int -> OR
def JbD (f : Nat) (rc : JtI) (k0 : Bool -> Bool -> List PV -> Int -> Int -> Int -> OR) (v0 v1 : Bool) (v2 : List PV) (v3 v4 v5 : Int) : OR := bif decide (v3 < zi v2.length) then bif decide (0 <= v3) && decide (v3 < zi v2.length) && (PV.isSt 42 #[Field.mk "D" 3 0 false "" "" 0, Field.mk "U" 3 1 false "" "" 8].size (v2.getD v3.toNat PV.top) && (PV.isInt IntKind.i64 (PV.child 0 (v2.getD v3.toNat PV.top)) && (PV.isInt IntKind.i64 (PV.child (0 + 1) (v2.getD v3.toNat PV.top)) && true))) && true then bif Jwr (AV.mk (PV.child 0 (v2.getD v3.toNat PV.top)).int (PV.child (0 + 1) (v2.getD v3.toNat PV.top)).int) (AV.mk v4 v5) then rc v0 v1 v2 (IntKind.i64.wrap (v3 + 1)) v4 v5 else k0 v0 v1 v2 v3 v4 v5 else none else k0 v0 v1 v2 v3 v4 v5
def GZ (f : Nat) (k0 : Bool -> Bool -> List PV -> Int -> Int -> Int -> OR) : Nat -> JtI
 | 0 => fun _ _ _ _ _ _ => none
 | n + 1 => JbD f (GZ f k0 n) k0
def JbE (k : Kont) := fun x0 x1 x2 x3 x4 x5 => k (Ex.exit 1) (Jj Jm2 N61 [.ro 42 x0 x1 x2, .ptr 832 [], .sc (.int .i64 x3)] [(832, .box false 42 (PV.st 42 [.sc (.int .i64 x4), .sc (.int .i64 x5)]))])
def Jm3 (f : Nat) (k : Kont) (n : Nat) (v0 v1 : Bool) (v2 : List PV) (v3 v4 v5 : Int) : OR := Jy tau 0 Jff (fun s k => ev tau F61 0 0 Jpl (JtH ) s k) n (Jj Jff N61 [.ro 42 v0 v1 v2, .ptr 832 [], .sc (.int .i64 v3)] [(832, .box false 42 (PV.st 42 [.sc (.int .i64 v4), .sc (.int .i64 v5)]))]) (JI tau 0 Jm2 k)
theorem Jw9 (f : Nat) (k : Kont) (n : Nat) : Jm3 f k (n + 1) = JbD f (Jm3 f k n) (JbE k) := by kernel_rfl
theorem Jpm (f : Nat) (k : Kont) : ∀ n, Jm3 f k n = GZ f (JbE k) n
 | 0 => rfl
 | n + 1 => (Jw9 f k n).trans (congrArg (fun r => JbD f r (JbE k)) (Jpm f k n))
def Jfg (f : Nat) : List PV -> List (Nat × Ent) -> Kont -> OR
 | [.ro 42 v0 v1 v2, .ptr 832 [],
 PV.sc
  (Value.int IntKind.i64
   v3)], [(832,
  Ent.box false 42
   (PV.st 42
    [.sc (.int .i64 v4),
     PV.sc
      (Value.int IntKind.i64
       v5)]))], k => GZ f (JbE k) f v0 v1 v2 v3 v4 v5
 | _, _, _ => none
theorem JDz (f : Nat) : Jg Jpl JtH = [] := by kernel_rfl
theorem JDA (f : Nat) : (Item.l Jpl Jff N61 (Jfg f)).Ok tau Try.prog 0 := Ju Jn JtG Jo (x := JtH) (nm2 := Jm2) (Jk _ _ (by rw [JDz f]; intro q hq; cases hq)) fun vs hp k res hr => by
 unfold Jfg at hr
 split at hr
 · rw [← Jpm f] at hr; exact ⟨f, 0, hr⟩
 · cases hr
def g61 (f : Nat) (l_z l_f : Bool) (l : List PV) (a_D a_U : Int) (k : KR) : OR := bif !inA [a_D, 2, a_U, 7] then k (Res.mk (.tup [.ro 42 l_z l_f l, .sc (.int .i64 1)]) [] []) else bif pOk l then bif hasP (PH.mk l (AV.mk a_D a_U)) then k (Res.mk (.tup [.ro 42 l_z l_f l, .sc (.int .i64 12)]) [] []) else bif decide (zi l.length >= 8) then k (Res.mk (.tup [.ro 42 l_z l_f l, .sc (.int .i64 4)]) [] []) else GZ f (fun _ _ x2_0 JR x4_0 x5_0 => bif decide (0 <= JR) && true && decide (JR.toNat <= x2_0.length) && true then bif Je (0 + (List.take JR.toNat x2_0).length) 16 && true then bif Je (0 + (List.take JR.toNat x2_0).length + 1) 16 && true then bif decide (0 <= JR) && true && decide (JR.toNat <= x2_0.length) && decide (x2_0.length <= x2_0.length) && true then bif Je (0 + (List.take JR.toNat x2_0).length + 1 + (List.drop JR.toNat (List.take x2_0.length x2_0)).length) 16 && true then k (Res.mk (.tup [.ro 42 false false (List.take (0 + (List.take JR.toNat x2_0).length + 1 + (List.drop JR.toNat (List.take x2_0.length x2_0)).length) (List.take (0 + (List.take JR.toNat x2_0).length + 1) (List.take (0 + (List.take JR.toNat x2_0).length) (List.take JR.toNat x2_0) ++ [.st 42 [.sc (.int .i64 x4_0), .sc (.int .i64 x5_0)]]) ++ List.drop JR.toNat (List.take x2_0.length x2_0))), .sc (.int .i64 0)]) [] []) else none else none else none else none else none) f l_z l_f l (0) a_D a_U else none
theorem e61 (f : Nat) (l_z l_f : Bool) (l : List PV) (a_D a_U : Int) (k : KR) : JK tau F61 Try.f61 (Try.f61.body.get!) (Jw8 (Jfg f)) [.ro, .ro] 0 [.ro 42 l_z l_f l, .st 42 [.sc (.int .i64 a_D), .sc (.int .i64 a_U)]] [] k = g61 f l_z l_f l a_D a_U k := by kernel_rfl
theorem JNx (f : Nat) : Jg (Try.f61.body.get!) (Jw8 (Jfg f)) = [.l Jpl Jff N61 (Jfg f)] := by kernel_rfl
theorem JNy (f : Nat) : ∀ q ∈ Jg (Try.f61.body.get!) (Jw8 (Jfg f)), q.Ok tau Try.prog 0 := by rw [JNx f]; exact JL (JDA f) (fun _ h => nomatch h)
theorem JJu : Try.prog.funcs[61]? = some Try.f61 := by kernel_rfl
theorem JJv : Try.f61.body = some (Try.f61.body.get!) := by kernel_rfl
theorem JNz : Enters Try.prog 61 := enters_of JJu (by kernel_rfl) JJv
def N62 : Nat := 33
def F62 : Fns := Js 58 Jws (F0)
theorem JtJ : Jq tau Try.prog F62 := (Jt).add Jsz JAt
def Jpn : Code := Qj (Try.f62.body.get!) [1, 1, 1, 0, 1, 0, 0]
def Jfh : Nm := [(0, .any), (3, .any), (6, .own), (7, .any)]
def Jm4 : Nm := [(6, .any)]
def JtK : An := (.seq (.seq .leaf (.cond .leaf .leaf)) (.seq (.block none (.seq .leaf (.cond .leaf .leaf))) .leaf))
def Jxa (r0 : Qz) : An := (.seq .leaf (.seq (.seq .leaf (.cond (.seq .leaf .leaf) .leaf)) (.seq .leaf (.seq (.seq .leaf (.block none (.sum Jfh N62 r0))) (.seq .leaf .leaf)))))
abbrev JDB := Bool -> List PV -> OR) : Nat -> Bool -> Bool -> List PV -> Nat -> Int -> Int -> Int -> Bool -> List PV -> OR
abbrev Zx (v2 : List PV) (v4 : Int) := (PV.isSt 42 #[Field.mk "D" 3 0 false "" "" 0, Field.mk "U" 3 1 false "" "" 8].size (v2.getD v4.toNat PV.top) && (PV.isInt IntKind.i64 (PV.child 0 (v2.getD v4.toNat PV.top)) && (PV.isInt IntKind.i64 (PV.child (0 + 1) (v2.getD v4.toNat PV.top)) && true)))
def JbF (f : Nat) (rc : Bool -> Bool -> List PV -> Nat -> Int -> Int -> Int -> Bool -> List PV -> OR) (k0 : Nat -> Bool -> List PV -> OR) (v0 v1 : Bool) (v2 : List PV) (v3 : Nat) (v4 v5 v6 : Int) (v7 : Bool) (v8 : List PV) : OR := bif decide (v4 < zi v2.length) then bif decide (0 <= v4) && decide (v4 < zi v2.length) && (Zx v2 v4) && true then bif !((PV.child 0 (v2.getD v4.toNat PV.top)).int == v5 && ((PV.child (0 + 1) (v2.getD v4.toNat PV.top)).int == v6 && true)) then bif decide (0 <= v4) && decide (v4 < zi v2.length) && (Zx v2 v4) && true then bif Je (v3 + 1) 16 && true then rc v0 v1 v2 (v3 + 1) (IntKind.i64.wrap (v4 + 1)) v5 v6 (v7 && false) (List.take v3 v8 ++ [.st 42 [.sc (.int .i64 (PV.child 0 (v2.getD v4.toNat PV.top)).int), .sc (.int .i64 (PV.child (0 + 1) (v2.getD v4.toNat PV.top)).int)]]) else none else none else rc v0 v1 v2 v3 (IntKind.i64.wrap (v4 + 1)) v5 v6 v7 v8 else none else k0 v3 v7 v8
def G0 (f : Nat) (k0 : Nat -> JDB
 | 0 => fun _ _ _ _ _ _ _ _ _ => none
 | n + 1 => JbF f (G0 f k0 n) k0
def JbG (k : Kont) := fun x0 x1 x2 => k (Ex.exit 0) (Jj Jm4 N62 [.ow 42 544 [] 0 x0 none] [(544, .vec false 42 x1 x2)])
def Jm5 (f : Nat) (k : Kont) (n : Nat) (v0 v1 : Bool) (v2 : List PV) (v3 : Nat) (v4 v5 v6 : Int) (v7 : Bool) (v8 : List PV) : OR := Jy tau 0 Jfh (fun s k => ev tau F62 0 0 Jpn (JtK ) s k) n (Jj Jfh N62 [.ro 42 v0 v1 v2, .ptr 544 [], .ow 42 545 [] 0 v3 none, .sc (.int .i64 v4)] [(544, .box false 42 (PV.st 42 [.sc (.int .i64 v5), .sc (.int .i64 v6)])), (545, .vec false 42 v7 v8)]) (JI tau 0 Jm4 k)
theorem Jxb (f : Nat) (k : Kont) (n : Nat) : Jm5 f k (n + 1) = JbF f (Jm5 f k n) (JbG k) := by kernel_rfl
theorem Jpo (f : Nat) (k : Kont) : ∀ n, Jm5 f k n = G0 f (JbG k) n
 | 0 => rfl
 | n + 1 => (Jxb f k n).trans (congrArg (fun r => JbF f r (JbG k)) (Jpo f k n))
def Jfi (f : Nat) : List PV -> List (Nat × Ent) -> Kont -> OR
 | [.ro 42 v0 v1 v2, .ptr 544 [], .ow 42 545 [] 0 v3 none,
 PV.sc
  (Value.int IntKind.i64
   v4)], [(544, .box false 42 (PV.st 42 [.sc (.int .i64 v5), .sc (.int .i64 v6)])),
 (545, .vec false 42 v7 v8)], k => G0 f (JbG k) f v0 v1 v2 v3 v4 v5 v6 v7 v8
 | _, _, _ => none
theorem JDC (f : Nat) : Jg Jpn JtK = [] := by kernel_rfl
theorem JDD (f : Nat) : (Item.l Jpn Jfh N62 (Jfi f)).Ok tau Try.prog 0 := Ju Jn JtJ Jo (x := JtK) (nm2 := Jm4) (Jk _ _ (by rw [JDC f]; intro q hq; cases hq)) fun vs hp k res hr => by
 unfold Jfi at hr
 split at hr
 · rw [← Jpo f] at hr; exact ⟨f, 0, hr⟩
 · cases hr
def g62 (f : Nat) (l_z l_f : Bool) (l : List PV) (a_D a_U : Int) (k : KR) : OR := bif pOk l then bif !hasP (PH.mk l (AV.mk a_D a_U)) then k (Res.mk (.tup [.ro 42 l_z l_f l, .sc (.int .i64 2)]) [] []) else G0 f (fun x0_0 x1_0 x2_0 => k (Res.mk (.tup [.ro 42 (Ent.vec false 42 x1_0 x2_0).nil false (List.take x0_0 x2_0), .sc (.int .i64 0)]) [] [])) f l_z l_f l (0) (0) a_D a_U true ([]) else none
theorem e62 (f : Nat) (l_z l_f : Bool) (l : List PV) (a_D a_U : Int) (k : KR) : JK tau F62 Try.f62 (Try.f62.body.get!) (Jxa (Jfi f)) [.ro, .ro] 0 [.ro 42 l_z l_f l, .st 42 [.sc (.int .i64 a_D), .sc (.int .i64 a_U)]] [] k = g62 f l_z l_f l a_D a_U k := by kernel_rfl
theorem JNA (f : Nat) : Jg (Try.f62.body.get!) (Jxa (Jfi f)) = [.l Jpn Jfh N62 (Jfi f)] := by kernel_rfl
theorem JNB (f : Nat) : ∀ q ∈ Jg (Try.f62.body.get!) (Jxa (Jfi f)), q.Ok tau Try.prog 0 := by rw [JNA f]; exact JL (JDD f) (fun _ h => nomatch h)
theorem JJw : Try.prog.funcs[62]? = some Try.f62 := by kernel_rfl
theorem JJx : Try.f62.body = some (Try.f62.body.get!) := by kernel_rfl
theorem JNC : Enters Try.prog 62 := enters_of JJw (by kernel_rfl) JJx
def Q8 : List PV -> AV -> Nat
 | [], _ => 0
 | p :: ps, a => bif ltA (av p) a then Q8 ps a + 1 else 0
def G1 (l : List PV) (a : AV) : List PV := l.take (Q8 l a) ++ adP a :: l.drop (Q8 l a)
theorem JbH : ∀ (l : List PV) (a : AV), Q8 l a <= l.length
 | [], _ => Nat.zero_le _
 | p :: ps, a => by
  simp only [Q8, List.length_cons]
  have := JbH ps a
  cases ltA (av p) a with
  | true => rw [cond_true]; omega
  | false => rw [cond_false]; omega
def JbI (x : PH) : Int := bif !inA [x.a.d, 2, x.a.u, 7] then 1 else bif hasL x.l x.a then 12 else bif decide (x.l.length >= 8) then 4 else 0
def adE : PH -> Int := hid JbI
def adL : PH -> List PV := hid fun x => bif JbI x == 0 then G1 x.l x.a else x.l
def adF : PH -> Bool := hid fun x => !(JbI x == 0)
theorem JtL (x : PH) : adE x = JbI x := by rw [adE, hid_eq]
theorem Jcn (x : PH) : adL x = bif JbI x == 0 then G1 x.l x.a else x.l := by rw [adL, hid_eq]
theorem Jm6 (x : PH) : adF x = !(JbI x == 0) := by rw [adF, hid_eq]
def Jxc (x : PH) : Int := bif hasL x.l x.a then 0 else 2
def rmA (l : List PV) (a : AV) : List PV := l.filter fun p => !eqA (av p) a
def rmE : PH -> Int := hid Jxc
def rmL : PH -> List PV := hid fun x => bif hasL x.l x.a then rmA x.l x.a else x.l
def rmZ : PH -> Bool -> Bool := hid fun x z => bif hasL x.l x.a then (rmA x.l x.a).isEmpty else z
def rmF : PH -> Bool -> Bool := hid fun x f => bif hasL x.l x.a then false else f
theorem JtM (x : PH) : rmE x = Jxc x := by rw [rmE, hid_eq]
theorem Jco (x : PH) : rmL x = bif hasL x.l x.a then rmA x.l x.a else x.l := by rw [rmL, hid_eq]
theorem Jm7 (x : PH) (z : Bool) : rmZ x z = bif hasL x.l x.a then (rmA x.l x.a).isEmpty else z := by rw [rmZ, hid_eq]
theorem JtN (x : PH) (z : Bool) : rmF x z = bif hasL x.l x.a then false else z := by rw [rmF, hid_eq]
theorem JzK (l : List PV) (d u : Int) (h1 : l.all V9 = true) (h2 : l.length <= 8) (f : Nat) (k0 : Bool -> Bool -> List PV -> Int -> Int -> Int -> OR) (z fl : Bool) : ∀ (e i n : Nat), i + e = l.length -> e < n ->
  GZ f k0 n z fl l (i : Int) d u = k0 z fl l ((i + Q8 (l.drop i) ⟨d, u⟩ : Nat) : Int) d u
 | 0, i, n + 1, hi, hn => by
   rw [List.drop_of_length_le (by omega)]
   simp only [GZ, JbD, Q8, Nat.add_zero]
   exact Jd (by simp [zi]; omega)
 | e + 1, i, n + 1, hi, hn => by
   have g1 := tI i
   have w1 := wI (i := i) (by omega)
   have hd := Qb (l := l) (i := i) (by omega)
   have hc := XM (XN h1 (i := i) (by omega))
   unfold GG at hc
   rw [hd]
   simp only [GZ, JbD, g1, w1, Joy]
   refine (Ja (by simp [zi]; omega)).trans ((Ja (by rw [hc]; simp [zi]; omega)).trans ?_)
   have he : ltA ⟨(PV.child 0 (l.getD i PV.top)).int, (PV.child (0 + 1) (l.getD i PV.top)).int⟩ ⟨d, u⟩ = ltA (av (l.getD i .top)) ⟨d, u⟩ := rfl
   rw [he, Q8]
   cases ltA (av (l.getD i .top)) ⟨d, u⟩ with
   | false => rfl
   | true =>
    refine (Ja rfl).trans ((JzK l d u h1 h2 f k0 z fl e (i + 1) n (by omega) (by omega)).trans ?_)
    rw [cond_true, show i + 1 + Q8 (l.drop (i + 1)) ⟨d, u⟩ = i + (Q8 (l.drop (i + 1)) ⟨d, u⟩ + 1) from by omega]
def Jm8 : JA
 | [.ro 42 z f l, .st 42 [.sc (.int .i64 d), .sc (.int .i64 u)]], [], k => bif pOk l then k ⟨.tup [.ro 42 (adF ⟨l, ⟨d, u⟩⟩ && z) (adF ⟨l, ⟨d, u⟩⟩ && f) (adL ⟨l, ⟨d, u⟩⟩), .sc (.int .i64 (adE ⟨l, ⟨d, u⟩⟩))], [], []⟩ else none
 | _, _, _ => none
def JJy : Sig := { own := [], run := Jm8 }
theorem JDE (z f : Bool) (l : List PV) (d u : Int) (h : pOk l = true) (k : KR) : g61 20 z f l d u k = k ⟨.tup [.ro 42 (adF ⟨l, ⟨d, u⟩⟩ && z) (adF ⟨l, ⟨d, u⟩⟩ && f) (adL ⟨l, ⟨d, u⟩⟩), .sc (.int .i64 (adE ⟨l, ⟨d, u⟩⟩))], [], []⟩ := by
 obtain ⟨h1, _, h3⟩ := QD.1 h
 unfold g61
 rw [hasP_eq, JtL, Jcn, Jm6, JbI]
 cases hu : inA [d, 2, u, 7] with
 | false => rfl
 | true =>
  refine (Jd rfl).trans ((Ja h).trans ?_)
  cases hh : hasL l ⟨d, u⟩ with
  | true => rfl
  | false =>
   refine (Jd rfl).trans ?_
   by_cases h8 : l.length >= 8
   · refine (Ja (by simp [zi]; omega)).trans ?_
     simp only [decide_eq_true h8, Bool.not_true, cond_false, cond_true]; rfl
   · refine (Jd (by simp [zi]; omega)).trans ?_
     simp only [decide_eq_false h8, Bool.not_true, cond_false]
     refine (JzK l d u h1 (by omega) 20 _ z f l.length 0 20 (by omega) (by omega)).trans ?_
     rw [List.drop_zero, Nat.zero_add]
     have hc := JbH l ⟨d, u⟩
     unfold G1
     simp only [Int.toNat_natCast]
     generalize Q8 l ⟨d, u⟩ = c at *
     have e0 : List.take l.length l = l := List.take_length
     have e1 : List.take (0 + (List.take c l).length) (List.take c l) = List.take c l := List.take_of_length_le (by omega)
     have e2 : ∀ p : PV, List.take (0 + (List.take c l).length + 1) (List.take c l ++ [p]) = List.take c l ++ [p] := fun p => List.take_of_length_le (by simp)
     have e3 : ∀ p : PV, List.take (0 + (List.take c l).length + 1 + (List.drop c l).length) (List.take c l ++ [p] ++ List.drop c l) = List.take c l ++ [p] ++ List.drop c l := fun p => List.take_of_length_le (by simp; omega)
     simp only [e0, e1, e2, e3]
     refine (Ja (by simp; omega)).trans ((Ja (by simp [Je]; omega)).trans ((Ja (by simp [Je]; omega)).trans ((Ja (by simp; omega)).trans ((Ja (by simp [Je]; omega)).trans ?_))))
     rw [List.append_assoc]; rfl
theorem JJz : Jc tau Try.prog 61 JJy := Jc.mk' fun xs es k res hl hr => by
 change Jm8 xs es k = some res at hr
 unfold Jm8 at hr
 split at hr
 · rename_i z f l d u
   obtain ⟨hc, hr⟩ := Jw hr
   exact J6 Jn JtG Jo JJu JJv (Jw8 (Jfg 20)) [.ro, .ro] 0 0 (JNy 20) hl rfl ((e61 20 z f l d u k).trans ((JDE z f l d u hc k).trans hr))
 · cases hr
theorem JtO (l : List PV) (d u : Int) (h1 : l.all V9 = true) (h2 : l.length <= 8) (f : Nat) (k0 : Nat -> Bool -> List PV -> OR) (z fl : Bool) : ∀ (e i n : Nat) (L : List PV), i + e = l.length -> e < n -> L.length <= i ->
  G0 f k0 n z fl l L.length (i : Int) d u L.isEmpty L = k0 (L ++ rmA (l.drop i) ⟨d, u⟩).length (L ++ rmA (l.drop i) ⟨d, u⟩).isEmpty (L ++ rmA (l.drop i) ⟨d, u⟩)
 | 0, i, n + 1, L, hi, hn, hL => by
   rw [List.drop_of_length_le (by omega)]
   simp only [G0, JbF, Zx, rmA, List.filter_nil, List.append_nil]
   exact Jd (by simp [zi]; omega)
 | e + 1, i, n + 1, L, hi, hn, hL => by
   have g1 := tI i
   have w1 := wI (i := i) (by omega)
   have hd := Qb (l := l) (i := i) (by omega)
   have ha := XN h1 (i := i) (by omega)
   have hc := XM ha
   unfold GG at hc
   rw [hd]
   simp only [G0, JbF, Zx, g1, w1]
   have hrd : (decide (0 <= (i : Int)) && decide ((i : Int) < zi l.length) && (PV.isSt 42 #[Field.mk "D" 3 0 false "" "" 0, Field.mk "U" 3 1 false "" "" 8].size (l.getD i PV.top) && (PV.isInt IntKind.i64 (PV.child 0 (l.getD i PV.top)) && (PV.isInt IntKind.i64 (PV.child (0 + 1) (l.getD i PV.top)) && true))) && true) = true := by rw [hc]; simp [zi]; omega
   refine (Ja (by simp [zi]; omega)).trans ((Ja hrd).trans ?_)
   have he : ((PV.child 0 (l.getD i PV.top)).int == d && ((PV.child (0 + 1) (l.getD i PV.top)).int == u && true)) = eqA (av (l.getD i .top)) ⟨d, u⟩ := rfl
   have hp : PV.st 42 [.sc (.int .i64 (PV.child 0 (l.getD i PV.top)).int), .sc (.int .i64 (PV.child (0 + 1) (l.getD i PV.top)).int)] = l.getD i .top := Jwq ha
   rw [he, hp, rmA, List.filter_cons]
   have tk : List.take L.length L = L := List.take_length
   cases eqA (av (l.getD i .top)) ⟨d, u⟩ with
   | true =>
    refine (Jd rfl).trans ((JtO l d u h1 h2 f k0 z fl e (i + 1) n L (by omega) (by omega) (by omega)).trans ?_)
    rfl
   | false =>
    have e1 : L.length + 1 = (L ++ [l.getD i .top]).length := by simp
    have e2 : (L.isEmpty && false) = (L ++ [l.getD i .top]).isEmpty := by simp
    refine (Ja rfl).trans ((Ja hrd).trans ((Ja (by simp [Je]; omega)).trans ?_))
    rw [tk, e1, e2]
    refine (JtO l d u h1 h2 f k0 z fl e (i + 1) n _ (by omega) (by omega) (by simp; omega)).trans ?_
    rw [List.append_assoc]; rfl
def Jm9 : JA
 | [.ro 42 z f l, .st 42 [.sc (.int .i64 d), .sc (.int .i64 u)]], [], k => bif pOk l then k ⟨.tup [.ro 42 (rmZ ⟨l, ⟨d, u⟩⟩ z) (rmF ⟨l, ⟨d, u⟩⟩ f) (rmL ⟨l, ⟨d, u⟩⟩), .sc (.int .i64 (rmE ⟨l, ⟨d, u⟩⟩))], [], []⟩ else none
 | _, _, _ => none
def JJA : Sig := { own := [], run := Jm9 }
theorem JDF (z f : Bool) (l : List PV) (d u : Int) (h : pOk l = true) (k : KR) : g62 20 z f l d u k = k ⟨.tup [.ro 42 (rmZ ⟨l, ⟨d, u⟩⟩ z) (rmF ⟨l, ⟨d, u⟩⟩ f) (rmL ⟨l, ⟨d, u⟩⟩), .sc (.int .i64 (rmE ⟨l, ⟨d, u⟩⟩))], [], []⟩ := by
 obtain ⟨h1, _, h3⟩ := QD.1 h
 unfold g62
 rw [hasP_eq, JtM, Jco, Jm7, JtN, Jxc]
 refine (Ja h).trans ?_
 cases hh : hasL l ⟨d, u⟩ with
 | false => rfl
 | true =>
  refine (Jd rfl).trans ((JtO l d u h1 h3 20 _ z f l.length 0 20 [] (by omega) (by omega) (by simp)).trans ?_)
  rw [List.drop_zero, List.nil_append, List.take_length]; rfl
theorem JJB : Jc tau Try.prog 62 JJA := Jc.mk' fun xs es k res hl hr => by
 change Jm9 xs es k = some res at hr
 unfold Jm9 at hr
 split at hr
 · rename_i z f l d u
   obtain ⟨hc, hr⟩ := Jw hr
   exact J6 Jn JtJ Jo JJw JJx (Jxa (Jfi 20)) [.ro, .ro] 0 0 (JNB 20) hl rfl ((e62 20 z f l d u k).trans ((JDF z f l d u hc k).trans hr))
 · cases hr
/-! what stays -/
theorem X9 {p : PV} {l : List PV} : srt (p :: l) = true ↔ (∀ q ∈ l, ltA (av p) (av q) = true) /\ srt l = true := by
 simp only [srt, Bool.and_eq_true, List.all_eq_true]
theorem G2 (P : PV -> Bool) : ∀ {l : List PV}, srt l = true -> srt (l.filter P) = true
 | [], _ => rfl
 | p :: l, h => by
  obtain ⟨h1, h2⟩ := X9.1 h
  rw [List.filter_cons]
  cases P p with
  | false => exact G2 P h2
  | true => exact X9.2 ⟨fun q hq => h1 q (List.mem_filter.1 hq).1, G2 P h2⟩
theorem JgC {a b c : AV} (h : ltA a b = true) (h2 : ltA b c = true) : ltA a c = true := by
 rw [Yq] at *; omega
theorem JtP {a b : AV} (h : ltA a b = false) (h2 : eqA a b = false) : ltA b a = true := by
 have h1 : ¬ ltA a b = true := by rw [h]; decide
 have h3 : ¬ eqA a b = true := by rw [h2]; decide
 rw [Yq] at h1
 rw [QS] at h3
 rw [Yq]
 rcases a with ⟨p, q⟩; rcases b with ⟨r, s⟩
 have : ¬ (p = r /\ q = s) := fun ⟨x, y⟩ => h3 (by rw [x, y])
 simp only at h1 ⊢
 omega
theorem JgD (p : PV) (l : List PV) (a : AV) : G1 (p :: l) a = bif ltA (av p) a then p :: G1 l a else adP a :: p :: l := by
 unfold G1
 simp only [Q8]
 cases ltA (av p) a with
 | true => simp
 | false => simp
theorem JbJ {a : AV} {q : PV} : ∀ {l : List PV}, q ∈ G1 l a -> q = adP a ∨ q ∈ l
 | [], h => by simp [G1, Q8] at h; exact .inl h
 | p :: l, h => by
  rw [JgD] at h
  cases hc : ltA (av p) a with
  | true =>
   rw [hc, cond_true] at h
   rcases List.mem_cons.1 h with h | h
   · exact .inr (h ▸ List.mem_cons_self)
   · rcases JbJ h with h | h
     · exact .inl h
     · exact .inr (List.mem_cons_of_mem _ h)
  | false =>
   rw [hc, cond_false] at h
   exact List.mem_cons.1 h
theorem Jj1 {a : AV} : ∀ {l : List PV}, srt l = true -> hasL l a = false -> srt (G1 l a) = true
 | [], _, _ => rfl
 | p :: l, h, hh => by
  obtain ⟨h1, h2⟩ := X9.1 h
  have hh2 : eqA (av p) a = false /\ hasL l a = false := by
   have : hasL (p :: l) a = (eqA (av p) a || hasL l a) := rfl
   rw [this, Bool.or_eq_false_iff] at hh; exact hh
  rw [JgD]
  cases hc : ltA (av p) a with
  | true =>
   rw [cond_true]
   refine X9.2 ⟨fun q hq => ?_, Jj1 h2 hh2.2⟩
   rcases JbJ hq with rfl | hq
   · exact hc
   · exact h1 q hq
  | false =>
   rw [cond_false]
   have hl := JtP hc hh2.1
   refine X9.2 ⟨fun q hq => ?_, h⟩
   rcases List.mem_cons.1 hq with rfl | hq
   · exact hl
   · exact JgC hl (h1 q hq)
theorem Vu (l : List PV) (a : AV) : (G1 l a).length = l.length + 1 := by
 have := JbH l a
 simp [G1]; omega
theorem Jxd {x : PH} (h : pOk x.l = true) : pOk (adL x) = true := by
 rw [Jcn]
 cases he : (JbI x == 0) with
 | false => exact h
 | true =>
  rw [cond_true]
  obtain ⟨h1, h2, h3⟩ := QD.1 h
  unfold JbI at he
  cases hu : inA [x.a.d, 2, x.a.u, 7] with
  | false => rw [hu] at he; exact absurd (show false = true from he) (by decide)
  | true =>
   rw [hu] at he
   cases hh : hasL x.l x.a with
   | true => rw [hh] at he; exact absurd (show false = true from he) (by decide)
   | false =>
    rw [hh] at he
    by_cases h8 : x.l.length >= 8
    · rw [decide_eq_true h8] at he; exact absurd (show false = true from he) (by decide)
    · refine QD.2 ⟨List.all_eq_true.2 fun q hq => ?_, Jj1 h2 hh, by rw [Vu]; omega⟩
      rcases JbJ hq with rfl | hq
      · rfl
      · exact List.all_eq_true.1 h1 q hq
theorem Jxe {x : PH} (h : pOk x.l = true) : pOk (rmL x) = true := by
 rw [Jco]
 cases hasL x.l x.a with
 | false => exact h
 | true =>
  obtain ⟨h1, h2, h3⟩ := QD.1 h
  exact QD.2 ⟨List.all_eq_true.2 fun q hq => List.all_eq_true.1 h1 q (List.mem_filter.1 hq).1, G2 _ h2, by have := List.length_filter_le (fun p => !eqA (av p) x.a) x.l; show (rmA x.l x.a).length <= 8; unfold rmA; omega⟩
def F24 : Fns := Js 62 JJA (Js 61 JJy (Js 60 JJs (Js 59 Jvx (Js 58 Jws (Js 16 JDr (Js 15 JC2 (F0)))))))
theorem JDG : Jq tau Try.prog F24 := (((((((Jt).add Jzp JIF).add JzB JDn).add Jsz JAt).add Jrk JAB).add JJt JNw).add JJz JNz).add JJB JNC
def JDH : An := (.seq .leaf (.seq .leaf (.seq (.seq .leaf (.cond (.seq .leaf .leaf) .leaf)) (.seq (.seq .leaf (.cond (.seq .leaf .leaf) .leaf)) (.seq (.seq .leaf (.cond (.seq .leaf .leaf) .leaf)) (.seq .leaf (.seq (.block none (.seq .leaf (.cond (.seq .leaf (.seq .leaf (.cond .leaf .leaf))) (.seq .leaf (.cond .leaf (.seq .leaf (.cond .leaf .leaf))))))) (.seq (.seq .leaf (.cond (.seq .leaf .leaf) .leaf)) (.seq (.seq .leaf (.cond (.seq .leaf .leaf) .leaf)) (.seq .leaf (.seq .leaf (.seq .leaf .leaf))))))))))))
abbrev Wj (y0 : Int) (y1 : Int) := [PV.sc (.int .i64 y0), PV.sc (.int .i64 y1)]
abbrev Xb (y7 : List PV) (y10 : List PV) (y11 : List PV) (e_At : Int) (e_Op : List PV) := (pu IntKind.u8 (nxP (NX.mk y7 (EV.mk y10 y11 e_At e_Op))))
abbrev Ya (y5 : List PV) (y10 : List PV) := (PH.mk y5 (AV.mk (dF 5 y10) (dF 6 y10)))
abbrev Jfj (y0 : Int) (y1 : Int) (y2 : ByteArray) (y3 : Bool) (y4 : Bool) (y5 : List PV) (y6 : Int) (y7 : List PV) := (Res.mk (PV.tup [PV.st 58 [PV.st 34 (Wj y0 y1), PV.sc (.string y2), PV.ro 42 y3 y4 y5, PV.sc (.int .i64 y6), PV.ar 37 y7], PV.sc (.int .i64 16)]) [] [])
def g24 (f : Nat) (y0 y1 : Int) (y2 : ByteArray) (y3 y4 : Bool) (y5 : List PV) (y6 : Int) (y7 : List PV) (y8 y9 : Bool) (y10 y11 : List PV) (e_At : Int) (y12 y13 : Bool) (e_Op y14 y15 : List PV) (k : KR) : OR := bif byB y10 && y10.length.ble 1000000000 then bif dE y10 != 0 then k (Res.mk (.tup [.st 58 [.st 34 (Wj y0 y1), .sc (.string y2), .ro 42 y3 y4 y5, .sc (.int .i64 y6), .ar 37 y7], .sc (.int .i64 (dE y10))]) [] []) else bif e_At != y6 then k (Res.mk (.tup [.st 58 [.st 34 (Wj y0 y1), .sc (.string y2), .ro 42 y3 y4 y5, .sc (.int .i64 y6), .ar 37 y7], .sc (.int .i64 15)]) [] []) else bif decide (dF 3 y10 > y6) then k (Res.mk (.tup [.st 58 [.st 34 (Wj y0 y1), .sc (.string y2), .ro 42 y3 y4 y5, .sc (.int .i64 y6), .ar 37 y7], .sc (.int .i64 15)]) [] []) else bif pOk y5 then bif !hasP (PH.mk y5 (AV.mk (dF 0 y10) (dF 1 y10))) then k (Res.mk (.tup [.st 58 [.st 34 (Wj y0 y1), .sc (.string y2), .ro 42 y3 y4 y5, .sc (.int .i64 y6), .ar 37 y7], .sc (.int .i64 13)]) [] []) else bif dF 4 y10 == 1 then bif cOk e_Op then bif ckO e_Op == 0 then bif aOk e_Op then bif apE (AP.mk y2 e_Op) != 0 then k (Res.mk (.tup [.st 58 [.st 34 (Wj y0 y1), .sc (.string y2), .ro 42 y3 y4 y5, .sc (.int .i64 y6), .ar 37 y7], .sc (.int .i64 (apE (AP.mk y2 e_Op)))]) [] []) else bif h32 y7 && eOk (EV.mk y10 y11 e_At e_Op) then bif decide (y14.length = 32) && decide ((Xb y7 y10 y11 e_At e_Op).length = 32) && Jl IntKind.u8 y14 && Jl IntKind.u8 (Xb y7 y10 y11 e_At e_Op) && true then bif !Qf y14 (Xb y7 y10 y11 e_At e_Op) then k (Jfj y0 y1 y2 y3 y4 y5 y6 y7) else k (Res.mk (.tup [.st 58 [.st 34 (Wj y0 y1), .sc (.string (apD (AP.mk y2 e_Op))), .ro 42 y3 y4 y5, .sc (.int .i64 (IntKind.i64.wrap (y6 + 1))), .ar 37 y14], .sc (.int .i64 0)]) [] []) else none else none else none else bif ckO e_Op != 0 then k (Res.mk (.tup [.st 58 [.st 34 (Wj y0 y1), .sc (.string y2), .ro 42 y3 y4 y5, .sc (.int .i64 y6), .ar 37 y7], .sc (.int .i64 (ckO e_Op))]) [] []) else bif h32 y7 && eOk (EV.mk y10 y11 e_At e_Op) then bif decide (y14.length = 32) && decide ((Xb y7 y10 y11 e_At e_Op).length = 32) && Jl IntKind.u8 y14 && Jl IntKind.u8 (Xb y7 y10 y11 e_At e_Op) && true then bif !Qf y14 (Xb y7 y10 y11 e_At e_Op) then k (Jfj y0 y1 y2 y3 y4 y5 y6 y7) else k (Res.mk (.tup [.st 58 [.st 34 (Wj y0 y1), .sc (.string y2), .ro 42 y3 y4 y5, .sc (.int .i64 (IntKind.i64.wrap (y6 + 1))), .ar 37 y14], .sc (.int .i64 0)]) [] []) else none else none else none else bif decide (zi e_Op.length > 0) then k (Res.mk (.tup [.st 58 [.st 34 (Wj y0 y1), .sc (.string y2), .ro 42 y3 y4 y5, .sc (.int .i64 y6), .ar 37 y7], .sc (.int .i64 1)]) [] []) else bif dF 4 y10 == 2 then bif pOk y5 then bif adE (Ya y5 y10) != 0 then k (Res.mk (.tup [.st 58 [.st 34 (Wj y0 y1), .sc (.string y2), .ro 42 y3 y4 y5, .sc (.int .i64 y6), .ar 37 y7], .sc (.int .i64 (adE (Ya y5 y10)))]) [] []) else bif h32 y7 && eOk (EV.mk y10 y11 e_At e_Op) then bif decide (y14.length = 32) && decide ((Xb y7 y10 y11 e_At e_Op).length = 32) && Jl IntKind.u8 y14 && Jl IntKind.u8 (Xb y7 y10 y11 e_At e_Op) && true then bif !Qf y14 (Xb y7 y10 y11 e_At e_Op) then k (Jfj y0 y1 y2 y3 y4 y5 y6 y7) else k (Res.mk (.tup [.st 58 [.st 34 (Wj y0 y1), .sc (.string y2), .ro 42 (adF (Ya y5 y10) && y3) (adF (Ya y5 y10) && y4) (adL (Ya y5 y10)), .sc (.int .i64 (IntKind.i64.wrap (y6 + 1))), .ar 37 y14], .sc (.int .i64 0)]) [] []) else none else none else none else bif pOk y5 then bif rmE (Ya y5 y10) != 0 then k (Res.mk (.tup [.st 58 [.st 34 (Wj y0 y1), .sc (.string y2), .ro 42 y3 y4 y5, .sc (.int .i64 y6), .ar 37 y7], .sc (.int .i64 (rmE (Ya y5 y10)))]) [] []) else bif h32 y7 && eOk (EV.mk y10 y11 e_At e_Op) then bif decide (y14.length = 32) && decide ((Xb y7 y10 y11 e_At e_Op).length = 32) && Jl IntKind.u8 y14 && Jl IntKind.u8 (Xb y7 y10 y11 e_At e_Op) && true then bif !Qf y14 (Xb y7 y10 y11 e_At e_Op) then k (Jfj y0 y1 y2 y3 y4 y5 y6 y7) else k (Res.mk (.tup [.st 58 [.st 34 (Wj y0 y1), .sc (.string y2), .ro 42 (rmZ (Ya y5 y10) y3) (rmF (Ya y5 y10) y4) (rmL (Ya y5 y10)), .sc (.int .i64 (IntKind.i64.wrap (y6 + 1))), .ar 37 y14], .sc (.int .i64 0)]) [] []) else none else none else none else none else none
theorem e24 (f : Nat) (y0 y1 : Int) (y2 : ByteArray) (y3 y4 : Bool) (y5 : List PV) (y6 : Int) (y7 : List PV) (y8 y9 : Bool) (y10 y11 : List PV) (e_At : Int) (y12 y13 : Bool) (e_Op y14 y15 : List PV) (k : KR) : JK tau F24 Try.f24 (Try.f24.body.get!) JDH [.ro, .ro] 0 [.st 58 [.st 34 [.sc (.int .i64 y0), .sc (.int .i64 y1)], .sc (.string y2), .ro 42 y3 y4 y5, .sc (.int .i64 y6), .ar 37 y7], .st 51 [.st 47 [.ro 5 y8 y9 y10, .ar 37 y11], .sc (.int .i64 e_At), .ro 113 y12 y13 e_Op, .ar 37 y14, .ar 37 y15]] [] k = g24 f y0 y1 y2 y3 y4 y5 y6 y7 y8 y9 y10 y11 e_At y12 y13 e_Op y14 y15 k := by kernel_rfl
theorem JND (f : Nat) : ∀ q ∈ Jg (Try.f24.body.get!) JDH, q.Ok tau Try.prog 0 := Jx (by kernel_rfl)
theorem JJC : Try.prog.funcs[24]? = some Try.f24 := by kernel_rfl
theorem JJD : Try.f24.body = some (Try.f24.body.get!) := by kernel_rfl
theorem JNE : Enters Try.prog 24 := enters_of JJC (by kernel_rfl) JJD
def JtQ : JA
 | [.st 58 [.st 34 [.sc (.int .i64 y0), .sc (.int .i64 y1)], .sc (.string y2), .ro 42 y3 y4 y5, .sc (.int .i64 y6), .ar 37 y7], .st 51 [.st 47 [.ro 5 y8 y9 y10, .ar 37 y11], .sc (.int .i64 e_At), .ro 113 y12 y13 e_Op, .ar 37 y14, .ar 37 y15]], [], k => g24 0 y0 y1 y2 y3 y4 y5 y6 y7 y8 y9 y10 y11 e_At y12 y13 e_Op y14 y15 k
 | _, _, _ => none
def s24 : Sig := { own := [], run := JtQ }
theorem JNF : Jc tau Try.prog 24 s24 := JP Jn JDG Jo JJC JJD JDH [.ro, .ro] 0 [] JtQ (JND 0) fun xs es k res hr => by
 unfold JtQ at hr
 split at hr
 · exact ⟨rfl, 0, (e24 0 _ _ _ _ _ _ _ _ _ _ _ _ _ _ _ _ _ _  _).trans hr⟩
 · cases hr
theorem JNG {τ : Tab} {m : Nat} {a : TypeId} {pvs : List PV} (h : TyL τ m [a] pvs) : ∃ p, pvs = [p] /\ Ty τ m a p := by
 match pvs, h with
 | [p], h => exact ⟨p, rfl, h.1⟩
theorem JNH {τ : Tab} {m : Nat} {a b c : TypeId} {pvs : List PV} (h : TyL τ m [a, b, c] pvs) : ∃ p q r, pvs = [p, q, r] /\ Ty τ m a p /\ Ty τ m b q /\ Ty τ m c r := by
 match pvs, h with
 | [p, q, r], h => exact ⟨p, q, r, rfl, h.1, h.2.1, h.2.2.1⟩
def F12 : Fns := F0
theorem JDI : Jq tau Try.prog F12 := Jt
def JDJ : An := (.seq .leaf (.seq .leaf (.seq .leaf .leaf)))
abbrev YC (b : List PV) := (List.take (Qh (zi b.length) 60).toNat b)
def g12 (f : Nat) (b_z b_f : Bool) (b : List PV) (k : KR) : OR := bif decide (0 <= Qh (zi b.length) 60) && true && decide ((Qh (zi b.length) 60).toNat <= b.length) && true then bif Je (2 + (YC b).length) 1 && true then bif Je (2 + (YC b).length) 1 && true then bif Je (2 + (YC b).length) 1 && true then k (Res.mk (.st 31 [.ro 5 false false (List.take (2 + (YC b).length) (.sc (.int .u8 107) :: .sc (.int .u8 48) :: id (YC b))), .ro 5 false false (List.take (2 + (YC b).length) (.sc (.int .u8 107) :: .sc (.int .u8 49) :: id (YC b))), .ro 5 false false (List.take (2 + (YC b).length) (.sc (.int .u8 107) :: .sc (.int .u8 50) :: id (YC b)))]) [] []) else none else none else none else none
theorem e12 (f : Nat) (b_z b_f : Bool) (b : List PV) (k : KR) : JK tau F12 Try.f12 (Try.f12.body.get!) JDJ [.ro] 0 [.ro 5 b_z b_f b] [] k = g12 f b_z b_f b k := by kernel_rfl
theorem JNI (f : Nat) : ∀ q ∈ Jg (Try.f12.body.get!) JDJ, q.Ok tau Try.prog 0 := Jx (by kernel_rfl)
theorem JJE : Try.prog.funcs[12]? = some Try.f12 := by kernel_rfl
theorem JJF : Try.f12.body = some (Try.f12.body.get!) := by kernel_rfl
theorem JNJ : Enters Try.prog 12 := enters_of JJE (by kernel_rfl) JJF
def JtR : JA
 | [.ro 5 b_z b_f b], [], k => g12 0 b_z b_f b k
 | _, _, _ => none
def s12 : Sig := { own := [], run := JtR }
theorem JNK : Jc tau Try.prog 12 s12 := JP Jn JDI Jo JJE JJF JDJ [.ro] 0 [] JtR (JNI 0) fun xs es k res hr => by
 unfold JtR at hr
 split at hr
 · exact ⟨rfl, 0, (e12 0 _ _ _  _).trans hr⟩
 · cases hr


def i64B (n : Int) : Bool := decide (-9223372036854775808 <= n) && decide (n < 9223372036854775808)
structure MsgOk (ns : List Int) (ts : List ByteArray) (h : List Int) : Prop where
 len : ns.length = 12
 num : ∀ n, n < 12 -> i64B (ns.getD n 0) = true
 cnt : ts.length <= 4
 txt : ∀ t ∈ ts, t.size <= 65535
 sum : h.length = 32
 sumB : ∀ x ∈ h, 0 <= x /\ x < 256
def kb : Nat -> List PV -> List PV := hid fun i b => pu .u8 [107, 48 + i] ++ b.take 60
theorem JzL (i : Nat) (b : List PV) : kb i b = pu .u8 [107, 48 + i] ++ b.take 60 := by rw [kb, hid_eq]
theorem JJG (i : Nat) {b : List PV} (h : Jl .u8 b = true) : kOk (kb i b) = true := by
 rw [JzL]; unfold kOk
 have h2 : Jl .u8 (b.take 60) = true := by
  rw [QC h, Yg]; simp
 rw [Wb, h2, JO]
 simp; omega
def Jna : JA
 | [.ro 5 z f b], [], k => k ⟨.st 31 [.ro 5 false false (kb 0 b), .ro 5 false false (kb 1 b), .ro 5 false false (kb 2 b)], [], []⟩
 | _, _, _ => none
def JJH : Sig := { own := [], run := Jna }
theorem JJI (n m : Nat) : (Qh (zi n) m).toNat = min n m := by unfold Qh; simp only [zi]; split <;> omega
theorem JJJ : Jc tau Try.prog 12 JJH := JNK.of fun xs es k res hr => by
 change Jna xs es k = some res at hr
 unfold Jna at hr
 split at hr
 · rename_i z f b
   show g12 0 z f b k = some res
   have hm : (Qh (zi b.length) 60).toNat = min b.length 60 := JJI b.length 60
   have ht : List.take (min b.length 60) b = b.take 60 := by rw [Nat.min_comm, List.take_eq_take_iff]; omega
   have hl : (b.take 60).length <= 60 := by simp; omega
   have e : ∀ x y : Int, List.take (2 + (b.take 60).length) (.sc (.int .u8 x) :: .sc (.int .u8 y) :: id (b.take 60)) = .sc (.int .u8 x) :: .sc (.int .u8 y) :: b.take 60 := fun x y => List.take_of_length_le (by simp; omega)
   have hk : ∀ i, kb i b = .sc (.int .u8 107) :: .sc (.int .u8 (48 + i)) :: b.take 60 := fun i => by rw [JzL]; simp
   unfold g12 YC
   simp only [hm, ht, e]
   have hr4 : Je (2 + (b.take 60).length) 1 = true := by simp only [Je, Nat.mul_one, decide_eq_true_eq]; omega
   rw [Ja (by simp; unfold Qh; simp only [zi]; split <;> omega), hr4]
   simp only [hk] at hr
   exact hr
 · cases hr
def JDK : Nat -> C13 -> Int
 | 0, c => 1 + c.kd % 5
 | 1, c => c.fr % 3
 | 2, c => (c.fr % 3 + 1 + c.to % 2) % 3
 | 3, c => c.wh % 3
 | 4, c => c.wn % 100
 | 5, c => c.cd % 3
 | 6, c => c.cu % 8
 | 7, c => c.ve % 1073741824
 | 8, c => c.co % 1073741824
 | 9, c => c.ad % 3
 | 10, c => c.au % 8
 | 11, c => c.su % 1073741824
 | _, c => c.er % 256
def YV : Nat -> C13 -> Int := hid JDK
abbrev JOG (c : C13) : C13 := ⟨YV 0 c, YV 1 c, YV 2 c, YV 3 c, YV 4 c, YV 5 c, YV 6 c, YV 7 c, YV 8 c, YV 9 c, YV 10 c, YV 11 c, YV 12 c⟩
def JtS (T : TypeId) : List TypeId := match tau.und T with | some (.struct fds) => fds.toList.map (·.type) | _ => []
theorem JtT {τ : Tab} {n : Nat} : ∀ (ts : List TypeId) (ps : List PV), ts.length = ps.length -> (∀ (i : Nat) (t : TypeId) (q : PV), ts[i]? = some t -> ps[i]? = some q -> Ty τ n t q) -> TyL τ n ts ps
 | [], [], _, _ => trivial
 | t :: ts, p :: ps, hl, h => ⟨h 0 t p rfl rfl, JtT ts ps (by simpa using hl) fun i t q h1 h2 => h (i + 1) t q (by simpa using h1) (by simpa using h2)⟩
 | [], _ :: _, hl, _ => by simp at hl
 | _ :: _, [], hl, _ => by simp at hl
theorem JtU {τ : Tab} {n : Nat} {t : TypeId} {ts : List TypeId} {ps : List PV} (h : TyL τ n (t :: ts) ps) : ∃ p r, ps = p :: r /\ Ty τ n t p /\ TyL τ n ts r := by
 cases ps with
 | nil => exact h.elim
 | cons p r => exact ⟨p, r, rfl, h.1, h.2⟩
theorem Jqr {n : Nat} {T : TypeId} {tys : List TypeId} {p : PV} (hc : JtS T = tys) (hne : tys ≠ []) (h : Ty tau (n + 1) T p) : ∃ fs, p = .st T fs /\ TyL tau n tys fs := by
 unfold JtS at hc
 split at hc
 · rename_i fds hu
   obtain ⟨fs, rfl, hl, hf⟩ := Jqj hu h
   refine ⟨fs, rfl, JtT tys fs (by rw [← hc]; simpa using hl.symm) fun i t q h1 h2 => ?_⟩
   rw [← hc, List.getElem?_map] at h1
   rw [Array.getElem?_toList] at h1
   cases hfi : fds[i]? with
   | none => rw [hfi] at h1; cases h1
   | some f =>
    rw [hfi] at h1
    obtain rfl := Option.some.inj h1
    exact hf i f q hfi h2
 · exact absurd hc.symm hne
theorem Jnb {n : Nat} {p : PV} (h : Ty tau (n + 1) 3 p) : ∃ x, p = .sc (.int .i64 x) /\ i64B x = true := by
 have u : tau.und 3 = some (.int .i64) := by kernel_rfl
 obtain ⟨x, rfl, hx⟩ := Jq6 u h
 refine ⟨x, rfl, ?_⟩
 have e1 : IntKind.i64.min = -9223372036854775808 := rfl
 have e2 : IntKind.i64.max = 9223372036854775807 := rfl
 simp only [Lit.wf, e1, e2, Bool.and_eq_true, decide_eq_true_eq] at hx
 simp only [i64B, Bool.and_eq_true, decide_eq_true_eq]
 omega
theorem Jxf {n : Nat} {p : PV} (h : Ty tau (n + 2) 57 p) : ∃ z l, p = .ro 3 z false l /\ (z = true -> l = []) /\ l.length <= maxLen /\ Jl .i64 l = true := by
 have u : tau.und 57 = some (.slice 3) := by kernel_rfl
 have u2 : tau.und 3 = some (.int .i64) := by kernel_rfl
 obtain ⟨z, b, rfl, h1, h2, h3⟩ := Jjn u h
 exact ⟨z, b, rfl, h1, h2, Jn2 u2 b h3⟩
theorem JJK {n : Int} (h : 0 < n) (h2 : n < 1000000000000) : okW n = true := by rw [GW, Bool.and_eq_true, decide_eq_true_eq, decide_eq_true_eq]; exact ⟨h, h2⟩
theorem Jqs (s : ByteArray) : YZ s s = true := by rw [Jn6]; exact decide_eq_true rfl
theorem Jj2 {l : List PV} (h : Jl .u8 l = true) : Qf l l = true := by
 rw [QC h, Jca]; exact beq_self_eq_true _
structure EW where
 (b m : List PV) (at1 : Int) (o h mc : List PV)
theorem Jdw (x : Int) {m : Int} (h : 0 < m) : 0 <= x % m /\ x % m < m := ⟨Int.emod_nonneg _ (by omega), Int.emod_lt_of_pos _ h⟩
structure SV where
 (ih iN : Int) (doc : ByteArray) (l : List PV) (ver : Int) (hash : List PV)
structure DX where
 (s : SV) (e : EW)
def Zy (e : EW) : EV := ⟨e.b, e.m, e.at1, e.o⟩
def auA (b : List PV) : AV := ⟨dF 0 b, dF 1 b⟩
def whA (b : List PV) : AV := ⟨dF 5 b, dF 6 b⟩
def chE (x : DX) : Int := bif dF 4 x.e.b == 1 then (bif ckO x.e.o == 0 then apE ⟨x.s.doc, x.e.o⟩ else ckO x.e.o) else bif decide (zi x.e.o.length > 0) then 1 else bif dF 4 x.e.b == 2 then adE ⟨x.s.l, whA x.e.b⟩ else rmE ⟨x.s.l, whA x.e.b⟩
def chD (x : DX) : ByteArray := bif dF 4 x.e.b == 1 then apD ⟨x.s.doc, x.e.o⟩ else x.s.doc
def chL (x : DX) : List PV := bif dF 4 x.e.b == 1 then x.s.l else bif dF 4 x.e.b == 2 then adL ⟨x.s.l, whA x.e.b⟩ else rmL ⟨x.s.l, whA x.e.b⟩
def chZ (x : DX) (z : Bool) : Bool := bif dF 4 x.e.b == 1 then z else bif dF 4 x.e.b == 2 then (adF ⟨x.s.l, whA x.e.b⟩ && z) else rmZ ⟨x.s.l, whA x.e.b⟩ z
def chF (x : DX) (f : Bool) : Bool := bif dF 4 x.e.b == 1 then f else bif dF 4 x.e.b == 2 then (adF ⟨x.s.l, whA x.e.b⟩ && f) else rmF ⟨x.s.l, whA x.e.b⟩ f
def dsE0 (x : DX) : Int := bif dE x.e.b != 0 then dE x.e.b else bif x.e.at1 != x.s.ver then 15 else bif decide (dF 3 x.e.b > x.s.ver) then 15 else bif !hasP ⟨x.s.l, auA x.e.b⟩ then 13 else bif chE x != 0 then chE x else bif !Qf x.e.h (pu .u8 (nxP ⟨x.s.hash, Zy x.e⟩)) then 16 else 0
def dsE : DX -> Int := hid dsE0
def dsD : DX -> ByteArray := hid fun x => bif dsE0 x == 0 then chD x else x.s.doc
def dsL : DX -> List PV := hid fun x => bif dsE0 x == 0 then chL x else x.s.l
def dsZ : DX -> Bool -> Bool := hid fun x z => bif dsE0 x == 0 then chZ x z else z
def dsF : DX -> Bool -> Bool := hid fun x z => bif dsE0 x == 0 then chF x z else z
def dsV : DX -> Int := hid fun x => bif dsE0 x == 0 then x.s.ver + 1 else x.s.ver
def dsH : DX -> List PV := hid fun x => bif dsE0 x == 0 then x.e.h else x.s.hash
theorem Jcp (x : DX) : dsE x = dsE0 x := by rw [dsE, hid_eq]
theorem Jfk (x : DX) : dsD x = bif dsE0 x == 0 then chD x else x.s.doc := by rw [dsD, hid_eq]
theorem Jcq (x : DX) : dsL x = bif dsE0 x == 0 then chL x else x.s.l := by rw [dsL, hid_eq]
theorem Jfl (x : DX) (z : Bool) : dsZ x z = bif dsE0 x == 0 then chZ x z else z := by rw [dsZ, hid_eq]
theorem JtV (x : DX) (z : Bool) : dsF x z = bif dsE0 x == 0 then chF x z else z := by rw [dsF, hid_eq]
theorem Vv (x : DX) : dsV x = bif dsE0 x == 0 then x.s.ver + 1 else x.s.ver := by rw [dsV, hid_eq]
theorem G3 (x : DX) : dsH x = bif dsE0 x == 0 then x.e.h else x.s.hash := by rw [dsH, hid_eq]
def uOk (l : List PV) : Bool := l.all fun p => inA [(av p).d, 2, (av p).u, 7]
def sOk : SV -> Bool := hid fun s => pOk s.l && (h32 s.hash && (decide (0 <= s.ver) && (decide (s.ver <= 1000000) && (decide (s.doc.size <= 120) && uOk s.l))))
theorem Xf {s : SV} : sOk s = true ↔ pOk s.l = true /\ h32 s.hash = true /\ 0 <= s.ver /\ s.ver <= 1000000 /\ s.doc.size <= 120 /\ uOk s.l = true := by
 rw [sOk, hid_eq]; simp only [Bool.and_eq_true, decide_eq_true_eq]
def eD : EW -> Bool := hid fun e => byB e.b && (eOk (Zy e) && (cOk e.o && h32 e.h))
theorem G4 {e : EW} : eD e = true ↔ byB e.b = true /\ eOk (Zy e) = true /\ cOk e.o = true /\ h32 e.h = true := by
 rw [eD, hid_eq]; simp only [Bool.and_eq_true]
def stP (s : SV) (z f : Bool) : PV := .st 58 [.st 34 [.sc (.int .i64 s.ih), .sc (.int .i64 s.iN)], .sc (.string s.doc), .ro 42 z f s.l, .sc (.int .i64 s.ver), .ar 37 s.hash]
def dsS (x : DX) : SV := ⟨x.s.ih, x.s.iN, dsD x, dsL x, dsV x, dsH x⟩
def dsP (x : DX) (z f : Bool) : PV := .tup [stP (dsS x) (dsZ x z) (dsF x f), .sc (.int .i64 (dsE x))]
theorem Jio {x : DX} (h0 : (dsE0 x == 0) = false) : dsS x = x.s := by
 unfold dsS; rw [Jfk, Jcq, Vv, G3, h0]; rfl
theorem VV {x : DX} {e : Int} (h : dsE0 x = e) (h0 : (e == 0) = false) (z f : Bool) : dsP x z f = .tup [stP x.s z f, .sc (.int .i64 e)] := by
 have h1 : (dsE0 x == 0) = false := by rw [h]; exact h0
 unfold dsP; rw [Jio h1, Jfl, JtV, Jcp, h, h0]; rfl
theorem JDL {x : DX} (h : dsE0 x = 0) (z f : Bool) : dsP x z f = .tup [stP ⟨x.s.ih, x.s.iN, chD x, chL x, x.s.ver + 1, x.e.h⟩ (chZ x z) (chF x f), .sc (.int .i64 0)] := by
 unfold dsP dsS; rw [Jfk, Jcq, Vv, G3, Jfl, JtV, Jcp, h]; rfl
def Jnc : JA
 | [.st 58 [.st 34 [.sc (.int .i64 ih), .sc (.int .i64 iN)], .sc (.string doc), .ro 42 z f l, .sc (.int .i64 ver), .ar 37 hash], .st 51 [.st 47 [.ro 5 bz bf b, .ar 37 m], .sc (.int .i64 at1), .ro 113 oz of o, .ar 37 h, .ar 37 mc]], [], k =>
  bif sOk ⟨ih, iN, doc, l, ver, hash⟩ && eD ⟨b, m, at1, o, h, mc⟩ then k ⟨.tup [.st 58 [.st 34 [.sc (.int .i64 ih), .sc (.int .i64 iN)], .sc (.string (dsD ⟨⟨ih, iN, doc, l, ver, hash⟩, ⟨b, m, at1, o, h, mc⟩⟩)), .ro 42 (dsZ ⟨⟨ih, iN, doc, l, ver, hash⟩, ⟨b, m, at1, o, h, mc⟩⟩ z) (dsF ⟨⟨ih, iN, doc, l, ver, hash⟩, ⟨b, m, at1, o, h, mc⟩⟩ f) (dsL ⟨⟨ih, iN, doc, l, ver, hash⟩, ⟨b, m, at1, o, h, mc⟩⟩), .sc (.int .i64 (dsV ⟨⟨ih, iN, doc, l, ver, hash⟩, ⟨b, m, at1, o, h, mc⟩⟩)), .ar 37 (dsH ⟨⟨ih, iN, doc, l, ver, hash⟩, ⟨b, m, at1, o, h, mc⟩⟩)], .sc (.int .i64 (dsE ⟨⟨ih, iN, doc, l, ver, hash⟩, ⟨b, m, at1, o, h, mc⟩⟩))], [], []⟩ else none
 | _, _, _ => none
def JJL : Sig := { own := [], run := Jnc }
theorem JDM (x : DX) (z f bz bf oz of : Bool) (hs : sOk x.s = true) (he : eD x.e = true) (k : KR) :
  g24 0 x.s.ih x.s.iN x.s.doc z f x.s.l x.s.ver x.s.hash bz bf x.e.b x.e.m x.e.at1 oz of x.e.o x.e.h x.e.mc k = k ⟨dsP x z f, [], []⟩ := by
 obtain ⟨s1, s2, s3, s4, s5, s6⟩ := Xf.1 hs
 obtain ⟨e1, e2, e3, e4⟩ := G4.1 he
 have hbl : Nat.ble x.e.b.length 1000000000 = true := by have := (WH.1 e2).2.1; rw [Nat.ble_eq]; show x.e.b.length <= _; have : x.e.b.length <= 65535 := this; omega
 have hev : EV.mk x.e.b x.e.m x.e.at1 x.e.o = Zy x.e := rfl
 have hau : AV.mk (dF 0 x.e.b) (dF 1 x.e.b) = auA x.e.b := rfl
 have hwh : AV.mk (dF 5 x.e.b) (dF 6 x.e.b) = whA x.e.b := rfl
 have w1 : IntKind.i64.wrap (x.s.ver + 1) = x.s.ver + 1 := wrap_i64 (by omega) (by omega)
 unfold g24 Jfj Ya Xb Wj
 simp only [hev, hau, hwh, w1]
 have hnl : (pu .u8 (nxP ⟨x.s.hash, Zy x.e⟩)).length = 32 := by rw [JG]; exact X7 _
 have HP : ∀ (A B : OR), (bif h32 x.s.hash && eOk (Zy x.e) then bif decide (x.e.h.length = 32) && decide ((pu .u8 (nxP ⟨x.s.hash, Zy x.e⟩)).length = 32) && Jl .u8 x.e.h && Jl .u8 (pu .u8 (nxP ⟨x.s.hash, Zy x.e⟩)) && true then bif !Qf x.e.h (pu .u8 (nxP ⟨x.s.hash, Zy x.e⟩)) then A else B else none else none) = bif !Qf x.e.h (pu .u8 (nxP ⟨x.s.hash, Zy x.e⟩)) then A else B := fun A B =>
  (Ja (by rw [s2, e2]; rfl)).trans (Ja (by rw [(h32_iff.1 e4).1, (h32_iff.1 e4).2, hnl, JO]; rfl))
 refine (Ja (by rw [e1, hbl]; rfl)).trans ?_
 cases h1 : (dE x.e.b != 0) with
 | true => exact (Ja rfl).trans (by rw [VV (e := dE x.e.b) (Ja h1) (by simpa [bne] using h1)]; rfl)
 | false =>
 refine (Jd rfl).trans ?_
 cases h2 : (x.e.at1 != x.s.ver) with
 | true => exact (Ja rfl).trans (by rw [VV (e := 15) ((Jd h1).trans (Ja h2)) rfl]; rfl)
 | false =>
 refine (Jd rfl).trans ?_
 cases h3 : decide (dF 3 x.e.b > x.s.ver) with
 | true => exact (Ja rfl).trans (by rw [VV (e := 15) ((Jd h1).trans ((Jd h2).trans (Ja h3))) rfl]; rfl)
 | false =>
 refine (Jd rfl).trans ((Ja s1).trans ?_)
 cases h4 : (!hasP ⟨x.s.l, auA x.e.b⟩) with
 | true => exact (Ja rfl).trans (by rw [VV (e := 13) ((Jd h1).trans ((Jd h2).trans ((Jd h3).trans (Ja h4)))) rfl]; rfl)
 | false =>
 refine (Jd rfl).trans ?_
 have pre : ∀ {r : Int}, (bif chE x != 0 then chE x else bif !Qf x.e.h (pu .u8 (nxP ⟨x.s.hash, Zy x.e⟩)) then 16 else 0) = r -> dsE0 x = r := fun h => (Jd h1).trans ((Jd h2).trans ((Jd h3).trans ((Jd h4).trans h)))
 have bad : ∀ {r : Int}, chE x = r -> (r != 0) = true -> dsP x z f = .tup [stP x.s z f, .sc (.int .i64 r)] := fun {r} h h0 => VV (pre ((Ja (by rw [h]; exact h0)).trans h)) (by simpa [bne] using h0) z f
 have fin : chE x = 0 -> (bif !Qf x.e.h (pu .u8 (nxP ⟨x.s.hash, Zy x.e⟩)) then k ⟨.tup [stP x.s z f, .sc (.int .i64 16)], [], []⟩ else k ⟨.tup [stP ⟨x.s.ih, x.s.iN, chD x, chL x, x.s.ver + 1, x.e.h⟩ (chZ x z) (chF x f), .sc (.int .i64 0)], [], []⟩) = k ⟨dsP x z f, [], []⟩ := fun h => by
  cases h6 : (!Qf x.e.h (pu .u8 (nxP ⟨x.s.hash, Zy x.e⟩))) with
  | true => rw [VV (pre ((Jd (by rw [h]; rfl)).trans (Ja h6))) rfl]; rfl
  | false => rw [JDL (pre ((Jd (by rw [h]; rfl)).trans (Jd h6)))]; rfl
 cases h5 : (dF 4 x.e.b == 1) with
 | true =>
  refine (Ja rfl).trans ((Ja e3).trans ?_)
  cases hc : (ckO x.e.o == 0) with
  | false =>
   have hE : chE x = ckO x.e.o := (Ja h5).trans (Jd hc)
   have hn : (ckO x.e.o != 0) = true := by simpa [bne] using hc
   refine (Jd rfl).trans ((Ja hn).trans ?_)
   rw [bad hE hn]; rfl
  | true =>
   refine (Ja rfl).trans ((Ja (JmU e3 (by simpa using hc))).trans ?_)
   have hE : chE x = apE ⟨x.s.doc, x.e.o⟩ := (Ja h5).trans (Ja hc)
   cases ha : (apE ⟨x.s.doc, x.e.o⟩ != 0) with
   | true => refine (Ja rfl).trans ?_; rw [bad hE ha]; rfl
   | false =>
    have cd : chD x = apD ⟨x.s.doc, x.e.o⟩ := Ja h5
    have cl : chL x = x.s.l := Ja h5
    have cz : chZ x z = z := Ja h5
    have cf : chF x f = f := Ja h5
    refine (Jd rfl).trans ((HP _ _).trans (Eq.trans ?_ (fin (hE.trans (by simpa [bne] using ha)))))
    rw [cd, cl, cz, cf]; rfl
 | false =>
  refine (Jd rfl).trans ?_
  have cd : chD x = x.s.doc := Jd h5
  cases h6 : decide (zi x.e.o.length > 0) with
  | true =>
   have hE : chE x = 1 := (Jd h5).trans (Ja h6)
   refine (Ja rfl).trans ?_; rw [bad hE rfl]; rfl
  | false =>
   refine (Jd rfl).trans ?_
   cases h7 : (dF 4 x.e.b == 2) with
   | true =>
    have hE : chE x = adE ⟨x.s.l, whA x.e.b⟩ := (Jd h5).trans ((Jd h6).trans (Ja h7))
    refine (Ja rfl).trans ((Ja s1).trans ?_)
    cases ha : (adE ⟨x.s.l, whA x.e.b⟩ != 0) with
    | true => refine (Ja rfl).trans ?_; rw [bad hE ha]; rfl
    | false =>
     have cl : chL x = adL ⟨x.s.l, whA x.e.b⟩ := (Jd h5).trans (Ja h7)
     have cz : chZ x z = (adF ⟨x.s.l, whA x.e.b⟩ && z) := (Jd h5).trans (Ja h7)
     have cf : chF x f = (adF ⟨x.s.l, whA x.e.b⟩ && f) := (Jd h5).trans (Ja h7)
     refine (Jd rfl).trans ((HP _ _).trans (Eq.trans ?_ (fin (hE.trans (by simpa [bne] using ha)))))
     rw [cd, cl, cz, cf]; rfl
   | false =>
    have hE : chE x = rmE ⟨x.s.l, whA x.e.b⟩ := (Jd h5).trans ((Jd h6).trans (Jd h7))
    refine (Jd rfl).trans ((Ja s1).trans ?_)
    cases ha : (rmE ⟨x.s.l, whA x.e.b⟩ != 0) with
    | true => refine (Ja rfl).trans ?_; rw [bad hE ha]; rfl
    | false =>
     have cl : chL x = rmL ⟨x.s.l, whA x.e.b⟩ := (Jd h5).trans (Jd h7)
     have cz : chZ x z = rmZ ⟨x.s.l, whA x.e.b⟩ z := (Jd h5).trans (Jd h7)
     have cf : chF x f = rmF ⟨x.s.l, whA x.e.b⟩ f := (Jd h5).trans (Jd h7)
     refine (Jd rfl).trans ((HP _ _).trans (Eq.trans ?_ (fin (hE.trans (by simpa [bne] using ha)))))
     rw [cd, cl, cz, cf]; rfl
theorem JJM : Jc tau Try.prog 24 JJL := JNF.of fun xs es k res hr => by
 change Jnc xs es k = some res at hr
 unfold Jnc at hr
 split at hr
 · rename_i ih iN doc z f l ver hash bz bf b m at1 oz of o h mc
   obtain ⟨hc, hr⟩ := Jw hr
   rw [Bool.and_eq_true] at hc
   exact (JDM ⟨⟨ih, iN, doc, l, ver, hash⟩, ⟨b, m, at1, o, h, mc⟩⟩ z f bz bf oz of hc.1 hc.2 k).trans hr
 · cases hr
theorem Jxg {x : PH} (h : uOk x.l = true) : uOk (adL x) = true := by
 rw [Jcn]
 cases he : (JbI x == 0) with
 | false => exact h
 | true =>
  rw [cond_true]
  refine List.all_eq_true.2 fun q hq => ?_
  rcases JbJ hq with rfl | hq
  · unfold JbI at he
    cases hu : inA [x.a.d, 2, x.a.u, 7] with
    | false => rw [hu] at he; exact absurd (show false = true from he) (by decide)
    | true => exact hu
  · exact List.all_eq_true.1 h q hq
theorem Jxh {x : PH} (h : uOk x.l = true) : uOk (rmL x) = true := by
 rw [Jco]
 cases hasL x.l x.a with
 | false => exact h
 | true => exact List.all_eq_true.2 fun q hq => List.all_eq_true.1 h q (List.mem_filter.1 hq).1
theorem Jpp {x : DX} (hs : sOk x.s = true) (he : eD x.e = true) (hv : x.s.ver < 1000000) : sOk (dsS x) = true := by
 cases h : (dsE0 x == 0) with
 | false => rw [Jio h]; exact hs
 | true =>
  obtain ⟨s1, s2, s3, s4, s5, s6⟩ := Xf.1 hs
  obtain ⟨e1, e2, e3, e4⟩ := G4.1 he
  have hE : dsE0 x = 0 := by simpa using h
  unfold dsS
  rw [Jfk, Jcq, Vv, G3, h]
  refine Xf.2 ⟨?_, e4, by show 0 <= x.s.ver + 1; omega, by show x.s.ver + 1 <= 1000000; omega, ?_, ?_⟩
  rotate_left 2
  · show uOk (chL x) = true
    unfold chL
    cases dF 4 x.e.b == 1 with
    | true => exact s6
    | false =>
     cases dF 4 x.e.b == 2 with
     | true => exact Jxg (x := ⟨x.s.l, whA x.e.b⟩) s6
     | false => exact Jxh (x := ⟨x.s.l, whA x.e.b⟩) s6
  · show pOk (chL x) = true
    unfold chL
    cases dF 4 x.e.b == 1 with
    | true => exact s1
    | false =>
     cases dF 4 x.e.b == 2 with
     | true => exact Jxd (x := ⟨x.s.l, whA x.e.b⟩) s1
     | false => exact Jxe (x := ⟨x.s.l, whA x.e.b⟩) s1
  · show (chD x).size <= 120
    unfold chD
    cases h5 : (dF 4 x.e.b == 1) with
    | false => exact s5
    | true =>
     show (apD ⟨x.s.doc, x.e.o⟩).size <= 120
     cases hc : (ckO x.e.o == 0) with
     | true => exact JtF (x := ⟨x.s.doc, x.e.o⟩) (JmU e3 (by simpa using hc))
     | false =>
      have hn : ckO x.e.o ≠ 0 := by simpa using hc
      have hE2 : chE x = ckO x.e.o := (Ja h5).trans (Jd hc)
      exfalso
      unfold dsE0 at hE
      rw [hE2] at hE
      cases h1 : (dE x.e.b != 0) with
      | true => rw [h1] at hE; rw [show dE x.e.b = 0 from hE] at h1; exact absurd h1 (by decide)
      | false =>
       rw [h1] at hE
       cases h2 : (x.e.at1 != x.s.ver) with
       | true => rw [h2] at hE; exact absurd (show (15 : Int) = 0 from hE) (by decide)
       | false =>
        rw [h2] at hE
        cases h3 : decide (dF 3 x.e.b > x.s.ver) with
        | true => rw [h3] at hE; exact absurd (show (15 : Int) = 0 from hE) (by decide)
        | false =>
         rw [h3] at hE
         cases h4 : (!hasP ⟨x.s.l, auA x.e.b⟩) with
         | true => rw [h4] at hE; exact absurd (show (13 : Int) = 0 from hE) (by decide)
         | false =>
          rw [h4] at hE
          have hE : (bif ckO x.e.o != 0 then ckO x.e.o else bif !Qf x.e.h (pu .u8 (nxP ⟨x.s.hash, Zy x.e⟩)) then 16 else 0) = 0 := hE
          rw [show (ckO x.e.o != 0) = true from by simpa [bne] using hn] at hE
          exact hn hE
structure SW where
 (a b : SV)
def wOk : SV -> Bool := hid fun s => Jcj s.l && h32 s.hash
theorem Jxi {s : SV} : wOk s = true ↔ Jcj s.l = true /\ h32 s.hash = true := by rw [wOk, hid_eq, Bool.and_eq_true]
def JtW : JA
 | [], [], k => k ⟨.sc (.bool true), [], []⟩
 | _, _, _ => none
def s9' : Sig := { own := [], run := JtW }
theorem JNL : Jc tau Try.prog 9 s9' := ok9.of fun xs es k res hr => by
 change JtW xs es k = some res at hr
 unfold JtW at hr
 split at hr
 · refine Eq.trans ?_ hr
   show g9 0 _ = _
   unfold g9
   exact Ja (by rw [Vj, hid_eq]; rfl)
 · cases hr
def F10 : Fns := F0
theorem JDN : Jq tau Try.prog F10 := Jt
def JDO : An := (.seq .leaf (.seq .leaf .leaf))
def g10 (f : Nat) (l_z l_f : Bool) (l : List PV) (k : KR) : OR := k (Res.mk (.sc (.bool (decide (zi l.length <= 25)))) [] [])
theorem e10 (f : Nat) (l_z l_f : Bool) (l : List PV) (k : KR) : JK tau F10 Try.f10 (Try.f10.body.get!) JDO [.ro] 0 [.ro 69 l_z l_f l] [] k = g10 f l_z l_f l k := by kernel_rfl
theorem JNM (f : Nat) : ∀ q ∈ Jg (Try.f10.body.get!) JDO, q.Ok tau Try.prog 0 := Jx (by kernel_rfl)
theorem JJN : Try.prog.funcs[10]? = some Try.f10 := by kernel_rfl
theorem JJO : Try.f10.body = some (Try.f10.body.get!) := by kernel_rfl
theorem JNN : Enters Try.prog 10 := enters_of JJN (by kernel_rfl) JJO
def JtX : JA
 | [.ro 69 l_z l_f l], [], k => g10 0 l_z l_f l k
 | _, _, _ => none
def s10 : Sig := { own := [], run := JtX }
theorem JNO : Jc tau Try.prog 10 s10 := JP Jn JDN Jo JJN JJO JDO [.ro] 0 [] JtX (JNM 0) fun xs es k res hr => by
 unfold JtX at hr
 split at hr
 · exact ⟨rfl, 0, (e10 0 _ _ _  _).trans hr⟩
 · cases hr
def F17 : Fns := Js 53 Jwk (Js 51 JwX (F0))
theorem JDP : Jq tau Try.prog F17 := ((Jt).add Jtb JDd).add Jsr Jwa
def JDQ : An := (.seq .leaf (.seq .leaf (.seq .leaf (.seq .leaf .leaf))))
abbrev Jnd (y0 : Int) (id_N : Int) (y1 : Int) (y2 : Int) := (List.take (apI (apI (apI (apI [] y0) id_N) y1) y2).length (apI (apI (apI (apI [] y0) id_N) y1) y2))
def g17 (f : Nat) (y0 id_N y1 y2 : Int) (k : KR) : OR := bif okL (apI [] y0).length (apI [] y0) then bif okL (apI (apI [] y0) id_N).length (apI (apI [] y0) id_N) then bif okL (apI (apI (apI [] y0) id_N) y1).length (apI (apI (apI [] y0) id_N) y1) then bif Jl IntKind.u8 (Jnd y0 id_N y1 y2) && decide ((Jnd y0 id_N y1 y2).length <= 140737488355000) then k (Res.mk (.st 58 [.st 34 [.sc (.int .i64 y0), .sc (.int .i64 id_N)], .sc (.string (ByteArray.mk #[])), .ro 42 false false [.st 42 [.sc (.int .i64 y1), .sc (.int .i64 y2)]], .sc (.int .i64 0), .ar 37 (pu IntKind.u8 (JZ (JD (Jnd y0 id_N y1 y2))))]) [] []) else none else none else none else none
theorem e17 (f : Nat) (y0 id_N y1 y2 : Int) (k : KR) : JK tau F17 Try.f17 (Try.f17.body.get!) JDQ [.ro] 0 [.st 34 [.sc (.int .i64 y0), .sc (.int .i64 id_N)], .st 42 [.sc (.int .i64 y1), .sc (.int .i64 y2)]] [] k = g17 f y0 id_N y1 y2 k := by kernel_rfl
theorem JNP (f : Nat) : ∀ q ∈ Jg (Try.f17.body.get!) JDQ, q.Ok tau Try.prog 0 := Jx (by kernel_rfl)
theorem JJP : Try.prog.funcs[17]? = some Try.f17 := by kernel_rfl
theorem JJQ : Try.f17.body = some (Try.f17.body.get!) := by kernel_rfl
theorem JNQ : Enters Try.prog 17 := enters_of JJP (by kernel_rfl) JJQ
def JtY : JA
 | [.st 34 [.sc (.int .i64 y0), .sc (.int .i64 id_N)], .st 42 [.sc (.int .i64 y1), .sc (.int .i64 y2)]], [], k => g17 0 y0 id_N y1 y2 k
 | _, _, _ => none
def s17 : Sig := { own := [], run := JtY }
theorem JNR : Jc tau Try.prog 17 s17 := JP Jn JDP Jo JJP JJQ JDQ [.ro] 0 [] JtY (JNP 0) fun xs es k res hr => by
 unfold JtY at hr
 split at hr
 · exact ⟨rfl, 0, (e17 0 _ _ _ _  _).trans hr⟩
 · cases hr
def F18 : Fns := F0
theorem JDR : Jq tau Try.prog F18 := Jt
def JDS : An := (.seq .leaf (.seq .leaf (.seq (.seq .leaf (.cond .leaf .leaf)) (.seq .leaf .leaf))))
def g18 (f : Nat) (at1 n : Int) (k : KR) : OR := bif !decide (n = 0) && true then bif decide (at1.tmod n < 0) then k (Res.mk (.sc (.int .i64 (IntKind.i64.wrap (at1.tmod n + n)))) [] []) else k (Res.mk (.sc (.int .i64 (at1.tmod n))) [] []) else none
theorem e18 (f : Nat) (at1 n : Int) (k : KR) : JK tau F18 Try.f18 (Try.f18.body.get!) JDS [.ro] 0 [.sc (.int .i64 at1), .sc (.int .i64 n)] [] k = g18 f at1 n k := by kernel_rfl
theorem JNS (f : Nat) : ∀ q ∈ Jg (Try.f18.body.get!) JDS, q.Ok tau Try.prog 0 := Jx (by kernel_rfl)
theorem JJR : Try.prog.funcs[18]? = some Try.f18 := by kernel_rfl
theorem JJS : Try.f18.body = some (Try.f18.body.get!) := by kernel_rfl
theorem JJT : Enters Try.prog 18 := enters_of JJR (by kernel_rfl) JJS
def JtZ : JA
 | [.sc (.int .i64 at1), .sc (.int .i64 n)], [], k => g18 0 at1 n k
 | _, _, _ => none
def s18 : Sig := { own := [], run := JtZ }
theorem JNT : Jc tau Try.prog 18 s18 := JP Jn JDR Jo JJR JJS JDS [.ro] 0 [] JtZ (JNS 0) fun xs es k res hr => by
 unfold JtZ at hr
 split at hr
 · exact ⟨rfl, 0, (e18 0 _ _  _).trans hr⟩
 · cases hr
def Jne : JA
 | [.sc (.int .i64 a), .sc (.int .i64 n)], [], k => bif okW n then k ⟨.sc (.int .i64 (a % n)), [], []⟩ else none
 | _, _, _ => none
def JDT : Sig := { own := [], run := Jne }
theorem JDU (a n : Int) (h : 0 < n) (h2 : n < 1000000000000) (k : KR) : g18 0 a n k = k ⟨.sc (.int .i64 (a % n)), [], []⟩ := by
 have hn : (n == 0) = false := by simp; omega
 have e := Int.tmod_eq_emod (a := a) (b := n)
 have e0 := Int.emod_nonneg a (show n ≠ 0 by omega)
 have e1 := Int.emod_lt_of_pos a h
 have hna : (n.natAbs : Int) = n := by omega
 unfold g18
 refine (Ja (by simp; omega)).trans ?_
 by_cases hc : a.tmod n < 0
 · refine (Ja (by simpa using hc)).trans ?_
   have : IntKind.i64.wrap (a.tmod n + n) = a % n := by
    split at e <;> (rw [wrap_i64 (by omega) (by omega)]; omega)
   rw [this]
 · refine (Jd (by simpa using hc)).trans ?_
   have : a.tmod n = a % n := by split at e <;> omega
   rw [this]
theorem JzM : Jc tau Try.prog 18 JDT := JNT.of fun xs es k res hr => by
 change Jne xs es k = some res at hr
 unfold Jne at hr
 split at hr
 · obtain ⟨hc, hr⟩ := Jw hr
   simp only [GW, Bool.and_eq_true, decide_eq_true_eq] at hc
   exact (JDU _ _ hc.1 hc.2 _).trans hr
 · cases hr
def F56 : Fns := Js 18 JDT (F0)
theorem JDV : Jq tau Try.prog F56 := (Jt).add JzM JJT
def JDW : An := (.seq .leaf (.seq .leaf .leaf))
def g56 (f : Nat) (n : Int) (k : KR) : OR := bif okW 3 then bif okW 4 then k (Res.mk (.st 42 [.sc (.int .i64 (n % 3)), .sc (.int .i64 (IntKind.i64.wrap (n.tdiv 3) % 4))]) [] []) else none else none
theorem e56 (f : Nat) (n : Int) (k : KR) : JK tau F56 Try.f56 (Try.f56.body.get!) JDW [.ro] 0 [.sc (.int .i64 n)] [] k = g56 f n k := by kernel_rfl
theorem JNU (f : Nat) : ∀ q ∈ Jg (Try.f56.body.get!) JDW, q.Ok tau Try.prog 0 := Jx (by kernel_rfl)
theorem JJU : Try.prog.funcs[56]? = some Try.f56 := by kernel_rfl
theorem JJV : Try.f56.body = some (Try.f56.body.get!) := by kernel_rfl
theorem JNV : Enters Try.prog 56 := enters_of JJU (by kernel_rfl) JJV
def Jt0 : JA
 | [.sc (.int .i64 n)], [], k => g56 0 n k
 | _, _, _ => none
def s56 : Sig := { own := [], run := Jt0 }
theorem JNW : Jc tau Try.prog 56 s56 := JP Jn JDV Jo JJU JJV JDW [.ro] 0 [] Jt0 (JNU 0) fun xs es k res hr => by
 unfold Jt0 at hr
 split at hr
 · exact ⟨rfl, 0, (e56 0 _  _).trans hr⟩
 · cases hr
def JJW : Fns := F0
theorem Jxj : Jq tau Try.prog JJW := Jt
def Jt1 : An := (.seq .leaf (.seq .leaf (.seq (.seq .leaf (.cond .leaf .leaf)) (.seq .leaf .leaf))))
def Jxk (f : Nat) (at1 n : Int) (k : KR) : OR := bif !decide (n = 0) && true then bif decide (at1.tmod n < 0) then k (Res.mk (.sc (.int .i64 (IntKind.i64.wrap (at1.tmod n + n)))) [] []) else k (Res.mk (.sc (.int .i64 (at1.tmod n))) [] []) else none
theorem JNX (f : Nat) (at1 n : Int) (k : KR) : JK tau JJW Try.f100 (Try.f100.body.get!) Jt1 [.ro] 0 [.sc (.int .i64 at1), .sc (.int .i64 n)] [] k = Jxk f at1 n k := by kernel_rfl
theorem JJX (f : Nat) : ∀ q ∈ Jg (Try.f100.body.get!) Jt1, q.Ok tau Try.prog 0 := Jx (by kernel_rfl)
theorem JzN : Try.prog.funcs[100]? = some Try.f100 := by kernel_rfl
theorem JzO : Try.f100.body = some (Try.f100.body.get!) := by kernel_rfl
theorem JJY : Enters Try.prog 100 := enters_of JzN (by kernel_rfl) JzO
def Jnf : JA
 | [.sc (.int .i64 at1), .sc (.int .i64 n)], [], k => Jxk 0 at1 n k
 | _, _, _ => none
def JNY : Sig := { own := [], run := Jnf }
theorem JJZ : Jc tau Try.prog 100 JNY := JP Jn Jxj Jo JzN JzO Jt1 [.ro] 0 [] Jnf (JJX 0) fun xs es k res hr => by
 unfold Jnf at hr
 split at hr
 · exact ⟨rfl, 0, (JNX 0 _ _  _).trans hr⟩
 · cases hr
def Jip : JA
 | [.sc (.int .i64 a), .sc (.int .i64 n)], [], k => bif okW n then k ⟨.sc (.int .i64 (a % n)), [], []⟩ else none
 | _, _, _ => none
def JzP : Sig := { own := [], run := Jip }
theorem Jxl (a n : Int) (h : 0 < n) (h2 : n < 1000000000000) (k : KR) : Jxk 0 a n k = k ⟨.sc (.int .i64 (a % n)), [], []⟩ := by
 have hn : (n == 0) = false := by simp; omega
 have e := Int.tmod_eq_emod (a := a) (b := n)
 have e0 := Int.emod_nonneg a (show n ≠ 0 by omega)
 have e1 := Int.emod_lt_of_pos a h
 have hna : (n.natAbs : Int) = n := by omega
 unfold Jxk
 refine (Ja (by simp; omega)).trans ?_
 by_cases hc : a.tmod n < 0
 · refine (Ja (by simpa using hc)).trans ?_
   have : IntKind.i64.wrap (a.tmod n + n) = a % n := by
    split at e <;> (rw [wrap_i64 (by omega) (by omega)]; omega)
   rw [this]
 · refine (Jd (by simpa using hc)).trans ?_
   have : a.tmod n = a % n := by split at e <;> omega
   rw [this]
theorem JDX : Jc tau Try.prog 100 JzP := JJZ.of fun xs es k res hr => by
 change Jip xs es k = some res at hr
 unfold Jip at hr
 split at hr
 · obtain ⟨hc, hr⟩ := Jw hr
   simp only [GW, Bool.and_eq_true, decide_eq_true_eq] at hc
   exact (Jxl _ _ hc.1 hc.2 _).trans hr
 · cases hr
def N57 : Nat := 114
def F57 : Fns := Js 100 JzP (F0)
theorem Jt2 : Jq tau Try.prog F57 := (Jt).add JDX JJY
def Jpq : Code := Qj (Try.f57.body.get!) [1, 1, 1, 0, 1, 0, 0]
def Jfm : Nm := [(0, .any), (1, .any), (5, .own), (6, .any), (7, .any)]
def Jng : Nm := [(0, .any), (1, .any), (5, .any), (6, .any)]
def Jt3 : An := (.seq (.seq .leaf (.cond .leaf .leaf)) (.seq (.block none (.seq .leaf (.seq .leaf (.block none (.seq (.seq .leaf (.cond .leaf .leaf)) (.cond (.seq .leaf .leaf) (.seq .leaf (.cond (.seq .leaf .leaf) (.seq .leaf (.cond (.seq .leaf (.seq .leaf (.cond (.seq .leaf .leaf) .leaf))) .leaf)))))))))) .leaf))
def Jxm (r0 : Qz) : An := (.seq .leaf (.seq .leaf (.seq .leaf (.seq (.seq .leaf (.block none (.sum Jfm N57 r0))) (.seq (.seq .leaf (.cond .leaf .leaf)) (.seq (.seq .leaf (.cond .leaf .leaf)) (.seq .leaf .leaf)))))))
abbrev Jt4 := Int -> Bool -> Bool -> List PV -> Nat -> Int -> Int -> Bool -> List PV -> OR
abbrev Q2 (v3 : List PV) (v6 : Int) := (1 + IntKind.i64.wrap ((v3.getD v6.toNat PV.top).int.tdiv 7) % 5)
abbrev QJ (v3 : List PV) (v6 : Int) := ((ByteArray.mk (Array.mk (u8l [97, 98, 99, 100, 101, 102, 103, 104, 105, 106]))).extract 0 (IntKind.i64.wrap (Q2 v3 v6)).toNat)
abbrev QA (v0 : Int) (v3 : List PV) (v6 : Int) := (1 + IntKind.i64.wrap ((v3.getD v6.toNat PV.top).int.tdiv 7) % Qh v0 9)
abbrev Wk (v0 : Int) (v3 : List PV) (v6 : Int) := (IntKind.i64.wrap (v0 - IntKind.i64.wrap (QA v0 v3 v6)))
def VW (f : Nat) (rc : Jt4) (k0 : Int -> Bool -> Bool -> List PV -> Nat -> Int -> Bool -> List PV -> OR) (v0 : Int) (v1 v2 : Bool) (v3 : List PV) (v4 : Nat) (v5 v6 : Int) (v7 : Bool) (v8 : List PV) : OR := bif decide (v6 < zi v3.length) then bif decide (v6 < 12) then bif decide (v0 > 0) then bif decide (0 <= v6) && decide (v6 < zi v3.length) && PV.isInt IntKind.i64 (v3.getD v6.toNat PV.top) && true then bif okW (Qh v0 9) then bif decide (0 <= v6) && decide (v6 < zi v3.length) && PV.isInt IntKind.i64 (v3.getD v6.toNat PV.top) && true then bif okW 4 then bif (v3.getD v6.toNat PV.top).int % 4 == 0 then bif (v3.getD v6.toNat PV.top).int % 4 == 0 then bif Je (v4 + 1) 32 && true then rc (Wk v0 v3 v6) v1 v2 v3 (v4 + 1) v5 (IntKind.i64.wrap (v6 + 1)) (v7 && false) (List.take v4 v8 ++ [.st 113 [.sc (.int .i64 1), .sc (.int .i64 (IntKind.i64.wrap (QA v0 v3 v6))), .sc (.string (ByteArray.mk #[]))]]) else none else bif (v3.getD v6.toNat PV.top).int % 4 == 2 then bif Je (v4 + 1) 32 && true then rc (Wk v0 v3 v6) v1 v2 v3 (v4 + 1) (IntKind.i64.wrap (v5 - IntKind.i64.wrap (QA v0 v3 v6))) (IntKind.i64.wrap (v6 + 1)) (v7 && false) (List.take v4 v8 ++ [.st 113 [.sc (.int .i64 3), .sc (.int .i64 (IntKind.i64.wrap (QA v0 v3 v6))), .sc (.string (ByteArray.mk #[]))]]) else none else bif (v3.getD v6.toNat PV.top).int % 4 == 3 then bif decide (0 <= v6) && decide (v6 < zi v3.length) && PV.isInt IntKind.i64 (v3.getD v6.toNat PV.top) && true then bif okW 5 then bif decide (0 <= IntKind.i64.wrap (Q2 v3 v6)) && true && decide ((IntKind.i64.wrap (Q2 v3 v6)).toNat <= 10) && true then bif decide (IntKind.i64.wrap (v5 + zi (QJ v3 v6).size) <= 120) then bif Je (v4 + 1) 32 && true then rc v0 v1 v2 v3 (v4 + 1) (IntKind.i64.wrap (v5 + zi (QJ v3 v6).size)) (IntKind.i64.wrap (v6 + 1)) (v7 && false) (List.take v4 v8 ++ [.st 113 [.sc (.int .i64 2), .sc (.int .i64 0), .sc (.string (QJ v3 v6))]]) else none else rc v0 v1 v2 v3 v4 v5 (IntKind.i64.wrap (v6 + 1)) v7 v8 else none else none else none else rc v0 v1 v2 v3 v4 v5 (IntKind.i64.wrap (v6 + 1)) v7 v8 else bif (v3.getD v6.toNat PV.top).int % 4 == 1 then bif Je (v4 + 1) 32 && true then rc (Wk v0 v3 v6) v1 v2 v3 (v4 + 1) v5 (IntKind.i64.wrap (v6 + 1)) (v7 && false) (List.take v4 v8 ++ [.st 113 [.sc (.int .i64 1), .sc (.int .i64 (IntKind.i64.wrap (QA v0 v3 v6))), .sc (.string (ByteArray.mk #[]))]]) else none else bif (v3.getD v6.toNat PV.top).int % 4 == 2 then bif Je (v4 + 1) 32 && true then rc (Wk v0 v3 v6) v1 v2 v3 (v4 + 1) (IntKind.i64.wrap (v5 - IntKind.i64.wrap (QA v0 v3 v6))) (IntKind.i64.wrap (v6 + 1)) (v7 && false) (List.take v4 v8 ++ [.st 113 [.sc (.int .i64 3), .sc (.int .i64 (IntKind.i64.wrap (QA v0 v3 v6))), .sc (.string (ByteArray.mk #[]))]]) else none else bif (v3.getD v6.toNat PV.top).int % 4 == 3 then bif decide (0 <= v6) && decide (v6 < zi v3.length) && PV.isInt IntKind.i64 (v3.getD v6.toNat PV.top) && true then bif okW 5 then bif decide (0 <= IntKind.i64.wrap (Q2 v3 v6)) && true && decide ((IntKind.i64.wrap (Q2 v3 v6)).toNat <= 10) && true then bif decide (IntKind.i64.wrap (v5 + zi (QJ v3 v6).size) <= 120) then bif Je (v4 + 1) 32 && true then rc v0 v1 v2 v3 (v4 + 1) (IntKind.i64.wrap (v5 + zi (QJ v3 v6).size)) (IntKind.i64.wrap (v6 + 1)) (v7 && false) (List.take v4 v8 ++ [.st 113 [.sc (.int .i64 2), .sc (.int .i64 0), .sc (.string (QJ v3 v6))]]) else none else rc v0 v1 v2 v3 v4 v5 (IntKind.i64.wrap (v6 + 1)) v7 v8 else none else none else none else rc v0 v1 v2 v3 v4 v5 (IntKind.i64.wrap (v6 + 1)) v7 v8 else none else none else none else none else k0 v0 v1 v2 v3 v4 v5 v7 v8 else k0 v0 v1 v2 v3 v4 v5 v7 v8 else k0 v0 v1 v2 v3 v4 v5 v7 v8
def YD (f : Nat) (k0 : Int -> Bool -> Bool -> List PV -> Nat -> Int -> Bool -> List PV -> OR) : Nat -> Jt4
 | 0 => fun _ _ _ _ _ _ _ _ _ => none
 | n + 1 => VW f (YD f k0 n) k0
def JbK (k : Kont) := fun x0 x1 x2 x3 x4 x5 x6 x7 => k (Ex.exit 0) (Jj Jng N57 [.sc (.int .i64 x0), .ro 3 x1 x2 x3, .ow 113 1840 [] 0 x4 none, .sc (.int .i64 x5)] [(1840, .vec false 113 x6 x7)])
def Jnh (f : Nat) (k : Kont) (n : Nat) (v0 : Int) (v1 v2 : Bool) (v3 : List PV) (v4 : Nat) (v5 v6 : Int) (v7 : Bool) (v8 : List PV) : OR := Jy tau 0 Jfm (fun s k => ev tau F57 0 0 Jpq (Jt3 ) s k) n (Jj Jfm N57 [.sc (.int .i64 v0), .ro 3 v1 v2 v3, .ow 113 1840 [] 0 v4 none, .sc (.int .i64 v5), .sc (.int .i64 v6)] [(1840, .vec false 113 v7 v8)]) (JI tau 0 Jng k)
theorem Jxn (f : Nat) (k : Kont) (n : Nat) : Jnh f k (n + 1) = VW f (Jnh f k n) (JbK k) := by kernel_rfl
theorem Jpr (f : Nat) (k : Kont) : ∀ n, Jnh f k n = YD f (JbK k) n
 | 0 => rfl
 | n + 1 => (Jxn f k n).trans (congrArg (fun r => VW f r (JbK k)) (Jpr f k n))
def Jfn (f : Nat) : List PV -> List (Nat × Ent) -> Kont -> OR
 | [.sc (.int .i64 v0), .ro 3 v1 v2 v3, .ow 113 1840 [] 0 v4 none, .sc (.int .i64 v5),
 PV.sc
  (Value.int IntKind.i64
   v6)], [(1840,
  Ent.vec false 113 v7
   v8)], k => YD f (JbK k) f v0 v1 v2 v3 v4 v5 v6 v7 v8
 | _, _, _ => none
theorem JDY (f : Nat) : Jg Jpq Jt3 = [] := by kernel_rfl
theorem JDZ (f : Nat) : (Item.l Jpq Jfm N57 (Jfn f)).Ok tau Try.prog 0 := Ju Jn Jt2 Jo (x := Jt3) (nm2 := Jng) (Jk _ _ (by rw [JDY f]; intro q hq; cases hq)) fun vs hp k res hr => by
 unfold Jfn at hr
 split at hr
 · rw [← Jpr f] at hr; exact ⟨f, 0, hr⟩
 · cases hr
abbrev Jfo := [PV.sc (.int .i64 2), PV.sc (.int .i64 0), PV.sc (.string (ByteArray.mk (Array.mk (u8l [122]))))]
def g57 (f : Nat) (n : Int) (ns_z ns_f : Bool) (ns : List PV) (k : KR) : OR := YD f (fun x0_0 _ _ JR x4_0 x5_0 x6_0 x7_0 => bif decide (x0_0 > 0) then bif Je (x4_0 + 1) 32 && true then bif decide (zi JR.length > 0) then bif decide (0 < zi JR.length) && PV.isInt IntKind.i64 (JR.getD 0 PV.top) && true then bif okW 3 then bif IntKind.i64.wrap ((JR.getD 0 PV.top).int.tdiv 3) % 3 == 0 then bif decide (x5_0 <= 115) then bif Je (x4_0 + 1 + 1) 32 && true then k (Res.mk (.ro 113 (Ent.vec false 113 (x6_0 && false && false) (List.take (x4_0 + 1) (List.take x4_0 x7_0 ++ [.st 113 [.sc (.int .i64 1), .sc (.int .i64 x0_0), .sc (.string (ByteArray.mk #[]))]]) ++ [.st 113 Jfo])).nil false (List.take (x4_0 + 1 + 1) (List.take (x4_0 + 1) (List.take x4_0 x7_0 ++ [.st 113 [.sc (.int .i64 1), .sc (.int .i64 x0_0), .sc (.string (ByteArray.mk #[]))]]) ++ [.st 113 Jfo]))) [] []) else none else k (Res.mk (.ro 113 (Ent.vec false 113 (x6_0 && false) (List.take x4_0 x7_0 ++ [.st 113 [.sc (.int .i64 1), .sc (.int .i64 x0_0), .sc (.string (ByteArray.mk #[]))]])).nil false (List.take (x4_0 + 1) (List.take x4_0 x7_0 ++ [.st 113 [.sc (.int .i64 1), .sc (.int .i64 x0_0), .sc (.string (ByteArray.mk #[]))]]))) [] []) else k (Res.mk (.ro 113 (Ent.vec false 113 (x6_0 && false) (List.take x4_0 x7_0 ++ [.st 113 [.sc (.int .i64 1), .sc (.int .i64 x0_0), .sc (.string (ByteArray.mk #[]))]])).nil false (List.take (x4_0 + 1) (List.take x4_0 x7_0 ++ [.st 113 [.sc (.int .i64 1), .sc (.int .i64 x0_0), .sc (.string (ByteArray.mk #[]))]]))) [] []) else none else none else k (Res.mk (.ro 113 (Ent.vec false 113 (x6_0 && false) (List.take x4_0 x7_0 ++ [.st 113 [.sc (.int .i64 1), .sc (.int .i64 x0_0), .sc (.string (ByteArray.mk #[]))]])).nil false (List.take (x4_0 + 1) (List.take x4_0 x7_0 ++ [.st 113 [.sc (.int .i64 1), .sc (.int .i64 x0_0), .sc (.string (ByteArray.mk #[]))]]))) [] []) else none else bif decide (zi JR.length > 0) then bif decide (0 < zi JR.length) && PV.isInt IntKind.i64 (JR.getD 0 PV.top) && true then bif okW 3 then bif IntKind.i64.wrap ((JR.getD 0 PV.top).int.tdiv 3) % 3 == 0 then bif decide (x5_0 <= 115) then bif Je (x4_0 + 1) 32 && true then k (Res.mk (.ro 113 (Ent.vec false 113 (x6_0 && false) (List.take x4_0 x7_0 ++ [.st 113 Jfo])).nil false (List.take (x4_0 + 1) (List.take x4_0 x7_0 ++ [.st 113 Jfo]))) [] []) else none else k (Res.mk (.ro 113 (Ent.vec false 113 x6_0 x7_0).nil false (List.take x4_0 x7_0)) [] []) else k (Res.mk (.ro 113 (Ent.vec false 113 x6_0 x7_0).nil false (List.take x4_0 x7_0)) [] []) else none else none else k (Res.mk (.ro 113 (Ent.vec false 113 x6_0 x7_0).nil false (List.take x4_0 x7_0)) [] [])) f n ns_z ns_f ns (0) n (0) true ([])
theorem e57 (f : Nat) (n : Int) (ns_z ns_f : Bool) (ns : List PV) (k : KR) : JK tau F57 Try.f57 (Try.f57.body.get!) (Jxm (Jfn f)) [.ro] 0 [.sc (.int .i64 n), .ro 3 ns_z ns_f ns] [] k = g57 f n ns_z ns_f ns k := by kernel_rfl
theorem JNZ (f : Nat) : Jg (Try.f57.body.get!) (Jxm (Jfn f)) = [.l Jpq Jfm N57 (Jfn f)] := by kernel_rfl
theorem JN0 (f : Nat) : ∀ q ∈ Jg (Try.f57.body.get!) (Jxm (Jfn f)), q.Ok tau Try.prog 0 := by rw [JNZ f]; exact JL (JDZ f) (fun _ h => nomatch h)
theorem JJ0 : Try.prog.funcs[57]? = some Try.f57 := by kernel_rfl
theorem JJ1 : Try.f57.body = some (Try.f57.body.get!) := by kernel_rfl
theorem JN1 : Enters Try.prog 57 := enters_of JJ0 (by kernel_rfl) JJ1
theorem Vw {l : List PV} (h : Jl .i64 l = true) {i : Nat} (hi : i < l.length) : (l.getD i .top).isInt .i64 = true := by
 induction l generalizing i with
 | nil => simp at hi
 | cons p ps ih =>
  have e : Jl .i64 (p :: ps) = (p.isInt .i64 && Jl .i64 ps) := rfl
  rw [e, Bool.and_eq_true] at h
  cases i with
  | zero => exact h.1
  | succ i => simpa using ih h.2 (by simpa using hi)
theorem isE (L : List PV) (x : PV) : (L ++ [x]).isEmpty = false := by cases L <;> rfl
theorem Jj3 (L : List PV) (x y : PV) : (L ++ [x, y]).isEmpty = false := by cases L <;> rfl
theorem Jt5 (c z fl : Bool) (ns : List PV) (hns : Jl .i64 ns = true) (h2 : ns.length <= 9223372036854775807) (f : Nat) (k0 : Int -> Bool -> Bool -> List PV -> Nat -> Int -> Bool -> List PV -> OR) (R : List PV -> OR)
  (hk : ∀ (n out : Int) (L : List PV), 0 <= n -> n <= out -> out <= 120 -> L.length <= 12 -> k0 n z fl ns L.length out L.isEmpty L = R (L ++ mkE c n out)) :
  ∀ (b i m : Nat) (n out : Int) (L : List PV), i + b = 12 -> b < m -> 0 <= n -> n <= out -> out <= 120 -> L.length <= i ->
   YD f k0 m n z fl ns L.length out (i : Int) L.isEmpty L = R (L ++ YT c b n out (ns.drop i))
 | 0, i, m + 1, n, out, L, hi, hm, h3, h4, h5, hL => by
   have e : YT c 0 n out (ns.drop i) = mkE c n out := rfl
   rw [e]
   simp only [YD, VW, Wk, QA, QJ, Q2]
   by_cases hc : i < ns.length
   · refine (Ja (by simp [zi]; omega)).trans ((Jd (by simp; omega)).trans (hk n out L h3 h4 h5 (by omega)))
   · exact (Jd (by simp [zi]; omega)).trans (hk n out L h3 h4 h5 (by omega))
 | b + 1, i, m + 1, n, out, L, hi, hm, h3, h4, h5, hL => by
   by_cases hc : ¬ i < ns.length
   · rw [List.drop_of_length_le (by omega)]
     simp only [YD, VW, Wk, QA, QJ, Q2]
     exact (Jd (by simp [zi]; omega)).trans (hk n out L h3 h4 h5 (by omega))
   have hc := Decidable.not_not.1 hc
   rw [Qb hc]
   have g1 := tI i
   have w1 := wI (i := i) (by omega)
   have hin := Vw hns hc
   have tk : List.take L.length L = L := List.take_length
   have e1 : ∀ x : PV, L.length + 1 = (L ++ [x]).length := fun x => by simp
   have e2 : ∀ x : PV, (L.isEmpty && false) = (L ++ [x]).isEmpty := fun x => by simp
   simp only [YD, VW, Wk, QA, QJ, Q2, g1, w1, hin, tk]
   generalize ns.getD i .top = p at *
   refine (Ja (by simp [zi]; omega)).trans ((Ja (by simp; omega)).trans ?_)
   have hrd : (decide (0 <= (i : Int)) && decide ((i : Int) < zi ns.length) && true && true) = true := by simp [zi]; omega
   have hro : (Je (L.length + 1) 32 && true) = true := by simp [Je]; omega
   by_cases hn : ¬ n > 0
   · refine (Jd (by simp; omega)).trans ((hk n out L h3 h4 h5 (by omega)).trans ?_)
     have : YT c (b + 1) n out (p :: ns.drop (i + 1)) = mkE c n out := by simp only [YT]; exact Jd (by simp; omega)
     rw [this]
   have hn := Decidable.not_not.1 hn
   obtain ⟨k1, k2, k3⟩ := Jtu (x := p.int) hn
   obtain ⟨m1, m2, m3⟩ := Jpg hn
   obtain ⟨s1, s2⟩ := Jtv p.int
   have wK : IntKind.i64.wrap (1 + IntKind.i64.wrap (p.int.tdiv 7) % Qh n 9) = mkK p.int n := wrap_i64 (by show _ <= mkK p.int n; omega) (by show mkK p.int n < _; omega)
   have wS : IntKind.i64.wrap (1 + IntKind.i64.wrap (p.int.tdiv 7) % 5) = mkS p.int := wrap_i64 (by show _ <= mkS p.int; omega) (by show mkS p.int < _; omega)
   have wN : IntKind.i64.wrap (n - mkK p.int n) = n - mkK p.int n := wrap_i64 (by omega) (by omega)
   have wO : IntKind.i64.wrap (out - mkK p.int n) = out - mkK p.int n := wrap_i64 (by omega) (by omega)
   have hab : (ByteArray.mk (Array.mk (u8l [97, 98, 99, 100, 101, 102, 103, 104, 105, 106]))).extract 0 (mkS p.int).toNat = JfQ (mkS p.int) := rfl
   have hsz : zi (JfQ (mkS p.int)).size = mkS p.int := JgA (by omega) (by omega)
   have wP : IntKind.i64.wrap (out + mkS p.int) = out + mkS p.int := wrap_i64 (by omega) (by omega)
   simp only [wK, wS, wN, wO, hab, hsz, wP]
   refine (Ja (by simpa using hn)).trans ((Ja hrd).trans ((Ja (by rw [GW, Bool.and_eq_true, decide_eq_true_eq, decide_eq_true_eq]; omega)).trans ((Ja hrd).trans ((Ja (by rw [GW]; rfl)).trans ?_))))
   have hmk : YT c (b + 1) n out (p :: ns.drop (i + 1)) = (bif p.int % 4 == 0 || p.int % 4 == 1 then kpP (mkK p.int n) :: YT c b (n - mkK p.int n) out (ns.drop (i + 1))
     else bif p.int % 4 == 2 then ctP (mkK p.int n) :: YT c b (n - mkK p.int n) (out - mkK p.int n) (ns.drop (i + 1))
     else bif decide (out + mkS p.int <= 120) then ptP (JfQ (mkS p.int)) :: YT c b n (out + mkS p.int) (ns.drop (i + 1))
     else YT c b n out (ns.drop (i + 1))) := by simp only [YT]; exact Ja (by simpa using hn)
   have A : ∀ (x : PV) (n' out' : Int), 0 <= n' -> n' <= out' -> out' <= 120 -> YD f k0 m n' z fl ns (L.length + 1) out' ((i + 1 : Nat) : Int) (L.isEmpty && false) (L ++ [x]) = R (L ++ x :: YT c b n' out' (ns.drop (i + 1))) := fun x n' out' a1 a2 a3 => by
     rw [e1 x, e2 x, Jt5 c z fl ns hns h2 f k0 R hk b (i + 1) m n' out' (L ++ [x]) (by omega) (by omega) a1 a2 a3 (by simp; omega), List.append_assoc]; rfl
   have B : YD f k0 m n z fl ns L.length out ((i + 1 : Nat) : Int) L.isEmpty L = R (L ++ YT c b n out (ns.drop (i + 1))) :=
     Jt5 c z fl ns hns h2 f k0 R hk b (i + 1) m n out L (by omega) (by omega) h3 h4 h5 (by omega)
   rw [hmk]
   have q0 := Int.emod_nonneg p.int (show (4 : Int) ≠ 0 by omega)
   have q1 := Int.emod_lt_of_pos p.int (show (0 : Int) < 4 by omega)
   have : p.int % 4 = 0 ∨ p.int % 4 = 1 ∨ p.int % 4 = 2 ∨ p.int % 4 = 3 := by omega
   rcases this with hq | hq | hq | hq
   · rw [hq]
     exact (Ja rfl).trans ((Ja rfl).trans ((Ja hro).trans (A _ _ _ (by omega) (by omega) h5)))
   · rw [hq]
     exact (Jd rfl).trans ((Ja rfl).trans ((Ja hro).trans (A _ _ _ (by omega) (by omega) h5)))
   · rw [hq]
     exact (Jd rfl).trans ((Jd rfl).trans ((Ja rfl).trans ((Ja hro).trans (A _ _ _ (by omega) (by omega) (by omega)))))
   · rw [hq]
     refine (Jd rfl).trans ((Jd rfl).trans ((Jd rfl).trans ((Ja rfl).trans ((Ja hrd).trans ((Ja (by rw [GW]; rfl)).trans ((Ja (by simp; omega)).trans ?_))))))
     by_cases hz : out + mkS p.int <= 120
     · refine (Ja (decide_eq_true hz)).trans ((Ja hro).trans ((A _ _ _ (by omega) (by omega) hz).trans ?_))
       rw [decide_eq_true hz]; rfl
     · refine (Jd (decide_eq_false hz)).trans (B.trans ?_)
       rw [decide_eq_false hz]; rfl
def Jni : JA
 | [.sc (.int .i64 n), .ro 3 z f ns], [], k => bif Jik n ns then k ⟨.ro 113 (WK ⟨n, ns⟩).isEmpty false (WK ⟨n, ns⟩), [], []⟩ else none
 | _, _, _ => none
def JJ2 : Sig := { own := [], run := Jni }
theorem JD0 (n : Int) (z f : Bool) (ns : List PV) (h : Jik n ns = true) (k : KR) : g57 20 n z f ns k = k ⟨.ro 113 (WK ⟨n, ns⟩).isEmpty false (WK ⟨n, ns⟩), [], []⟩ := by
 obtain ⟨h1, h2, h3, h4⟩ := JjY.1 h
 unfold g57 Jfo
 rw [JjX]
 refine (Jt5 (mkC ns) z f ns h3 h4 20 _ (fun M => k ⟨.ro 113 M.isEmpty false M, [], []⟩) ?_ 12 0 20 n n [] rfl (by omega) h1 (by omega) h2 (by simp)).trans ?_
 · intro n' out L a1 a2 a3 a4
   have tk : List.take L.length L = L := List.take_length
   have tk1 : ∀ x : PV, List.take (L.length + 1) (L ++ [x]) = L ++ [x] := fun x => List.take_of_length_le (by simp)
   have tk2 : ∀ x y : PV, List.take (L.length + 1 + 1) (L ++ [x] ++ [y]) = L ++ [x] ++ [y] := fun x y => List.take_of_length_le (by simp)
   have hro : (Je (L.length + 1) 32 && true) = true := by simp [Je]; omega
   have hro2 : (Je (L.length + 1 + 1) 32 && true) = true := by simp [Je]; omega
   have em : ∀ x : PV, (L.isEmpty && false) = (L ++ [x]).isEmpty := fun x => by simp
   have hz : PV.st 113 [PV.sc (Value.int IntKind.i64 2), PV.sc (Value.int IntKind.i64 0), PV.sc (Value.string (ByteArray.mk (Array.mk (u8l [122]))))] = ptP zed := rfl
   have hk' : PV.st 113 [PV.sc (Value.int IntKind.i64 1), PV.sc (Value.int IntKind.i64 n'), PV.sc (Value.string (ByteArray.mk #[]))] = kpP n' := rfl
   have okw : okW 3 = true := by rw [GW]; rfl
   simp only [tk, tk1, tk2, hz, hk', Ent.nil, okw, hro, hro2]
   unfold mkE mkC
   cases hn : decide (n' > 0) with
   | true =>
    refine (Ja rfl).trans ((Ja rfl).trans ?_)
    by_cases hl : ns.length > 0
    · have hl' : decide (zi ns.length > 0) = true := by simp [zi]; omega
      have hin := Vw h3 hl
      rw [hl', decide_eq_true hl]
      refine (Ja rfl).trans ((Ja (by rw [hin]; simp [zi, hl])).trans ((Ja rfl).trans ?_))
      cases hc : (IntKind.i64.wrap ((ns.getD 0 PV.top).int.tdiv 3) % 3 == 0) with
      | false => refine (Jd rfl).trans ?_; simp only [List.append_assoc, List.singleton_append, List.append_nil, Bool.and_false, Bool.and_true, Bool.false_and, Bool.true_and, cond_true, cond_false, isE, Jj3, List.cons_append, List.nil_append]
      | true =>
       refine (Ja rfl).trans ?_
       cases ho : decide (out <= 115) with
       | false => refine (Jd rfl).trans ?_; simp only [List.append_assoc, List.singleton_append, List.append_nil, Bool.and_false, Bool.and_true, Bool.false_and, Bool.true_and, cond_true, cond_false, isE, Jj3, List.cons_append, List.nil_append]
       | true => refine (Ja rfl).trans ((Ja rfl).trans ?_); simp [isE, Jj3]
    · have hl' : decide (zi ns.length > 0) = false := decide_eq_false (by simp only [zi]; omega)
      rw [hl', decide_eq_false hl]
      refine (Jd rfl).trans ?_; simp only [List.append_assoc, List.singleton_append, List.append_nil, Bool.and_false, Bool.and_true, Bool.false_and, Bool.true_and, cond_true, cond_false, isE, Jj3, List.cons_append, List.nil_append]
   | false =>
    refine (Jd rfl).trans ?_
    by_cases hl : ns.length > 0
    · have hl' : decide (zi ns.length > 0) = true := by simp [zi]; omega
      have hin := Vw h3 hl
      rw [hl', decide_eq_true hl]
      refine (Ja rfl).trans ((Ja (by rw [hin]; simp [zi, hl])).trans ((Ja rfl).trans ?_))
      cases hc : (IntKind.i64.wrap ((ns.getD 0 PV.top).int.tdiv 3) % 3 == 0) with
      | false => refine (Jd rfl).trans ?_; simp only [List.append_assoc, List.singleton_append, List.append_nil, Bool.and_false, Bool.and_true, Bool.false_and, Bool.true_and, cond_true, cond_false, isE, Jj3, List.cons_append, List.nil_append]
      | true =>
       refine (Ja rfl).trans ?_
       cases ho : decide (out <= 115) with
       | false => refine (Jd rfl).trans ?_; simp only [List.append_assoc, List.singleton_append, List.append_nil, Bool.and_false, Bool.and_true, Bool.false_and, Bool.true_and, cond_true, cond_false, isE, Jj3, List.cons_append, List.nil_append]
       | true => refine (Ja rfl).trans ((Ja rfl).trans ?_); simp [isE, Jj3]
    · have hl' : decide (zi ns.length > 0) = false := decide_eq_false (by simp only [zi]; omega)
      rw [hl', decide_eq_false hl]
      refine (Jd rfl).trans ?_; simp only [List.append_assoc, List.singleton_append, List.append_nil, Bool.and_false, Bool.and_true, Bool.false_and, Bool.true_and, cond_true, cond_false, isE, Jj3, List.cons_append, List.nil_append]
 · simp
theorem JJ3 : Jc tau Try.prog 57 JJ2 := Jc.mk' fun xs es k res hl hr => by
 change Jni xs es k = some res at hr
 unfold Jni at hr
 split at hr
 · rename_i n z f ns
   obtain ⟨hc, hr⟩ := Jw hr
   exact J6 Jn Jt2 Jo JJ0 JJ1 (Jxm (Jfn 20)) [.ro] 0 0 (JN0 20) hl rfl ((e57 20 n z f ns k).trans ((JD0 n z f ns hc k).trans hr))
 · cases hr
def F23 : Fns := Js 57 JJ2 (Js 56 s56 (Js 55 JJd (Js 54 JJf (Js 18 JDT (F0)))))
theorem JD1 : Jq tau Try.prog F23 := (((((Jt).add JzM JJT).add JJg JNq).add JJe JNm).add JNW JNV).add JJ3 JN1
def JD2 : An := (.seq .leaf (.seq .leaf (.seq (.seq .leaf (.cond .leaf .leaf)) (.seq .leaf (.seq (.seq .leaf (.block none (.seq .leaf (.cond .leaf (.seq .leaf (.cond .leaf (.seq .leaf .leaf))))))) (.seq .leaf .leaf))))))
abbrev QK (p_By : Int) (y9 : List PV) := (y9.getD (p_By % zi y9.length).toNat PV.top)
abbrev Zz (p_By : Int) (p_Ns : List PV) (y6 : ByteArray) (y10 : Int) (y11 : List PV) (id : Int) := (DV.mk (p_By % 3) (IntKind.i64.wrap (p_By.tdiv 3) % 4) id y10 y11 1 (WK (MN.mk (zi y6.size) p_Ns)) 0 0)
abbrev Jcr (p_By : Int) (p_Ns : List PV) (k0_z : Bool) (k0_f : Bool) (k0 : List PV) (k1_z : Bool) (k1_f : Bool) (k1 : List PV) (k2_z : Bool) (k2_f : Bool) (k2 : List PV) (y6 : ByteArray) (y10 : Int) (y11 : List PV) (id : Int) := (EV.mk (pu IntKind.u8 (dlB (Zz p_By p_Ns y6 y10 y11 id))) (pu IntKind.u8 (mcK (MK.mk [PV.ro 5 k0_z k0_f k0, PV.ro 5 k1_z k1_f k1, PV.ro 5 k2_z k2_f k2] (p_By % 3) (dlB (Zz p_By p_Ns y6 y10 y11 id))))) y10 (WK (MN.mk (zi y6.size) p_Ns)))
abbrev G5 (p_By : Int) (y1 : Int) (y10 : Int) (y11 : List PV) (id : Int) := (DV.mk (p_By % 3) (IntKind.i64.wrap (p_By.tdiv 3) % 4) id y10 y11 2 [] (y1 % 3) (IntKind.i64.wrap (y1.tdiv 3) % 4))
abbrev Jcs (p_By : Int) (y1 : Int) (k0_z : Bool) (k0_f : Bool) (k0 : List PV) (k1_z : Bool) (k1_f : Bool) (k1 : List PV) (k2_z : Bool) (k2_f : Bool) (k2 : List PV) (y10 : Int) (y11 : List PV) (id : Int) := (EV.mk (pu IntKind.u8 (dlB (G5 p_By y1 y10 y11 id))) (pu IntKind.u8 (mcK (MK.mk [PV.ro 5 k0_z k0_f k0, PV.ro 5 k1_z k1_f k1, PV.ro 5 k2_z k2_f k2] (p_By % 3) (dlB (G5 p_By y1 y10 y11 id))))) y10 [])
abbrev G6 (p_By : Int) (y1 : Int) (y10 : Int) (y11 : List PV) (id : Int) := (DV.mk (p_By % 3) (IntKind.i64.wrap (p_By.tdiv 3) % 4) id y10 y11 3 [] (y1 % 3) (IntKind.i64.wrap (y1.tdiv 3) % 4))
abbrev Jct (p_By : Int) (y1 : Int) (k0_z : Bool) (k0_f : Bool) (k0 : List PV) (k1_z : Bool) (k1_f : Bool) (k1 : List PV) (k2_z : Bool) (k2_f : Bool) (k2 : List PV) (y10 : Int) (y11 : List PV) (id : Int) := (EV.mk (pu IntKind.u8 (dlB (G6 p_By y1 y10 y11 id))) (pu IntKind.u8 (mcK (MK.mk [PV.ro 5 k0_z k0_f k0, PV.ro 5 k1_z k1_f k1, PV.ro 5 k2_z k2_f k2] (p_By % 3) (dlB (G6 p_By y1 y10 y11 id))))) y10 [])
abbrev Jcu (p_By : Int) (y1 : Int) (y9 : List PV) (y10 : Int) (y11 : List PV) (id : Int) := (DV.mk (PV.child 0 (QK p_By y9)).int (PV.child (0 + 1) (QK p_By y9)).int id y10 y11 2 [] (y1 % 3) (IntKind.i64.wrap (y1.tdiv 3) % 4))
abbrev Jcv (p_By : Int) (y1 : Int) (y9 : List PV) (y10 : Int) (y11 : List PV) (id : Int) := (DV.mk (PV.child 0 (QK p_By y9)).int (PV.child (0 + 1) (QK p_By y9)).int id y10 y11 3 [] (y1 % 3) (IntKind.i64.wrap (y1.tdiv 3) % 4))
abbrev VX (p_By : Int) (p_Ns : List PV) (y6 : ByteArray) (y9 : List PV) (y10 : Int) (y11 : List PV) (id : Int) := (DV.mk (PV.child 0 (QK p_By y9)).int (PV.child (0 + 1) (QK p_By y9)).int id y10 y11 1 (WK (MN.mk (zi y6.size) p_Ns)) 0 0)
abbrev Jfp (p_By : Int) (p_Ns : List PV) (k0_z : Bool) (k0_f : Bool) (k0 : List PV) (k1_z : Bool) (k1_f : Bool) (k1 : List PV) (k2_z : Bool) (k2_f : Bool) (k2 : List PV) (y6 : ByteArray) (y9 : List PV) (y10 : Int) (y11 : List PV) (id : Int) := (EV.mk (pu IntKind.u8 (dlB (VX p_By p_Ns y6 y9 y10 y11 id))) (pu IntKind.u8 (mcK (MK.mk [PV.ro 5 k0_z k0_f k0, PV.ro 5 k1_z k1_f k1, PV.ro 5 k2_z k2_f k2] (PV.child 0 (QK p_By y9)).int (dlB (VX p_By p_Ns y6 y9 y10 y11 id))))) y10 (WK (MN.mk (zi y6.size) p_Ns)))
abbrev Jnj (p_By : Int) (p_Ns : List PV) (k0_z : Bool) (k0_f : Bool) (k0 : List PV) (k1_z : Bool) (k1_f : Bool) (k1 : List PV) (k2_z : Bool) (k2_f : Bool) (k2 : List PV) (y4 : Int) (y6 : ByteArray) (y10 : Int) (y11 : List PV) (id : Int) := (Res.mk (PV.st 51 [PV.st 47 [PV.ro 5 false false (pu IntKind.u8 (dlB (Zz p_By p_Ns y6 y10 y11 id))), PV.ar 37 (pu IntKind.u8 (mcK (MK.mk [PV.ro 5 k0_z k0_f k0, PV.ro 5 k1_z k1_f k1, PV.ro 5 k2_z k2_f k2] (p_By % 3) (dlB (Zz p_By p_Ns y6 y10 y11 id)))))], PV.sc (.int .i64 y10), PV.ro 113 false false (WK (MN.mk (zi y6.size) p_Ns)), PV.ar 37 (pu IntKind.u8 (nxP (NX.mk y11 (Jcr p_By p_Ns k0_z k0_f k0 k1_z k1_f k1 k2_z k2_f k2 y6 y10 y11 id)))), PV.ar 37 (pu IntKind.u8 (emP (EM.mk [PV.ro 5 k0_z k0_f k0, PV.ro 5 k1_z k1_f k1, PV.ro 5 k2_z k2_f k2] y4 (Jcr p_By p_Ns k0_z k0_f k0 k1_z k1_f k1 k2_z k2_f k2 y6 y10 y11 id) (pu IntKind.u8 (nxP (NX.mk y11 (Jcr p_By p_Ns k0_z k0_f k0 k1_z k1_f k1 k2_z k2_f k2 y6 y10 y11 id)))))))]) [] [])
abbrev Jiq (p_By : Int) (y1 : Int) (k0_z : Bool) (k0_f : Bool) (k0 : List PV) (k1_z : Bool) (k1_f : Bool) (k1 : List PV) (k2_z : Bool) (k2_f : Bool) (k2 : List PV) (y4 : Int) (y10 : Int) (y11 : List PV) (id : Int) := (Res.mk (PV.st 51 [PV.st 47 [PV.ro 5 false false (pu IntKind.u8 (dlB (G5 p_By y1 y10 y11 id))), PV.ar 37 (pu IntKind.u8 (mcK (MK.mk [PV.ro 5 k0_z k0_f k0, PV.ro 5 k1_z k1_f k1, PV.ro 5 k2_z k2_f k2] (p_By % 3) (dlB (G5 p_By y1 y10 y11 id)))))], PV.sc (.int .i64 y10), PV.ro 113 false false [], PV.ar 37 (pu IntKind.u8 (nxP (NX.mk y11 (Jcs p_By y1 k0_z k0_f k0 k1_z k1_f k1 k2_z k2_f k2 y10 y11 id)))), PV.ar 37 (pu IntKind.u8 (emP (EM.mk [PV.ro 5 k0_z k0_f k0, PV.ro 5 k1_z k1_f k1, PV.ro 5 k2_z k2_f k2] y4 (Jcs p_By y1 k0_z k0_f k0 k1_z k1_f k1 k2_z k2_f k2 y10 y11 id) (pu IntKind.u8 (nxP (NX.mk y11 (Jcs p_By y1 k0_z k0_f k0 k1_z k1_f k1 k2_z k2_f k2 y10 y11 id)))))))]) [] [])
abbrev Jir (p_By : Int) (y1 : Int) (k0_z : Bool) (k0_f : Bool) (k0 : List PV) (k1_z : Bool) (k1_f : Bool) (k1 : List PV) (k2_z : Bool) (k2_f : Bool) (k2 : List PV) (y4 : Int) (y10 : Int) (y11 : List PV) (id : Int) := (Res.mk (PV.st 51 [PV.st 47 [PV.ro 5 false false (pu IntKind.u8 (dlB (G6 p_By y1 y10 y11 id))), PV.ar 37 (pu IntKind.u8 (mcK (MK.mk [PV.ro 5 k0_z k0_f k0, PV.ro 5 k1_z k1_f k1, PV.ro 5 k2_z k2_f k2] (p_By % 3) (dlB (G6 p_By y1 y10 y11 id)))))], PV.sc (.int .i64 y10), PV.ro 113 false false [], PV.ar 37 (pu IntKind.u8 (nxP (NX.mk y11 (Jct p_By y1 k0_z k0_f k0 k1_z k1_f k1 k2_z k2_f k2 y10 y11 id)))), PV.ar 37 (pu IntKind.u8 (emP (EM.mk [PV.ro 5 k0_z k0_f k0, PV.ro 5 k1_z k1_f k1, PV.ro 5 k2_z k2_f k2] y4 (Jct p_By y1 k0_z k0_f k0 k1_z k1_f k1 k2_z k2_f k2 y10 y11 id) (pu IntKind.u8 (nxP (NX.mk y11 (Jct p_By y1 k0_z k0_f k0 k1_z k1_f k1 k2_z k2_f k2 y10 y11 id)))))))]) [] [])
abbrev JbL (p_By : Int) (y1 : Int) (k0_z : Bool) (k0_f : Bool) (k0 : List PV) (k1_z : Bool) (k1_f : Bool) (k1 : List PV) (k2_z : Bool) (k2_f : Bool) (k2 : List PV) (y9 : List PV) (y10 : Int) (y11 : List PV) (id : Int) := (EV.mk (pu IntKind.u8 (dlB (Jcu p_By y1 y9 y10 y11 id))) (pu IntKind.u8 (mcK (MK.mk [PV.ro 5 k0_z k0_f k0, PV.ro 5 k1_z k1_f k1, PV.ro 5 k2_z k2_f k2] (PV.child 0 (QK p_By y9)).int (dlB (Jcu p_By y1 y9 y10 y11 id))))) y10 [])
abbrev JbM (p_By : Int) (y1 : Int) (k0_z : Bool) (k0_f : Bool) (k0 : List PV) (k1_z : Bool) (k1_f : Bool) (k1 : List PV) (k2_z : Bool) (k2_f : Bool) (k2 : List PV) (y9 : List PV) (y10 : Int) (y11 : List PV) (id : Int) := (EV.mk (pu IntKind.u8 (dlB (Jcv p_By y1 y9 y10 y11 id))) (pu IntKind.u8 (mcK (MK.mk [PV.ro 5 k0_z k0_f k0, PV.ro 5 k1_z k1_f k1, PV.ro 5 k2_z k2_f k2] (PV.child 0 (QK p_By y9)).int (dlB (Jcv p_By y1 y9 y10 y11 id))))) y10 [])
def g23 (f : Nat) (y0 p_By y1 : Int) (y2 y3 : Bool) (p_Ns : List PV) (k0_z k0_f : Bool) (k0 : List PV) (k1_z k1_f : Bool) (k1 : List PV) (k2_z k2_f : Bool) (k2 : List PV) (y4 y5 : Int) (y6 : ByteArray) (y7 y8 : Bool) (y9 : List PV) (y10 : Int) (y11 : List PV) (id : Int) (k : KR) : OR := bif okW 3 then bif okW 4 then bif decide (zi y9.length > 0) then bif okW 9 then bif decide (p_By % 9 > 0) then bif okW (zi y9.length) then bif decide (0 <= p_By % zi y9.length) && decide (p_By % zi y9.length < zi y9.length) && (PV.isSt 42 #[Field.mk "D" 3 0 false "" "" 0, Field.mk "U" 3 1 false "" "" 8].size (QK p_By y9) && (PV.isInt IntKind.i64 (PV.child 0 (QK p_By y9)) && (PV.isInt IntKind.i64 (PV.child (0 + 1) (QK p_By y9)) && true))) && true then bif okW 6 then bif y0 % 6 == 4 then bif okW 3 then bif okW 4 then bif dOk (Jcu p_By y1 y9 y10 y11 id) && (kO3 [.ro 5 k0_z k0_f k0, .ro 5 k1_z k1_f k1, .ro 5 k2_z k2_f k2] && kIn (PV.child 0 (QK p_By y9)).int) then bif kIn y4 && eOk (JbL p_By y1 k0_z k0_f k0 k1_z k1_f k1 k2_z k2_f k2 y9 y10 y11 id) && (h32 y11 && kO3 [.ro 5 k0_z k0_f k0, .ro 5 k1_z k1_f k1, .ro 5 k2_z k2_f k2]) then k (Res.mk (.st 51 [.st 47 [.ro 5 false false (pu IntKind.u8 (dlB (Jcu p_By y1 y9 y10 y11 id))), .ar 37 (pu IntKind.u8 (mcK (MK.mk [.ro 5 k0_z k0_f k0, .ro 5 k1_z k1_f k1, .ro 5 k2_z k2_f k2] (PV.child 0 (QK p_By y9)).int (dlB (Jcu p_By y1 y9 y10 y11 id)))))], .sc (.int .i64 y10), .ro 113 false false [], .ar 37 (pu IntKind.u8 (nxP (NX.mk y11 (JbL p_By y1 k0_z k0_f k0 k1_z k1_f k1 k2_z k2_f k2 y9 y10 y11 id)))), .ar 37 (pu IntKind.u8 (emP (EM.mk [.ro 5 k0_z k0_f k0, .ro 5 k1_z k1_f k1, .ro 5 k2_z k2_f k2] y4 (JbL p_By y1 k0_z k0_f k0 k1_z k1_f k1 k2_z k2_f k2 y9 y10 y11 id) (pu IntKind.u8 (nxP (NX.mk y11 (JbL p_By y1 k0_z k0_f k0 k1_z k1_f k1 k2_z k2_f k2 y9 y10 y11 id)))))))]) [] []) else none else none else none else none else bif y0 % 6 == 5 then bif okW 3 then bif okW 4 then bif dOk (Jcv p_By y1 y9 y10 y11 id) && (kO3 [.ro 5 k0_z k0_f k0, .ro 5 k1_z k1_f k1, .ro 5 k2_z k2_f k2] && kIn (PV.child 0 (QK p_By y9)).int) then bif kIn y4 && eOk (JbM p_By y1 k0_z k0_f k0 k1_z k1_f k1 k2_z k2_f k2 y9 y10 y11 id) && (h32 y11 && kO3 [.ro 5 k0_z k0_f k0, .ro 5 k1_z k1_f k1, .ro 5 k2_z k2_f k2]) then k (Res.mk (.st 51 [.st 47 [.ro 5 false false (pu IntKind.u8 (dlB (Jcv p_By y1 y9 y10 y11 id))), .ar 37 (pu IntKind.u8 (mcK (MK.mk [.ro 5 k0_z k0_f k0, .ro 5 k1_z k1_f k1, .ro 5 k2_z k2_f k2] (PV.child 0 (QK p_By y9)).int (dlB (Jcv p_By y1 y9 y10 y11 id)))))], .sc (.int .i64 y10), .ro 113 false false [], .ar 37 (pu IntKind.u8 (nxP (NX.mk y11 (JbM p_By y1 k0_z k0_f k0 k1_z k1_f k1 k2_z k2_f k2 y9 y10 y11 id)))), .ar 37 (pu IntKind.u8 (emP (EM.mk [.ro 5 k0_z k0_f k0, .ro 5 k1_z k1_f k1, .ro 5 k2_z k2_f k2] y4 (JbM p_By y1 k0_z k0_f k0 k1_z k1_f k1 k2_z k2_f k2 y9 y10 y11 id) (pu IntKind.u8 (nxP (NX.mk y11 (JbM p_By y1 k0_z k0_f k0 k1_z k1_f k1 k2_z k2_f k2 y9 y10 y11 id)))))))]) [] []) else none else none else none else none else bif Jik (zi y6.size) p_Ns then bif dOk (VX p_By p_Ns y6 y9 y10 y11 id) && (kO3 [.ro 5 k0_z k0_f k0, .ro 5 k1_z k1_f k1, .ro 5 k2_z k2_f k2] && kIn (PV.child 0 (QK p_By y9)).int) then bif kIn y4 && eOk (Jfp p_By p_Ns k0_z k0_f k0 k1_z k1_f k1 k2_z k2_f k2 y6 y9 y10 y11 id) && (h32 y11 && kO3 [.ro 5 k0_z k0_f k0, .ro 5 k1_z k1_f k1, .ro 5 k2_z k2_f k2]) then k (Res.mk (.st 51 [.st 47 [.ro 5 false false (pu IntKind.u8 (dlB (VX p_By p_Ns y6 y9 y10 y11 id))), .ar 37 (pu IntKind.u8 (mcK (MK.mk [.ro 5 k0_z k0_f k0, .ro 5 k1_z k1_f k1, .ro 5 k2_z k2_f k2] (PV.child 0 (QK p_By y9)).int (dlB (VX p_By p_Ns y6 y9 y10 y11 id)))))], .sc (.int .i64 y10), .ro 113 false false (WK (MN.mk (zi y6.size) p_Ns)), .ar 37 (pu IntKind.u8 (nxP (NX.mk y11 (Jfp p_By p_Ns k0_z k0_f k0 k1_z k1_f k1 k2_z k2_f k2 y6 y9 y10 y11 id)))), .ar 37 (pu IntKind.u8 (emP (EM.mk [.ro 5 k0_z k0_f k0, .ro 5 k1_z k1_f k1, .ro 5 k2_z k2_f k2] y4 (Jfp p_By p_Ns k0_z k0_f k0 k1_z k1_f k1 k2_z k2_f k2 y6 y9 y10 y11 id) (pu IntKind.u8 (nxP (NX.mk y11 (Jfp p_By p_Ns k0_z k0_f k0 k1_z k1_f k1 k2_z k2_f k2 y6 y9 y10 y11 id)))))))]) [] []) else none else none else none else none else none else none else bif okW 6 then bif y0 % 6 == 4 then bif okW 3 then bif okW 4 then bif dOk (G5 p_By y1 y10 y11 id) && (kO3 [.ro 5 k0_z k0_f k0, .ro 5 k1_z k1_f k1, .ro 5 k2_z k2_f k2] && kIn (p_By % 3)) then bif kIn y4 && eOk (Jcs p_By y1 k0_z k0_f k0 k1_z k1_f k1 k2_z k2_f k2 y10 y11 id) && (h32 y11 && kO3 [.ro 5 k0_z k0_f k0, .ro 5 k1_z k1_f k1, .ro 5 k2_z k2_f k2]) then k (Jiq p_By y1 k0_z k0_f k0 k1_z k1_f k1 k2_z k2_f k2 y4 y10 y11 id) else none else none else none else none else bif y0 % 6 == 5 then bif okW 3 then bif okW 4 then bif dOk (G6 p_By y1 y10 y11 id) && (kO3 [.ro 5 k0_z k0_f k0, .ro 5 k1_z k1_f k1, .ro 5 k2_z k2_f k2] && kIn (p_By % 3)) then bif kIn y4 && eOk (Jct p_By y1 k0_z k0_f k0 k1_z k1_f k1 k2_z k2_f k2 y10 y11 id) && (h32 y11 && kO3 [.ro 5 k0_z k0_f k0, .ro 5 k1_z k1_f k1, .ro 5 k2_z k2_f k2]) then k (Jir p_By y1 k0_z k0_f k0 k1_z k1_f k1 k2_z k2_f k2 y4 y10 y11 id) else none else none else none else none else bif Jik (zi y6.size) p_Ns then bif dOk (Zz p_By p_Ns y6 y10 y11 id) && (kO3 [.ro 5 k0_z k0_f k0, .ro 5 k1_z k1_f k1, .ro 5 k2_z k2_f k2] && kIn (p_By % 3)) then bif kIn y4 && eOk (Jcr p_By p_Ns k0_z k0_f k0 k1_z k1_f k1 k2_z k2_f k2 y6 y10 y11 id) && (h32 y11 && kO3 [.ro 5 k0_z k0_f k0, .ro 5 k1_z k1_f k1, .ro 5 k2_z k2_f k2]) then k (Jnj p_By p_Ns k0_z k0_f k0 k1_z k1_f k1 k2_z k2_f k2 y4 y6 y10 y11 id) else none else none else none else none else none else bif okW 6 then bif y0 % 6 == 4 then bif okW 3 then bif okW 4 then bif dOk (G5 p_By y1 y10 y11 id) && (kO3 [.ro 5 k0_z k0_f k0, .ro 5 k1_z k1_f k1, .ro 5 k2_z k2_f k2] && kIn (p_By % 3)) then bif kIn y4 && eOk (Jcs p_By y1 k0_z k0_f k0 k1_z k1_f k1 k2_z k2_f k2 y10 y11 id) && (h32 y11 && kO3 [.ro 5 k0_z k0_f k0, .ro 5 k1_z k1_f k1, .ro 5 k2_z k2_f k2]) then k (Jiq p_By y1 k0_z k0_f k0 k1_z k1_f k1 k2_z k2_f k2 y4 y10 y11 id) else none else none else none else none else bif y0 % 6 == 5 then bif okW 3 then bif okW 4 then bif dOk (G6 p_By y1 y10 y11 id) && (kO3 [.ro 5 k0_z k0_f k0, .ro 5 k1_z k1_f k1, .ro 5 k2_z k2_f k2] && kIn (p_By % 3)) then bif kIn y4 && eOk (Jct p_By y1 k0_z k0_f k0 k1_z k1_f k1 k2_z k2_f k2 y10 y11 id) && (h32 y11 && kO3 [.ro 5 k0_z k0_f k0, .ro 5 k1_z k1_f k1, .ro 5 k2_z k2_f k2]) then k (Jir p_By y1 k0_z k0_f k0 k1_z k1_f k1 k2_z k2_f k2 y4 y10 y11 id) else none else none else none else none else bif Jik (zi y6.size) p_Ns then bif dOk (Zz p_By p_Ns y6 y10 y11 id) && (kO3 [.ro 5 k0_z k0_f k0, .ro 5 k1_z k1_f k1, .ro 5 k2_z k2_f k2] && kIn (p_By % 3)) then bif kIn y4 && eOk (Jcr p_By p_Ns k0_z k0_f k0 k1_z k1_f k1 k2_z k2_f k2 y6 y10 y11 id) && (h32 y11 && kO3 [.ro 5 k0_z k0_f k0, .ro 5 k1_z k1_f k1, .ro 5 k2_z k2_f k2]) then k (Jnj p_By p_Ns k0_z k0_f k0 k1_z k1_f k1 k2_z k2_f k2 y4 y6 y10 y11 id) else none else none else none else none else none else none
theorem e23 (f : Nat) (y0 p_By y1 : Int) (y2 y3 : Bool) (p_Ns : List PV) (k0_z k0_f : Bool) (k0 : List PV) (k1_z k1_f : Bool) (k1 : List PV) (k2_z k2_f : Bool) (k2 : List PV) (y4 y5 : Int) (y6 : ByteArray) (y7 y8 : Bool) (y9 : List PV) (y10 : Int) (y11 : List PV) (id : Int) (k : KR) : JK tau F23 Try.f23 (Try.f23.body.get!) JD2 [.ro] 0 [.st 69 [.sc (.int .i64 y0), .sc (.int .i64 p_By), .sc (.int .i64 y1), .ro 3 y2 y3 p_Ns], .st 31 [.ro 5 k0_z k0_f k0, .ro 5 k1_z k1_f k1, .ro 5 k2_z k2_f k2], .st 58 [.st 34 [.sc (.int .i64 y4), .sc (.int .i64 y5)], .sc (.string y6), .ro 42 y7 y8 y9, .sc (.int .i64 y10), .ar 37 y11], .sc (.int .i64 id)] [] k = g23 f y0 p_By y1 y2 y3 p_Ns k0_z k0_f k0 k1_z k1_f k1 k2_z k2_f k2 y4 y5 y6 y7 y8 y9 y10 y11 id k := by kernel_rfl
theorem JN2 (f : Nat) : ∀ q ∈ Jg (Try.f23.body.get!) JD2, q.Ok tau Try.prog 0 := Jx (by kernel_rfl)
theorem JJ4 : Try.prog.funcs[23]? = some Try.f23 := by kernel_rfl
theorem JJ5 : Try.f23.body = some (Try.f23.body.get!) := by kernel_rfl
theorem JN3 : Enters Try.prog 23 := enters_of JJ4 (by kernel_rfl) JJ5
def Jt6 : JA
 | [.st 69 [.sc (.int .i64 y0), .sc (.int .i64 p_By), .sc (.int .i64 y1), .ro 3 y2 y3 p_Ns], .st 31 [.ro 5 k0_z k0_f k0, .ro 5 k1_z k1_f k1, .ro 5 k2_z k2_f k2], .st 58 [.st 34 [.sc (.int .i64 y4), .sc (.int .i64 y5)], .sc (.string y6), .ro 42 y7 y8 y9, .sc (.int .i64 y10), .ar 37 y11], .sc (.int .i64 id)], [], k => g23 0 y0 p_By y1 y2 y3 p_Ns k0_z k0_f k0 k1_z k1_f k1 k2_z k2_f k2 y4 y5 y6 y7 y8 y9 y10 y11 id k
 | _, _, _ => none
def s23 : Sig := { own := [], run := Jt6 }
theorem JN4 : Jc tau Try.prog 23 s23 := JP Jn JD1 Jo JJ4 JJ5 JD2 [.ro] 0 [] Jt6 (JN2 0) fun xs es k res hr => by
 unfold Jt6 at hr
 split at hr
 · exact ⟨rfl, 0, (e23 0 _ _ _ _ _ _ _ _ _ _ _ _ _ _ _ _ _ _ _ _ _ _ _ _  _).trans hr⟩
 · cases hr
theorem JD3 (d : DV) (h : byB d.h = true := by rfl) : byB (pu .u8 (dlB d)) = true := by
 rw [Jk9]
 intro x hx
 rw [Jl4] at hx
 simp only [Jsw, List.mem_append, List.mem_singleton] at hx
 rcases hx with h1 | h1 | h1 | h1 | h1 | h1 | h1 | h1 | h1
 · exact VO _ x h1
 · exact VO _ x h1
 · exact VO _ x h1
 · exact VO _ x h1
 · exact (Xx.1 h).2 x h1
 · rw [h1]; exact Jdr _
 · exact Jsl _ x h1
 · exact VO _ x h1
 · exact VO _ x h1
structure SP where
 (kd by1 who : Int) (ns : List PV)
structure SX where
 (p : SP) (K : List PV) (s : SV) (id : Int)
def spOk : SP -> Bool := hid fun p => Jl .i64 p.ns && decide (p.ns.length <= 9223372036854775807)
theorem Jfq {p : SP} : spOk p = true ↔ Jl .i64 p.ns = true /\ p.ns.length <= 9223372036854775807 := by
 rw [spOk, hid_eq]; simp only [Bool.and_eq_true, decide_eq_true_eq]
def twA (n : Int) : AV := ⟨n % 3, IntKind.i64.wrap (n.tdiv 3) % 4⟩
def seA (p : SP) (l : List PV) : AV := bif decide (zi l.length > 0) && decide (p.by1 % 9 > 0) then av (l.getD (p.by1 % zi l.length).toNat .top) else twA p.by1
def seV (x : SX) : DV :=
 bif x.p.kd % 6 == 4 then ⟨(seA x.p x.s.l).d, (seA x.p x.s.l).u, x.id, x.s.ver, x.s.hash, 2, [], (twA x.p.who).d, (twA x.p.who).u⟩
 else bif x.p.kd % 6 == 5 then ⟨(seA x.p x.s.l).d, (seA x.p x.s.l).u, x.id, x.s.ver, x.s.hash, 3, [], (twA x.p.who).d, (twA x.p.who).u⟩
 else ⟨(seA x.p x.s.l).d, (seA x.p x.s.l).u, x.id, x.s.ver, x.s.hash, 1, WK ⟨zi x.s.doc.size, x.p.ns⟩, 0, 0⟩
def enV (K : List PV) (s : SV) (d : DV) : EV := ⟨pu .u8 (dlB d), pu .u8 (mcK ⟨K, d.ad, dlB d⟩), s.ver, d.o⟩
def enW (K : List PV) (s : SV) (d : DV) : EW := ⟨pu .u8 (dlB d), pu .u8 (mcK ⟨K, d.ad, dlB d⟩), s.ver, d.o, pu .u8 (nxP ⟨s.hash, enV K s d⟩), pu .u8 (emP ⟨K, s.ih, enV K s d, pu .u8 (nxP ⟨s.hash, enV K s d⟩)⟩)⟩
def ewP (w : EW) : PV := .st 51 [.st 47 [.ro 5 false false w.b, .ar 37 w.m], .sc (.int .i64 w.at1), .ro 113 false false w.o, .ar 37 w.h, .ar 37 w.mc]
def seW (x : SX) : EW := enW x.K x.s (seV x)
def seB : SX -> List PV := hid fun x => (seW x).b
def seS : SX -> List PV := hid fun x => (seW x).m
def seO : SX -> List PV := hid fun x => (seW x).o
def seH : SX -> List PV := hid fun x => (seW x).h
def seM : SX -> List PV := hid fun x => (seW x).mc
theorem Jcw (x : SX) : EW.mk (seB x) (seS x) x.s.ver (seO x) (seH x) (seM x) = seW x := by
 rw [seB, seS, seO, seH, seM, hid_eq, hid_eq, hid_eq, hid_eq, hid_eq]; rfl
theorem Jt7 {d u : Int} (h : inA [d, 2, u, 7] = true) : (0 <= d /\ d <= 2) /\ 0 <= u /\ u <= 7 := by
 rw [Jjs] at h
 simp only [JhW, Bool.and_eq_true, decide_eq_true_eq] at h
 omega
theorem JD4 {p : SP} {l : List PV} (h : uOk l = true) : (0 <= (seA p l).d /\ (seA p l).d <= 2) /\ 0 <= (seA p l).u /\ (seA p l).u <= 7 := by
 unfold seA
 cases hc : (decide (zi l.length > 0) && decide (p.by1 % 9 > 0)) with
 | false =>
  obtain ⟨a, b⟩ := Jdw p.by1 (m := 3) (by decide)
  obtain ⟨c, d⟩ := Jdw (IntKind.i64.wrap (p.by1.tdiv 3)) (m := 4) (by decide)
  simp only [cond_false, twA]; omega
 | true =>
  rw [Bool.and_eq_true, decide_eq_true_eq] at hc
  have hz : zi l.length = (l.length : Int) := rfl
  obtain ⟨a, b⟩ := Jdw p.by1 (m := zi l.length) (by omega)
  have hi : (p.by1 % zi l.length).toNat < l.length := by omega
  rw [cond_true, List.getD_eq_getElem?_getD, List.getElem?_eq_getElem hi]
  exact Jt7 (List.all_eq_true.1 h _ (List.getElem_mem hi))
theorem Jt8 {x : SX} (hs : sOk x.s = true) (hp : spOk x.p = true) : dOk (seV x) = true /\ (opB (seV x).o).length <= 400 /\ cBy (seV x).o = true /\ cOk (seV x).o = true /\ kIn (seV x).ad = true /\ (seV x).h = x.s.hash := by
 obtain ⟨s1, s2, s3, s4, s5, s6⟩ := Xf.1 hs
 obtain ⟨p1, p2⟩ := Jfq.1 hp
 have ha := JD4 (p := x.p) s6
 have hk : kIn (seA x.p x.s.l).d = true := by rw [Jfa]; simp only [XZ, Bool.and_eq_true, decide_eq_true_eq]; omega
 obtain ⟨h1, h2⟩ := h32_iff.1 s2
 have nil := Jil (done := 0) (by decide)
 have n1 := Jty (ZJ nil (by decide : (0 : Int) <= 14))
 have n2 := Jtz (ZJ nil (by decide : (0 : Int) <= 14))
 have mk := Jtw (n := zi x.s.doc.size) x.p.ns (by simp only [zi]; omega) (by simp only [zi]; omega)
 have m1 := Jty mk
 have m2 := Jtz mk
 have m3 : cOk (WK ⟨zi x.s.doc.size, x.p.ns⟩) = true := Yi.2 ⟨List.all_eq_true.2 mk.cp, by have := mk.len; omega⟩
 unfold seV
 cases x.p.kd % 6 == 4 with
 | true => exact ⟨Zh.2 ⟨h1, h2, n1, by show (opB []).length <= _; omega⟩, n2, n1, Yi.2 ⟨rfl, Nat.zero_le _⟩, hk, rfl⟩
 | false =>
  cases x.p.kd % 6 == 5 with
  | true => exact ⟨Zh.2 ⟨h1, h2, n1, by show (opB []).length <= _; omega⟩, n2, n1, Yi.2 ⟨rfl, Nat.zero_le _⟩, hk, rfl⟩
  | false => exact ⟨Zh.2 ⟨h1, h2, m1, by show (opB (WK ⟨zi x.s.doc.size, x.p.ns⟩)).length <= _; omega⟩, m2, m1, m3, hk, rfl⟩
theorem Jt9 {K : List PV} {s : SV} {d : DV} (h : dOk d = true) (h2 : (opB d.o).length <= 400) (h3 : cBy d.o = true) : eOk (enV K s d) = true :=
 WH.2 ⟨JO _ _, by show (pu .u8 (dlB d)).length <= _; rw [JG, GF h]; omega, JO _ _, by show (pu .u8 (mcK ⟨K, d.ad, dlB d⟩)).length = 32; rw [JG]; exact JmN _, h3, by show (opB d.o).length <= _; omega⟩
theorem Jnk {x : SX} (hs : sOk x.s = true) (hp : spOk x.p = true) (hb : byB x.s.hash = true) : eD (seW x) = true := by
 obtain ⟨v1, v2, v3, v4, v5, v6⟩ := Jt8 hs hp
 refine G4.2 ⟨JD3 _ (by rw [v6]; exact hb), Jt9 v1 v2 v3, v4, h32_iff.2 ⟨JO _ _, ?_⟩⟩
 show (pu .u8 (nxP ⟨x.s.hash, enV x.K x.s (seV x)⟩)).length = 32
 rw [JG]; exact X7 _
def Jnl : JA
 | [.st 69 [.sc (.int .i64 kd), .sc (.int .i64 by1), .sc (.int .i64 who), .ro 3 nz nf ns], .st 31 [.ro 5 z0 f0 k0, .ro 5 z1 f1 k1, .ro 5 z2 f2 k2], .st 58 [.st 34 [.sc (.int .i64 ih), .sc (.int .i64 iN)], .sc (.string doc), .ro 42 z f l, .sc (.int .i64 ver), .ar 37 hash], .sc (.int .i64 id1)], [], k =>
  bif (sOk ⟨ih, iN, doc, l, ver, hash⟩ && spOk ⟨kd, by1, who, ns⟩) && (kO3 [.ro 5 z0 f0 k0, .ro 5 z1 f1 k1, .ro 5 z2 f2 k2] && kIn ih) then
   k ⟨.st 51 [.st 47 [.ro 5 false false (seB ⟨⟨kd, by1, who, ns⟩, [.ro 5 z0 f0 k0, .ro 5 z1 f1 k1, .ro 5 z2 f2 k2], ⟨ih, iN, doc, l, ver, hash⟩, id1⟩), .ar 37 (seS ⟨⟨kd, by1, who, ns⟩, [.ro 5 z0 f0 k0, .ro 5 z1 f1 k1, .ro 5 z2 f2 k2], ⟨ih, iN, doc, l, ver, hash⟩, id1⟩)], .sc (.int .i64 ver), .ro 113 false false (seO ⟨⟨kd, by1, who, ns⟩, [.ro 5 z0 f0 k0, .ro 5 z1 f1 k1, .ro 5 z2 f2 k2], ⟨ih, iN, doc, l, ver, hash⟩, id1⟩), .ar 37 (seH ⟨⟨kd, by1, who, ns⟩, [.ro 5 z0 f0 k0, .ro 5 z1 f1 k1, .ro 5 z2 f2 k2], ⟨ih, iN, doc, l, ver, hash⟩, id1⟩), .ar 37 (seM ⟨⟨kd, by1, who, ns⟩, [.ro 5 z0 f0 k0, .ro 5 z1 f1 k1, .ro 5 z2 f2 k2], ⟨ih, iN, doc, l, ver, hash⟩, id1⟩)], [], []⟩ else none
 | _, _, _ => none
def JJ6 : Sig := { own := [], run := Jnl }
theorem JD5 (p : SP) (s : SV) (id1 : Int) (nz nf z0 f0 : Bool) (k0 : List PV) (z1 f1 : Bool) (k1 : List PV) (z2 f2 : Bool) (k2 : List PV) (z f : Bool) (hs : sOk s = true) (hp : spOk p = true) (hK : kO3 [.ro 5 z0 f0 k0, .ro 5 z1 f1 k1, .ro 5 z2 f2 k2] = true) (hi : kIn s.ih = true) (k : KR) :
  g23 0 p.kd p.by1 p.who nz nf p.ns z0 f0 k0 z1 f1 k1 z2 f2 k2 s.ih s.iN s.doc z f s.l s.ver s.hash id1 k = k ⟨ewP (seW ⟨p, [.ro 5 z0 f0 k0, .ro 5 z1 f1 k1, .ro 5 z2 f2 k2], s, id1⟩), [], []⟩ := by
 unfold g23 JbM JbL Jir Jiq Jnj Jfp VX Jcv Jcu Jct G6 Jcs G5 Jcr Zz QK
 generalize [PV.ro 5 z0 f0 k0, .ro 5 z1 f1 k1, .ro 5 z2 f2 k2] = K at *
 obtain ⟨s1, s2, s3, s4, s5, s6⟩ := Xf.1 hs
 obtain ⟨p1, p2⟩ := Jfq.1 hp
 obtain ⟨v1, v2, v3, v4, v5, v6⟩ := Jt8 (x := ⟨p, K, s, id1⟩) hs hp
 have he := Jt9 (K := K) (s := s) v1 v2 v3
 have w : ∀ n : Int, 0 < n -> n < 1000000000000 -> okW n = true := fun n h h2 => JJK h h2
 have T : ∀ d : DV, seV ⟨p, K, s, id1⟩ = d -> (bif dOk d && (kO3 K && kIn d.ad) then bif kIn s.ih && eOk (enV K s d) && (h32 s.hash && kO3 K) then k ⟨ewP (enW K s d), [], []⟩ else none else none) = k ⟨ewP (seW ⟨p, K, s, id1⟩), [], []⟩ := fun d hd => by
  subst hd
  exact (Ja (by rw [v1, hK, v5]; rfl)).trans (Ja (by rw [hi, he, s2, hK]; rfl))
 have hns : Jik (zi s.doc.size) p.ns = true := JjY.2 ⟨by simp only [zi]; omega, by simp only [zi]; omega, p1, p2⟩
 have M : ∀ a : AV, seA p s.l = a -> (bif okW 6 then bif p.kd % 6 == 4 then bif okW 3 then bif okW 4 then bif dOk ⟨a.d, a.u, id1, s.ver, s.hash, 2, [], p.who % 3, IntKind.i64.wrap (p.who.tdiv 3) % 4⟩ && (kO3 K && kIn a.d) then bif kIn s.ih && eOk (enV K s ⟨a.d, a.u, id1, s.ver, s.hash, 2, [], p.who % 3, IntKind.i64.wrap (p.who.tdiv 3) % 4⟩) && (h32 s.hash && kO3 K) then k ⟨ewP (enW K s ⟨a.d, a.u, id1, s.ver, s.hash, 2, [], p.who % 3, IntKind.i64.wrap (p.who.tdiv 3) % 4⟩), [], []⟩ else none else none else none else none
   else bif p.kd % 6 == 5 then bif okW 3 then bif okW 4 then bif dOk ⟨a.d, a.u, id1, s.ver, s.hash, 3, [], p.who % 3, IntKind.i64.wrap (p.who.tdiv 3) % 4⟩ && (kO3 K && kIn a.d) then bif kIn s.ih && eOk (enV K s ⟨a.d, a.u, id1, s.ver, s.hash, 3, [], p.who % 3, IntKind.i64.wrap (p.who.tdiv 3) % 4⟩) && (h32 s.hash && kO3 K) then k ⟨ewP (enW K s ⟨a.d, a.u, id1, s.ver, s.hash, 3, [], p.who % 3, IntKind.i64.wrap (p.who.tdiv 3) % 4⟩), [], []⟩ else none else none else none else none
   else bif Jik (zi s.doc.size) p.ns then bif dOk ⟨a.d, a.u, id1, s.ver, s.hash, 1, WK ⟨zi s.doc.size, p.ns⟩, 0, 0⟩ && (kO3 K && kIn a.d) then bif kIn s.ih && eOk (enV K s ⟨a.d, a.u, id1, s.ver, s.hash, 1, WK ⟨zi s.doc.size, p.ns⟩, 0, 0⟩) && (h32 s.hash && kO3 K) then k ⟨ewP (enW K s ⟨a.d, a.u, id1, s.ver, s.hash, 1, WK ⟨zi s.doc.size, p.ns⟩, 0, 0⟩), [], []⟩ else none else none else none else none) = k ⟨ewP (seW ⟨p, K, s, id1⟩), [], []⟩ := fun a ha => by
  refine (Ja (w _ (by decide) (by decide))).trans ?_
  cases h4 : (p.kd % 6 == 4) with
  | true =>
   refine (Ja rfl).trans ((Ja (w _ (by decide) (by decide))).trans ((Ja (w _ (by decide) (by decide))).trans (T _ ?_)))
   unfold seV; rw [ha]; exact Ja h4
  | false =>
   refine (Jd rfl).trans ?_
   cases h5 : (p.kd % 6 == 5) with
   | true =>
    refine (Ja rfl).trans ((Ja (w _ (by decide) (by decide))).trans ((Ja (w _ (by decide) (by decide))).trans (T _ ?_)))
    unfold seV; rw [ha]; exact (Jd h4).trans (Ja h5)
   | false =>
    refine (Jd rfl).trans ((Ja hns).trans (T _ ?_))
    unfold seV; rw [ha]; exact (Jd h4).trans (Jd h5)
 refine (Ja (w _ (by decide) (by decide))).trans ((Ja (w _ (by decide) (by decide))).trans ?_)
 have hz : zi s.l.length = (s.l.length : Int) := rfl
 obtain ⟨q1, q2, q3⟩ := QD.1 s1
 cases h1 : decide (zi s.l.length > 0) with
 | false => exact (Jd rfl).trans (M (twA p.by1) (by unfold seA; rw [h1]; rfl))
 | true =>
  have h1' := of_decide_eq_true h1
  refine (Ja rfl).trans ((Ja (w _ (by decide) (by decide))).trans ?_)
  cases h2 : decide (p.by1 % 9 > 0) with
  | false => exact (Jd rfl).trans (M (twA p.by1) (by unfold seA; rw [h1, h2]; rfl))
  | true =>
   obtain ⟨m1, m2⟩ := Jdw p.by1 (m := zi s.l.length) h1'
   have hidx : (p.by1 % zi s.l.length).toNat < s.l.length := by omega
   have hc := XM (XN q1 hidx)
   unfold GG at hc
   refine (Ja rfl).trans ((Ja (w _ h1' (by omega))).trans ((Ja (by rw [hc, decide_eq_true m1, decide_eq_true m2]; rfl)).trans ?_))
   exact M (av (s.l.getD (p.by1 % zi s.l.length).toNat .top)) (by unfold seA; rw [h1, h2]; rfl)
theorem JJ7 : Jc tau Try.prog 23 JJ6 := JN4.of fun xs es k res hr => by
 change Jnl xs es k = some res at hr
 unfold Jnl at hr
 split at hr
 · rename_i kd by1 who nz nf ns z0 f0 k0 z1 f1 k1 z2 f2 k2 ih iN doc z f l ver hash id1
   obtain ⟨hc, hr⟩ := Jw hr
   simp only [Bool.and_eq_true] at hc
   obtain ⟨⟨c1, c2⟩, c3, c4⟩ := hc
   refine (JD5 ⟨kd, by1, who, ns⟩ ⟨ih, iN, doc, l, ver, hash⟩ id1 nz nf z0 f0 k0 z1 f1 k1 z2 f2 k2 z f c1 c2 c3 c4 k).trans (Eq.trans ?_ hr)
   rw [← Jcw]; rfl
 · cases hr
def N11 : Nat := 58
def F11 : Fns := Js 24 JJL (Js 23 JJ6 (Js 17 s17 (F0)))
theorem Jua : Jq tau Try.prog F11 := (((Jt).add JNR JNQ).add JJ7 JN3).add JJM JNE
def Jps : Code := Qj (Try.f11.body.get!) [1, 1, 1, 0, 1, 0, 0]
def Jfr : Nm := [(1, .any), (2, .any), (6, .any), (7, .own), (8, .any)]
def Jnm : Nm := [(6, .any), (7, .any)]
def Jp : An := (.seq (.seq .leaf (.cond .leaf .leaf)) (.seq (.block none (.seq .leaf (.seq .leaf (.seq .leaf (.cond .leaf .leaf))))) .leaf))
def Jxo (r0 : Qz) : An := (.seq .leaf (.seq .leaf (.seq .leaf (.seq (.seq .leaf (.block none (.sum Jfr N11 r0))) (.seq .leaf .leaf)))))
abbrev JD6 := Nat -> List PV -> Bool -> List PV -> OR) : Nat -> Bool -> Bool -> List PV -> Nat -> Nat -> Int -> Bool -> Bool -> List PV -> Bool -> Bool -> List PV -> Bool -> Bool -> List PV -> List PV -> Bool -> List PV -> OR
abbrev ZA (v2 : List PV) (v5 : Int) := (SP.mk (PV.child 0 (v2.getD v5.toNat PV.top)).int (PV.child (0 + 1) (v2.getD v5.toNat PV.top)).int (PV.child (0 + 1 + 1) (v2.getD v5.toNat PV.top)).int (PV.child (0 + 1 + 1 + 1) (v2.getD v5.toNat PV.top)).els)
abbrev JN (v3 : Nat) (v15 : List PV) := (Jr (v15.getD (0 + (IntKind.i64.wrap (zi v3 - 1)).toNat) PV.top) [])
abbrev Xc (v3 : Nat) (v15 : List PV) := (SV.mk (PV.child 0 (PV.child 0 (JN v3 v15))).int (PV.child (0 + 1) (PV.child 0 (JN v3 v15))).int (PV.child (0 + 1) (JN v3 v15)).str (PV.child (0 + 1 + 1) (JN v3 v15)).els (PV.child (0 + 1 + 1 + 1) (JN v3 v15)).int (PV.child (0 + 1 + 1 + 1 + 1) (JN v3 v15)).els)
abbrev Qo (v2 : List PV) (v3 : Nat) (v5 : Int) (v6 : Bool) (v7 : Bool) (v8 : List PV) (v9 : Bool) (v10 : Bool) (v11 : List PV) (v12 : Bool) (v13 : Bool) (v14 : List PV) (v15 : List PV) := (SX.mk (ZA v2 v5) [PV.ro 5 v6 v7 v8, PV.ro 5 v9 v10 v11, PV.ro 5 v12 v13 v14] (Xc v3 v15) v5)
abbrev ZB (v2 : List PV) (v3 : Nat) (v5 : Int) (v6 : Bool) (v7 : Bool) (v8 : List PV) (v9 : Bool) (v10 : Bool) (v11 : List PV) (v12 : Bool) (v13 : Bool) (v14 : List PV) (v15 : List PV) := (EW.mk (seB (Qo v2 v3 v5 v6 v7 v8 v9 v10 v11 v12 v13 v14 v15)) (seS (Qo v2 v3 v5 v6 v7 v8 v9 v10 v11 v12 v13 v14 v15)) (PV.child (0 + 1 + 1 + 1) (JN v3 v15)).int (seO (Qo v2 v3 v5 v6 v7 v8 v9 v10 v11 v12 v13 v14 v15)) (seH (Qo v2 v3 v5 v6 v7 v8 v9 v10 v11 v12 v13 v14 v15)) (seM (Qo v2 v3 v5 v6 v7 v8 v9 v10 v11 v12 v13 v14 v15)))
abbrev QL (v2 : List PV) (v3 : Nat) (v5 : Int) (v6 : Bool) (v7 : Bool) (v8 : List PV) (v9 : Bool) (v10 : Bool) (v11 : List PV) (v12 : Bool) (v13 : Bool) (v14 : List PV) (v15 : List PV) := (DX.mk (Xc v3 v15) (ZB v2 v3 v5 v6 v7 v8 v9 v10 v11 v12 v13 v14 v15))
abbrev ZC (v3 : Nat) (v15 : List PV) := (PV.isSt (Field.mk "Id" 34 0 false "" "" 0).type #[Field.mk "Host" 3 0 false "" "" 0, Field.mk "N" 3 1 false "" "" 8].size (PV.child 0 (JN v3 v15)) && (PV.isInt IntKind.i64 (PV.child 0 (PV.child 0 (JN v3 v15))) && (PV.isInt IntKind.i64 (PV.child (0 + 1) (PV.child 0 (JN v3 v15))) && true)) && ((PV.child (0 + 1) (JN v3 v15)).isStr && (PV.isRo 42 (PV.child (0 + 1 + 1) (JN v3 v15)) && (PV.isInt IntKind.i64 (PV.child (0 + 1 + 1 + 1) (JN v3 v15)) && (PV.isAr (Field.mk "Hash" 37 5 false "" "" 64).type (PV.child (0 + 1 + 1 + 1 + 1) (JN v3 v15)) && true)))))
def JbN (f : Nat) (rc : Bool -> Bool -> List PV -> Nat -> Nat -> Int -> Bool -> Bool -> List PV -> Bool -> Bool -> List PV -> Bool -> Bool -> List PV -> List PV -> Bool -> List PV -> OR) (k0 : Nat -> Nat -> List PV -> Bool -> List PV -> OR) (v0 v1 : Bool) (v2 : List PV) (v3 v4 : Nat) (v5 : Int) (v6 v7 : Bool) (v8 : List PV) (v9 v10 : Bool) (v11 : List PV) (v12 v13 : Bool) (v14 v15 : List PV) (v16 : Bool) (v17 : List PV) : OR := bif decide (v5 < zi v2.length) then bif decide (0 <= v5) && decide (v5 < zi v2.length) && (PV.isSt 69 #[Field.mk "Kind" 3 0 false "" "" 0, Field.mk "By" 3 1 false "" "" 8, Field.mk "Who" 3 2 false "" "" 16, Field.mk "Ns" 57 3 false "" "" 24].size (v2.getD v5.toNat PV.top) && (PV.isInt IntKind.i64 (PV.child 0 (v2.getD v5.toNat PV.top)) && (PV.isInt IntKind.i64 (PV.child (0 + 1) (v2.getD v5.toNat PV.top)) && (PV.isInt IntKind.i64 (PV.child (0 + 1 + 1) (v2.getD v5.toNat PV.top)) && (PV.isRo 3 (PV.child (0 + 1 + 1 + 1) (v2.getD v5.toNat PV.top)) && true))))) && true then bif decide (0 <= IntKind.i64.wrap (zi v3 - 1)) && decide (IntKind.i64.wrap (zi v3 - 1) < zi v3) && true then bif PV.isSt 58 #[Field.mk "Id" 34 0 false "" "" 0, Field.mk "Doc" 9 2 false "" "" 16, Field.mk "People" 35 3 false "" "" 32, Field.mk "Version" 3 4 false "" "" 56, Field.mk "Hash" 37 5 false "" "" 64].size (JN v3 v15) && (ZC v3 v15) && true then bif sOk (Xc v3 v15) && spOk (ZA v2 v5) && (kO3 [.ro 5 v6 v7 v8, .ro 5 v9 v10 v11, .ro 5 v12 v13 v14] && kIn (PV.child 0 (PV.child 0 (JN v3 v15))).int) then bif decide (0 <= IntKind.i64.wrap (zi v3 - 1)) && decide (IntKind.i64.wrap (zi v3 - 1) < zi v3) && true then bif PV.isSt 58 #[Field.mk "Id" 34 0 false "" "" 0, Field.mk "Doc" 9 2 false "" "" 16, Field.mk "People" 35 3 false "" "" 32, Field.mk "Version" 3 4 false "" "" 56, Field.mk "Hash" 37 5 false "" "" 64].size (JN v3 v15) && (ZC v3 v15) && true then bif sOk (Xc v3 v15) && eD (ZB v2 v3 v5 v6 v7 v8 v9 v10 v11 v12 v13 v14 v15) then bif dsE (QL v2 v3 v5 v6 v7 v8 v9 v10 v11 v12 v13 v14 v15) == 0 then bif Je (v3 + 1) 96 && true then bif Je (v4 + 1) 152 && true then rc v0 v1 v2 (v3 + 1) (v4 + 1) (IntKind.i64.wrap (v5 + 1)) v6 v7 v8 v9 v10 v11 v12 v13 v14 (List.take v3 v15 ++ [.st 58 [.st 34 [.sc (.int .i64 (PV.child 0 (PV.child 0 (JN v3 v15))).int), .sc (.int .i64 (PV.child (0 + 1) (PV.child 0 (JN v3 v15))).int)], .sc (.string (dsD (QL v2 v3 v5 v6 v7 v8 v9 v10 v11 v12 v13 v14 v15))), .ro 42 (dsZ (QL v2 v3 v5 v6 v7 v8 v9 v10 v11 v12 v13 v14 v15) (PV.child (0 + 1 + 1) (JN v3 v15)).nl) (dsF (QL v2 v3 v5 v6 v7 v8 v9 v10 v11 v12 v13 v14 v15) (PV.child (0 + 1 + 1) (JN v3 v15)).fl) (dsL (QL v2 v3 v5 v6 v7 v8 v9 v10 v11 v12 v13 v14 v15)), .sc (.int .i64 (dsV (QL v2 v3 v5 v6 v7 v8 v9 v10 v11 v12 v13 v14 v15))), .ar 37 (dsH (QL v2 v3 v5 v6 v7 v8 v9 v10 v11 v12 v13 v14 v15))]]) (v16 && false) (List.take v4 v17 ++ [.st 51 [.st 47 [.ro 5 false false (seB (Qo v2 v3 v5 v6 v7 v8 v9 v10 v11 v12 v13 v14 v15)), .ar 37 (seS (Qo v2 v3 v5 v6 v7 v8 v9 v10 v11 v12 v13 v14 v15))], .sc (.int .i64 (PV.child (0 + 1 + 1 + 1) (JN v3 v15)).int), .ro 113 false false (seO (Qo v2 v3 v5 v6 v7 v8 v9 v10 v11 v12 v13 v14 v15)), .ar 37 (seH (Qo v2 v3 v5 v6 v7 v8 v9 v10 v11 v12 v13 v14 v15)), .ar 37 (seM (Qo v2 v3 v5 v6 v7 v8 v9 v10 v11 v12 v13 v14 v15))]]) else none else none else rc v0 v1 v2 v3 v4 (IntKind.i64.wrap (v5 + 1)) v6 v7 v8 v9 v10 v11 v12 v13 v14 v15 v16 v17 else none else none else none else none else none else none else none else k0 v3 v4 v15 v16 v17
def G7 (f : Nat) (k0 : Nat -> JD6
 | 0 => fun _ _ _ _ _ _ _ _ _ _ _ _ _ _ _ _ _ _ => none
 | n + 1 => JbN f (G7 f k0 n) k0
def JbO (k : Kont) := fun x0 x1 x2 x3 x4 => k (Ex.exit 0) (Jj Jnm N11 [.ow 58 944 [] 0 x0 none, .ow 51 945 [] 0 x1 none] [(944, .vec false 58 false x2), (945, .vec false 51 x3 x4)])
def Jnn (f : Nat) (k : Kont) (n : Nat) (v0 v1 : Bool) (v2 : List PV) (v3 v4 : Nat) (v5 : Int) (v6 v7 : Bool) (v8 : List PV) (v9 v10 : Bool) (v11 : List PV) (v12 v13 : Bool) (v14 v15 : List PV) (v16 : Bool) (v17 : List PV) : OR := Jy tau 0 Jfr (fun s k => ev tau F11 0 0 Jps (Jp ) s k) n (Jj Jfr N11 [.ro 69 v0 v1 v2, .ptr 944 [], .ow 58 945 [] 0 v3 none, .ow 51 946 [] 0 v4 none, .sc (.int .i64 v5)] [(944, .box false 31 (PV.st 31 [.ro 5 v6 v7 v8, .ro 5 v9 v10 v11, .ro 5 v12 v13 v14])), (945, .vec false 58 false v15), (946, .vec false 51 v16 v17)]) (JI tau 0 Jnm k)
theorem Jxp (f : Nat) (k : Kont) (n : Nat) : Jnn f k (n + 1) = JbN f (Jnn f k n) (JbO k) := by kernel_rfl
theorem Jpt (f : Nat) (k : Kont) : ∀ n, Jnn f k n = G7 f (JbO k) n
 | 0 => rfl
 | n + 1 => (Jxp f k n).trans (congrArg (fun r => JbN f r (JbO k)) (Jpt f k n))
def Jfs (f : Nat) : List PV -> List (Nat × Ent) -> Kont -> OR
 | [.ro 69 v0 v1 v2, .ptr 944 [], .ow 58 945 [] 0 v3 none, .ow 51 946 [] 0 v4 none,
 PV.sc
  (Value.int IntKind.i64
   v5)], [(944, .box false 31 (PV.st 31 [.ro 5 v6 v7 v8, .ro 5 v9 v10 v11, .ro 5 v12 v13 v14])), (945, .vec false 58 false v15),
 (946,
  Ent.vec false 51 v16
   v17)], k => G7 f (JbO k) f v0 v1 v2 v3 v4 v5 v6 v7 v8 v9 v10 v11 v12 v13 v14 v15 v16 v17
 | _, _, _ => none
theorem JD7 (f : Nat) : Jg Jps Jp = [] := by kernel_rfl
theorem JD8 (f : Nat) : (Item.l Jps Jfr N11 (Jfs f)).Ok tau Try.prog 0 := Ju Jn Jua Jo (x := Jp) (nm2 := Jnm) (Jk _ _ (by rw [JD7 f]; intro q hq; cases hq)) fun vs hp k res hr => by
 unfold Jfs at hr
 split at hr
 · rw [← Jpt f] at hr; exact ⟨f, 0, hr⟩
 · cases hr
abbrev Jis := (List.take (apI (apI (apI (apI [] 0) 3) 0) 1).length (apI (apI (apI (apI [] 0) 3) 0) 1))
def g11 (f : Nat) (k0_z k0_f : Bool) (k0 : List PV) (k1_z k1_f : Bool) (k1 : List PV) (k2_z k2_f : Bool) (k2 : List PV) (l_z l_f : Bool) (l : List PV) (k : KR) : OR := bif okL (apI [] 0).length (apI [] 0) then bif okL (apI (apI [] 0) 3).length (apI (apI [] 0) 3) then bif okL (apI (apI (apI [] 0) 3) 0).length (apI (apI (apI [] 0) 3) 0) then bif Jl IntKind.u8 Jis && decide (Jis.length <= 140737488355000) then G7 f (fun x0_0 x1_0 x2_0 JR x4_0 => k (Res.mk (.tup [.ro 51 (Ent.vec false 51 JR x4_0).nil false (List.take x1_0 x4_0), .ro 58 false false (List.take x0_0 x2_0)]) [] [])) f l_z l_f l (1) (0) (0) k0_z k0_f k0 k1_z k1_f k1 k2_z k2_f k2 ([.st 58 [.st 34 [.sc (.int .i64 0), .sc (.int .i64 3)], .sc (.string (ByteArray.mk (Array.mk []))), .ro 42 false false [.st 42 [.sc (.int .i64 0), .sc (.int .i64 1)]], .sc (.int .i64 0), .ar 37 (pu IntKind.u8 (JZ (JD Jis)))]]) true ([]) else none else none else none else none
theorem e11 (f : Nat) (k0_z k0_f : Bool) (k0 : List PV) (k1_z k1_f : Bool) (k1 : List PV) (k2_z k2_f : Bool) (k2 : List PV) (l_z l_f : Bool) (l : List PV) (k : KR) : JK tau F11 Try.f11 (Try.f11.body.get!) (Jxo (Jfs f)) [.ro, .ro] 0 [.st 31 [.ro 5 k0_z k0_f k0, .ro 5 k1_z k1_f k1, .ro 5 k2_z k2_f k2], .ro 69 l_z l_f l] [] k = g11 f k0_z k0_f k0 k1_z k1_f k1 k2_z k2_f k2 l_z l_f l k := by kernel_rfl
theorem JN5 (f : Nat) : Jg (Try.f11.body.get!) (Jxo (Jfs f)) = [.l Jps Jfr N11 (Jfs f)] := by kernel_rfl
theorem JN6 (f : Nat) : ∀ q ∈ Jg (Try.f11.body.get!) (Jxo (Jfs f)), q.Ok tau Try.prog 0 := by rw [JN5 f]; exact JL (JD8 f) (fun _ h => nomatch h)
theorem JJ8 : Try.prog.funcs[11]? = some Try.f11 := by kernel_rfl
theorem JJ9 : Try.f11.body = some (Try.f11.body.get!) := by kernel_rfl
theorem JN7 : Enters Try.prog 11 := enters_of JJ8 (by kernel_rfl) JJ9
def isStt : PV -> Bool
 | .st t [.st t2 [.sc (.int .i64 _), .sc (.int .i64 _)], .sc (.string _), .ro t3 _ _ _, .sc (.int .i64 _), .ar t4 _] => t == 58 && (t2 == 34 && (t3 == 42 && t4 == 37))
 | _ => false
def sv (p : PV) : SV := ⟨((p.child 0).child 0).int, ((p.child 0).child 1).int, (p.child 1).str, (p.child 2).els, (p.child 3).int, (p.child 4).els⟩
theorem Jcx {p : PV} : isStt p = true ↔ ∃ s z f, p = stP s z f := by
 constructor
 · intro h
   unfold isStt at h
   split at h
   · rename_i t t2 a b d t3 z f l v t4 hs
     simp only [Bool.and_eq_true, beq_iff_eq] at h
     obtain ⟨rfl, rfl, rfl, rfl⟩ := h
     exact ⟨⟨a, b, d, l, v, hs⟩, z, f, rfl⟩
   · cases h
 · rintro ⟨s, z, f, rfl⟩; rfl
theorem Jno (s : SV) (z f : Bool) : sv (stP s z f) = s := rfl
def Jj4 : PV -> Bool
 | .st t [.sc (.int .i64 _), .sc (.int .i64 _), .sc (.int .i64 _), .ro t2 _ _ _] => t == 69 && t2 == 3
 | _ => false
def sp (p : PV) : SP := ⟨(p.child 0).int, (p.child 1).int, (p.child 2).int, (p.child 3).els⟩
theorem Jub {p : PV} : Jj4 p = true ↔ ∃ s z f, p = .st 69 [.sc (.int .i64 s.kd), .sc (.int .i64 s.by1), .sc (.int .i64 s.who), .ro 3 z f s.ns] /\ sp p = s := by
 constructor
 · intro h
   unfold Jj4 at h
   split at h
   · rename_i t a b c t2 z f l
     simp only [Bool.and_eq_true, beq_iff_eq] at h
     obtain ⟨rfl, rfl⟩ := h
     exact ⟨⟨a, b, c, l⟩, z, f, rfl, rfl⟩
   · cases h
 · rintro ⟨s, z, f, rfl, _⟩; rfl
def stpX (K : List PV) (p : SP) (i : Int) (s : SV) : DX := ⟨s, seW ⟨p, K, s, i⟩⟩
def stpN (K : List PV) (p : SP) (i : Int) (q : PV) : PV := stP (dsS (stpX K p i (sv q))) (dsZ (stpX K p i (sv q)) (q.child 2).nl) (dsF (stpX K p i (sv q)) (q.child 2).fl)
def bld (K : List PV) : List PV -> Int -> PV -> List (PV × PV)
 | [], _, _ => []
 | p :: ps, i, q =>
  bif dsE0 (stpX K (sp p) i (sv q)) == 0 then (ewP (seW ⟨sp p, K, sv q, i⟩), stpN K (sp p) i q) :: bld K ps (i + 1) (stpN K (sp p) i q)
  else bld K ps (i + 1) q
structure BOk (i : Int) (q : PV) : Prop where
 st : isStt q = true
 ok : sOk (sv q) = true
 by1 : byB (sv q).hash = true
 ih : (sv q).ih = 0
 iN : (sv q).iN = 3
 ver : (sv q).ver <= i
theorem Jpu (bs : List Int) : ∀ x ∈ JZ bs, 0 <= x /\ x < 256 := by
 intro x hx
 rw [Jdq] at hx
 obtain ⟨i, _, rfl⟩ := List.mem_map.1 hx
 exact Jdr _
theorem Juc (x : NX) : byB (pu .u8 (nxP x)) = true := Jk9.2 (by rw [Jfb]; exact Jpu _)
theorem BOk.next {K : List PV} {p : SP} {i : Int} {q : PV} (h : BOk i q) (hp : spOk p = true) (hi : i < 1000) (h0 : 0 <= i) : BOk (i + 1) (stpN K p i q) where
 st := rfl
 ok := by
  show sOk (dsS (stpX K p i (sv q))) = true
  exact Jpp (x := stpX K p i (sv q)) h.ok (Jnk (x := ⟨p, K, sv q, i⟩) h.ok hp h.by1) (by have := h.ver; show (sv q).ver < 1000000; omega)
 by1 := by
  show byB (dsH (stpX K p i (sv q))) = true
  rw [G3]
  cases dsE0 (stpX K p i (sv q)) == 0 with
  | true => exact Juc _
  | false => exact h.by1
 ih := h.ih
 iN := h.iN
 ver := by
  show dsV (stpX K p i (sv q)) <= i + 1
  have := h.ver
  rw [Vv]
  cases dsE0 (stpX K p i (sv q)) == 0 with
  | true => show (sv q).ver + 1 <= i + 1; omega
  | false => show (sv q).ver <= i + 1; omega
theorem BOk.up {i j : Int} {q : PV} (h : BOk i q) (hj : i <= j) : BOk j q := { h with ver := by have := h.ver; omega }
theorem Jnp {K : List PV} : ∀ (l : List PV) (i : Int) (q : PV), (∀ p ∈ l, spOk (sp p) = true) -> 0 <= i -> i + l.length <= 1000 -> BOk i q -> ∀ x ∈ bld K l i q, BOk (i + l.length) x.2
 | [], _, _, _, _, _, _, x, hx => by cases hx
 | p :: ps, i, q, hp, h0, hi, hq, x, hx => by
  simp only [List.length_cons] at hi ⊢
  simp only [bld] at hx
  have hp' : ∀ r ∈ ps, spOk (sp r) = true := fun r hr => hp r (List.mem_cons_of_mem _ hr)
  have hn := hq.next (K := K) (hp p List.mem_cons_self) (by omega) h0
  cases hc : (dsE0 (stpX K (sp p) i (sv q)) == 0) with
  | true =>
   rw [hc, cond_true] at hx
   rcases List.mem_cons.1 hx with rfl | hx
   · exact hn.up (by omega)
   · exact (Jnp ps (i + 1) _ hp' (by omega) (by omega) hn x hx).up (by omega)
  | false =>
   rw [hc, cond_false] at hx
   exact (Jnp ps (i + 1) _ hp' (by omega) (by omega) (hq.up (by omega)) x hx).up (by omega)
theorem G8 {K : List PV} : ∀ (l : List PV) (i : Int) (q : PV), (bld K l i q).length <= l.length
 | [], _, _ => Nat.le_refl _
 | p :: ps, i, q => by
  simp only [bld]
  cases dsE0 (stpX K (sp p) i (sv q)) == 0 with
  | true => simp only [cond_true, List.length_cons]; have := G8 ps (i + 1) (stpN K (sp p) i q) (K := K); omega
  | false => simp only [cond_false, List.length_cons]; have := G8 ps (i + 1) q (K := K); omega
structure BL where
 (K l : List PV)
def h0L : List PV := apI (apI (apI (apI [] 0) 3) 0) 1
def q0 : PV := stP ⟨0, 3, ByteArray.mk (Array.mk []), [adP ⟨0, 1⟩], 0, pu .u8 (JZ (JD (List.take h0L.length h0L)))⟩ false false
def bS : BL -> List PV := hid fun x => q0 :: (bld x.K x.l 0 q0).map Prod.snd
def bE : BL -> List PV := hid fun x => (bld x.K x.l 0 q0).map Prod.fst
theorem JzQ (x : BL) : bS x = q0 :: (bld x.K x.l 0 q0).map Prod.snd := by rw [bS, hid_eq]
theorem JzR (x : BL) : bE x = (bld x.K x.l 0 q0).map Prod.fst := by rw [bE, hid_eq]
def lOk : List PV -> Bool := hid fun l => l.all Jj4 && (l.all (fun p => spOk (sp p)) && decide (l.length <= 25))
theorem Jdx {l : List PV} : lOk l = true ↔ l.all Jj4 = true /\ (∀ p ∈ l, spOk (sp p) = true) /\ l.length <= 25 := by
 rw [lOk, hid_eq]; simp only [Bool.and_eq_true, List.all_eq_true, decide_eq_true_eq]
theorem Jud : BOk 0 q0 where
 st := rfl
 ok := by
  refine Xf.2 ⟨QD.2 ⟨rfl, rfl, by decide⟩, h32_iff.2 ⟨JO _ _, ?_⟩, by decide, by decide, by decide, ?_⟩
  · show (pu .u8 (JZ _)).length = 32; rw [JG]; exact Qx _
  · show (inA [0, 2, 1, 7] && true) = true; rw [Jjs]; rfl
 by1 := Jk9.2 (Jpu _)
 ih := rfl
 iN := rfl
 ver := Int.le_refl _
theorem JzS (l : List PV) (z fl : Bool) (hl : lOk l = true) (z0 f0 : Bool) (a0 : List PV) (z1 f1 : Bool) (a1 : List PV) (z2 f2 : Bool) (a2 : List PV) (hK : kO3 [.ro 5 z0 f0 a0, .ro 5 z1 f1 a1, .ro 5 z2 f2 a2] = true) (f : Nat) (k0 : Nat -> Nat -> List PV -> Bool -> List PV -> OR) :
  ∀ (d i n : Nat) (S E : List PV) (q : PV), i + d = l.length -> d < n -> BOk i q -> S.length <= i -> E.length <= i ->
   G7 f k0 n z fl l (S ++ [q]).length E.length (i : Int) z0 f0 a0 z1 f1 a1 z2 f2 a2 (S ++ [q]) E.isEmpty E =
     k0 (S ++ q :: (bld [.ro 5 z0 f0 a0, .ro 5 z1 f1 a1, .ro 5 z2 f2 a2] (l.drop i) i q).map Prod.snd).length (E ++ (bld [.ro 5 z0 f0 a0, .ro 5 z1 f1 a1, .ro 5 z2 f2 a2] (l.drop i) i q).map Prod.fst).length (S ++ q :: (bld [.ro 5 z0 f0 a0, .ro 5 z1 f1 a1, .ro 5 z2 f2 a2] (l.drop i) i q).map Prod.snd) (E ++ (bld [.ro 5 z0 f0 a0, .ro 5 z1 f1 a1, .ro 5 z2 f2 a2] (l.drop i) i q).map Prod.fst).isEmpty (E ++ (bld [.ro 5 z0 f0 a0, .ro 5 z1 f1 a1, .ro 5 z2 f2 a2] (l.drop i) i q).map Prod.fst)
 | 0, i, n + 1, S, E, q, hi, hn, hq, hS, hE => by
   rw [List.drop_of_length_le (by omega)]
   simp only [G7, JbN, ZC, QL, ZB, Qo, Xc, JN, ZA, bld, List.map_nil, List.append_nil]
   exact Jd (by simp [zi]; omega)
 | d + 1, i, n + 1, S, E, q, hi, hn, hq, hS, hE => by
   obtain ⟨h1, h2, h3⟩ := Jdx.1 hl
   have g1 := tI i
   have w1 := wI (i := i) (by omega)
   have w2 : IntKind.i64.wrap (zi (S ++ [q]).length - 1) = (S.length : Int) := by
     have : zi (S ++ [q]).length = (S.length : Int) + 1 := by simp [zi]
     rw [this, wrap_i64 (by omega) (by omega)]; omega
   have g4 : Jr ((S ++ [q]).getD (0 + ((S.length : Int)).toNat) PV.top) [] = q := by
     show (S ++ [q]).getD (0 + ((S.length : Int)).toNat) PV.top = q
     rw [Nat.zero_add, Int.toNat_natCast, List.getD_eq_getElem?_getD]; simp
   have hmem : l.getD i .top ∈ l := by
     rw [List.getD_eq_getElem?_getD, List.getElem?_eq_getElem (by omega)]; exact List.getElem_mem _
   obtain ⟨p, nz, nf, hp, hsp⟩ := Jub.1 (List.all_eq_true.1 h1 _ hmem)
   have hpo : spOk p = true := by rw [← hsp]; exact h2 _ hmem
   rw [Qb (by omega)]
   have hnx := hq.next (K := [.ro 5 z0 f0 a0, .ro 5 z1 f1 a1, .ro 5 z2 f2 a2]) hpo (by omega) (by omega)
   have hup : BOk ((i + 1 : Nat) : Int) q := hq.up (by omega)
   have hnx : BOk ((i + 1 : Nat) : Int) (stpN [.ro 5 z0 f0 a0, .ro 5 z1 f1 a1, .ro 5 z2 f2 a2] p i q) := by have := hnx; rwa [show (i : Int) + 1 = ((i + 1 : Nat) : Int) from by omega] at this
   have IH := fun S E q => JzS l z fl hl z0 f0 a0 z1 f1 a1 z2 f2 a2 hK f k0 d (i + 1) n S E q (by omega) (by omega)
   have hb : bld [.ro 5 z0 f0 a0, .ro 5 z1 f1 a1, .ro 5 z2 f2 a2] (l.getD i .top :: l.drop (i + 1)) i q = bif dsE0 (stpX [.ro 5 z0 f0 a0, .ro 5 z1 f1 a1, .ro 5 z2 f2 a2] p i (sv q)) == 0 then (ewP (seW ⟨p, [.ro 5 z0 f0 a0, .ro 5 z1 f1 a1, .ro 5 z2 f2 a2], sv q, i⟩), stpN [.ro 5 z0 f0 a0, .ro 5 z1 f1 a1, .ro 5 z2 f2 a2] p i q) :: bld [.ro 5 z0 f0 a0, .ro 5 z1 f1 a1, .ro 5 z2 f2 a2] (l.drop (i + 1)) ((i + 1 : Nat) : Int) (stpN [.ro 5 z0 f0 a0, .ro 5 z1 f1 a1, .ro 5 z2 f2 a2] p i q)
      else bld [.ro 5 z0 f0 a0, .ro 5 z1 f1 a1, .ro 5 z2 f2 a2] (l.drop (i + 1)) ((i + 1 : Nat) : Int) q := by
     simp only [bld, hsp]; rfl
   rw [hb]
   simp only [G7, JbN, ZC, QL, ZB, Qo, Xc, JN, ZA, g1, w1, w2, g4, hp]
   generalize hKK : [PV.ro 5 z0 f0 a0, .ro 5 z1 f1 a1, .ro 5 z2 f2 a2] = K at *
   obtain ⟨s, zq, fq, rfl⟩ := Jcx.1 hq.st
   have hs : sOk s = true := hq.ok
   have hby : byB s.hash = true := hq.by1
   have hih : kIn s.ih = true := by rw [show s.ih = 0 from hq.ih, Jfa]; rfl
   have heD := Jnk (x := ⟨p, K, s, i⟩) hs hpo hby
   have hSV : SV.mk (PV.child 0 (PV.child 0 (stP s zq fq))).int (PV.child (0 + 1) (PV.child 0 (stP s zq fq))).int (PV.child (0 + 1) (stP s zq fq)).str (PV.child (0 + 1 + 1) (stP s zq fq)).els (PV.child (0 + 1 + 1 + 1) (stP s zq fq)).int (PV.child (0 + 1 + 1 + 1 + 1) (stP s zq fq)).els = s := rfl
   have hSP : SP.mk (PV.child 0 (PV.st 69 [.sc (.int .i64 p.kd), .sc (.int .i64 p.by1), .sc (.int .i64 p.who), .ro 3 nz nf p.ns])).int (PV.child (0 + 1) (PV.st 69 [.sc (.int .i64 p.kd), .sc (.int .i64 p.by1), .sc (.int .i64 p.who), .ro 3 nz nf p.ns])).int (PV.child (0 + 1 + 1) (PV.st 69 [.sc (.int .i64 p.kd), .sc (.int .i64 p.by1), .sc (.int .i64 p.who), .ro 3 nz nf p.ns])).int (PV.child (0 + 1 + 1 + 1) (PV.st 69 [.sc (.int .i64 p.kd), .sc (.int .i64 p.by1), .sc (.int .i64 p.who), .ro 3 nz nf p.ns])).els = p := rfl
   have c1 : (PV.child 0 (PV.child 0 (stP s zq fq))).int = s.ih := rfl
   have c2 : (PV.child (0 + 1) (PV.child 0 (stP s zq fq))).int = s.iN := rfl
   have c3 : (PV.child (0 + 1 + 1 + 1) (stP s zq fq)).int = s.ver := rfl
   have c4 : (PV.child (0 + 1 + 1) (stP s zq fq)).nl = zq := rfl
   have c5 : (PV.child (0 + 1 + 1) (stP s zq fq)).fl = fq := rfl
   simp only [hSV, hSP]
   simp only [c1, c2, c3, c4, c5]
   have eEW := Jcw ⟨p, K, s, i⟩
   simp only at eEW
   simp only [eEW]
   have hen : PV.st 51 [PV.st 47 [.ro 5 false false (seB ⟨p, K, s, i⟩), .ar 37 (seS ⟨p, K, s, i⟩)], .sc (.int .i64 s.ver), .ro 113 false false (seO ⟨p, K, s, i⟩), .ar 37 (seH ⟨p, K, s, i⟩), .ar 37 (seM ⟨p, K, s, i⟩)] = ewP (seW ⟨p, K, s, i⟩) := by rw [← Jcw]; rfl
   have hst : PV.st 58 [PV.st 34 [.sc (.int .i64 s.ih), .sc (.int .i64 s.iN)], .sc (.string (dsD ⟨s, seW ⟨p, K, s, i⟩⟩)), .ro 42 (dsZ ⟨s, seW ⟨p, K, s, i⟩⟩ zq) (dsF ⟨s, seW ⟨p, K, s, i⟩⟩ fq) (dsL ⟨s, seW ⟨p, K, s, i⟩⟩), .sc (.int .i64 (dsV ⟨s, seW ⟨p, K, s, i⟩⟩)), .ar 37 (dsH ⟨s, seW ⟨p, K, s, i⟩⟩)] = stpN K p i (stP s zq fq) := rfl
   have hX : stpX K p i s = ⟨s, seW ⟨p, K, s, i⟩⟩ := rfl
   simp only [hen, hst, hX, Jno, Jcp]
   have tk1 : List.take (S ++ [stP s zq fq]).length (S ++ [stP s zq fq]) = S ++ [stP s zq fq] := List.take_length
   have tk2 : List.take E.length E = E := List.take_length
   simp only [tk1, tk2]
   have hr2 : (decide (0 <= (S.length : Int)) && decide ((S.length : Int) < zi (S ++ [stP s zq fq]).length) && true) = true := by simp [zi]; omega
   refine (Ja (by simp [zi]; omega)).trans ((Ja ?_).trans ((Ja hr2).trans ((Ja rfl).trans ((Ja ?_).trans ((Ja hr2).trans ((Ja rfl).trans ((Ja ?_).trans ?_)))))))
   · have : (decide (0 <= (i : Int)) && decide ((i : Int) < zi l.length) && true && true) = true := by simp [zi]; omega
     exact this
   · rw [hs, hpo, hK, hih]; rfl
   · rw [hs, heD]; rfl
   cases hc : (dsE0 ⟨s, seW ⟨p, K, s, i⟩⟩ == 0) with
   | false =>
     exact (Jd rfl).trans (IH S E (stP s zq fq) hup (by omega) (by omega))
   | true =>
     refine (Ja rfl).trans ((Ja (by simp [Je]; omega)).trans ((Ja (by simp [Je]; omega)).trans ?_))
     have e1 : (S ++ [stP s zq fq]).length + 1 = ((S ++ [stP s zq fq]) ++ [stpN K p i (stP s zq fq)]).length := by simp
     have e2 : E.length + 1 = (E ++ [ewP (seW ⟨p, K, s, i⟩)]).length := by simp
     have e3 : (E.isEmpty && false) = (E ++ [ewP (seW ⟨p, K, s, i⟩)]).isEmpty := by simp
     rw [e1, e2, e3]
     refine (IH (S ++ [stP s zq fq]) (E ++ [ewP (seW ⟨p, K, s, i⟩)]) (stpN K p i (stP s zq fq)) hnx (by simp; omega) (by simp; omega)).trans ?_
     simp only [cond_true, List.map_cons, List.append_assoc, List.cons_append, List.nil_append]
def Jnq : JA
 | [.st 31 [.ro 5 z0 f0 k0, .ro 5 z1 f1 k1, .ro 5 z2 f2 k2], .ro 69 z f l], [], k =>
  bif lOk l && kO3 [.ro 5 z0 f0 k0, .ro 5 z1 f1 k1, .ro 5 z2 f2 k2] then k ⟨.tup [.ro 51 (bE ⟨[.ro 5 z0 f0 k0, .ro 5 z1 f1 k1, .ro 5 z2 f2 k2], l⟩).isEmpty false (bE ⟨[.ro 5 z0 f0 k0, .ro 5 z1 f1 k1, .ro 5 z2 f2 k2], l⟩), .ro 58 false false (bS ⟨[.ro 5 z0 f0 k0, .ro 5 z1 f1 k1, .ro 5 z2 f2 k2], l⟩)], [], []⟩ else none
 | _, _, _ => none
def JKa : Sig := { own := [], run := Jnq }
theorem JD9 (z0 f0 : Bool) (k0 : List PV) (z1 f1 : Bool) (k1 : List PV) (z2 f2 : Bool) (k2 : List PV) (z f : Bool) (l : List PV) (hl : lOk l = true) (hK : kO3 [.ro 5 z0 f0 k0, .ro 5 z1 f1 k1, .ro 5 z2 f2 k2] = true) (k : KR) :
   g11 50 z0 f0 k0 z1 f1 k1 z2 f2 k2 z f l k = k ⟨.tup [.ro 51 (bE ⟨[.ro 5 z0 f0 k0, .ro 5 z1 f1 k1, .ro 5 z2 f2 k2], l⟩).isEmpty false (bE ⟨[.ro 5 z0 f0 k0, .ro 5 z1 f1 k1, .ro 5 z2 f2 k2], l⟩), .ro 58 false false (bS ⟨[.ro 5 z0 f0 k0, .ro 5 z1 f1 k1, .ro 5 z2 f2 k2], l⟩)], [], []⟩ := by
 obtain ⟨h1, h2, h3⟩ := Jdx.1 hl
 unfold g11 Jis
 have hL : (apI (apI (apI (apI [] 0) 3) 0) 1) = h0L := rfl
 have hlen : h0L.length = 32 := by unfold h0L; simp only [Xe]; rfl
 have hall : Jl .u8 h0L = true := by unfold h0L; simp only [Yx, Wb, JO, Bool.and_true]; rfl
 have hq : PV.st 58 [PV.st 34 [.sc (.int .i64 0), .sc (.int .i64 3)], .sc (.string (ByteArray.mk (Array.mk []))), .ro 42 false false [PV.st 42 [.sc (.int .i64 0), .sc (.int .i64 1)]], .sc (.int .i64 0), .ar 37 (pu .u8 (JZ (JD (List.take h0L.length h0L))))] = q0 := rfl
 simp only [hL, hq]
 have okl : ∀ l : List PV, l.length <= 1000 -> okL l.length l = true := fun l h => W4 (by omega)
 refine (Ja (okl _ (by simp only [Xe]; simp))).trans ((Ja (okl _ (by simp only [Xe]; simp))).trans ((Ja (okl _ (by simp only [Xe]; simp))).trans ((Ja ?_).trans ?_)))
 · rw [List.take_length, hall, hlen]; rfl
 refine (JzS l z f hl z0 f0 k0 z1 f1 k1 z2 f2 k2 hK 50 _ l.length 0 50 [] [] q0 (by omega) (by omega) Jud (Nat.le_refl _) (Nat.le_refl _)).trans ?_
 rw [JzR, JzQ]
 simp only [List.drop_zero, List.nil_append, List.take_length]
 rfl
theorem JKb : Jc tau Try.prog 11 JKa := Jc.mk' fun xs es k res hl hr => by
 change Jnq xs es k = some res at hr
 unfold Jnq at hr
 split at hr
 · rename_i z0 f0 k0 z1 f1 k1 z2 f2 k2 z f l
   obtain ⟨hc, hr⟩ := Jw hr
   rw [Bool.and_eq_true] at hc
   exact J6 Jn Jua Jo JJ8 JJ9 (Jxo (Jfs 50)) [.ro, .ro] 0 0 (JN6 50) hl rfl ((e11 50 z0 f0 k0 z1 f1 k1 z2 f2 k2 z f l k).trans ((JD9 z0 f0 k0 z1 f1 k1 z2 f2 k2 z f l hc.1 hc.2 k).trans hr))
 · cases hr
def F86 : Fns := F0
theorem JEa : Jq tau Try.prog F86 := Jt
def JEb : An := (.seq .leaf (.seq (.seq .leaf (.cond (.seq .leaf .leaf) .leaf)) (.seq .leaf .leaf)))
def g86 (f : Nat) (s_z s_f : Bool) (s : List PV) (k : KR) : OR := bif s_z then k (Res.mk (.ro 42 true true []) [] []) else bif Je (0 + s.length) 16 && true then k (Res.mk (.ow 42 16 [] 0 (0 + s.length) none) [] [.vec false 42 false s]) else none
theorem e86 (f : Nat) (s_z s_f : Bool) (s : List PV) (k : KR) : JK tau F86 Try.f86 (Try.f86.body.get!) JEb [] 0 [.ro 42 s_z s_f s] [] k = g86 f s_z s_f s k := by kernel_rfl
theorem JN8 (f : Nat) : ∀ q ∈ Jg (Try.f86.body.get!) JEb, q.Ok tau Try.prog 0 := Jx (by kernel_rfl)
theorem JKc : Try.prog.funcs[86]? = some Try.f86 := by kernel_rfl
theorem JKd : Try.f86.body = some (Try.f86.body.get!) := by kernel_rfl
theorem JEc : Enters Try.prog 86 := enters_of JKc (by kernel_rfl) JKd
def Jue : JA
 | [.ro 42 s_z s_f s], [], k => g86 0 s_z s_f s k
 | _, _, _ => none
def s86 : Sig := { own := [], run := Jue }
theorem JEd : Jc tau Try.prog 86 s86 := JP Jn JEa Jo JKc JKd JEb [] 0 [] Jue (JN8 0) fun xs es k res hr => by
 unfold Jue at hr
 split at hr
 · exact ⟨rfl, 0, (e86 0 _ _ _  _).trans hr⟩
 · cases hr
def F38 : Fns := Js 86 s86 (F0)
theorem JEe : Jq tau Try.prog F38 := (Jt).add JEd JEc
def JEf : An := (.seq .leaf (.seq .leaf (.seq .leaf .leaf)))
def g38 (f : Nat) (y0 y1 : Int) (y2 : ByteArray) (y3 y4 : Bool) (y5 : List PV) (y6 : Int) (y7 : List PV) (k : KR) : OR := bif y3 then k (Res.mk (.st 39 [.st 34 [.sc (.int .i64 y0), .sc (.int .i64 y1)], .sc (.string y2), .ro 42 true true [], .sc (.int .i64 y6), .ar 37 y7]) [] []) else bif Je (0 + y5.length) 16 && true then k (Res.mk (.st 39 [.st 34 [.sc (.int .i64 y0), .sc (.int .i64 y1)], .sc (.string y2), .ro 42 false false (List.take (0 + y5.length) y5), .sc (.int .i64 y6), .ar 37 y7]) [] []) else none
theorem e38 (f : Nat) (y0 y1 : Int) (y2 : ByteArray) (y3 y4 : Bool) (y5 : List PV) (y6 : Int) (y7 : List PV) (k : KR) : JK tau F38 Try.f38 (Try.f38.body.get!) JEf [.ro] 0 [.st 39 [.st 34 [.sc (.int .i64 y0), .sc (.int .i64 y1)], .sc (.string y2), .ro 42 y3 y4 y5, .sc (.int .i64 y6), .ar 37 y7]] [] k = g38 f y0 y1 y2 y3 y4 y5 y6 y7 k := by kernel_rfl
theorem JN9 (f : Nat) : ∀ q ∈ Jg (Try.f38.body.get!) JEf, q.Ok tau Try.prog 0 := Jx (by kernel_rfl)
theorem JKe : Try.prog.funcs[38]? = some Try.f38 := by kernel_rfl
theorem JKf : Try.f38.body = some (Try.f38.body.get!) := by kernel_rfl
theorem JOa : Enters Try.prog 38 := enters_of JKe (by kernel_rfl) JKf
def Juf : JA
 | [.st 39 [.st 34 [.sc (.int .i64 y0), .sc (.int .i64 y1)], .sc (.string y2), .ro 42 y3 y4 y5, .sc (.int .i64 y6), .ar 37 y7]], [], k => g38 0 y0 y1 y2 y3 y4 y5 y6 y7 k
 | _, _, _ => none
def s38 : Sig := { own := [], run := Juf }
theorem JOb : Jc tau Try.prog 38 s38 := JP Jn JEe Jo JKe JKf JEf [.ro] 0 [] Juf (JN9 0) fun xs es k res hr => by
 unfold Juf at hr
 split at hr
 · exact ⟨rfl, 0, (e38 0 _ _ _ _ _ _ _ _  _).trans hr⟩
 · cases hr
def JKg : Fns := F0
theorem Jxq : Jq tau Try.prog JKg := Jt
def Jug : An := (.seq .leaf (.seq .leaf .leaf))
def Jxr (f : Nat) (a_D a_U : Int) (k : KR) : OR := bif decide (a_D >= 0) then bif decide (a_D < 3) then bif decide (a_U >= 0) then k (Res.mk (.sc (.bool (decide (a_U < 8)))) [] []) else k (Res.mk (.sc (.bool false)) [] []) else k (Res.mk (.sc (.bool false)) [] []) else k (Res.mk (.sc (.bool false)) [] [])
theorem JOc (f : Nat) (a_D a_U : Int) (k : KR) : JK tau JKg Try.f128 (Try.f128.body.get!) Jug [.ro] 0 [.st 42 [.sc (.int .i64 a_D), .sc (.int .i64 a_U)]] [] k = Jxr f a_D a_U k := by kernel_rfl
theorem JKh (f : Nat) : ∀ q ∈ Jg (Try.f128.body.get!) Jug, q.Ok tau Try.prog 0 := Jx (by kernel_rfl)
theorem JzT : Try.prog.funcs[128]? = some Try.f128 := by kernel_rfl
theorem JzU : Try.f128.body = some (Try.f128.body.get!) := by kernel_rfl
theorem JKi : Enters Try.prog 128 := enters_of JzT (by kernel_rfl) JzU
def Jnr : JA
 | [.st 42 [.sc (.int .i64 a_D), .sc (.int .i64 a_U)]], [], k => Jxr 0 a_D a_U k
 | _, _, _ => none
def JOd : Sig := { own := [], run := Jnr }
theorem JKj : Jc tau Try.prog 128 JOd := JP Jn Jxq Jo JzT JzU Jug [.ro] 0 [] Jnr (JKh 0) fun xs es k res hr => by
 unfold Jnr at hr
 split at hr
 · exact ⟨rfl, 0, (JOc 0 _ _  _).trans hr⟩
 · cases hr
def Jqt : Nat := 19
def JEg : Fns := F0
theorem Jpv : Jq tau Try.prog JEg := Jt
def Jit : Code := Qj (Try.f123.body.get!) [1, 0, 1, 0, 0]
def JbP : Nm := [(0, .any), (3, .any), (7, .any), (8, .any)]
def Jdy : Nm := [(4, .any)]
def Jns : An := (.seq .leaf (.seq (.cond .leaf .leaf) (.seq (.block none (.seq .leaf (.seq .leaf (.cond (.seq .leaf .leaf) .leaf)))) .leaf)))
def Jpw (r0 : Qz) : An := (.seq .leaf (.seq (.seq .leaf (.block none (.sum JbP Jqt r0))) (.seq .leaf .leaf)))
abbrev Jpx := Bool -> Bool -> List PV -> Int -> Int -> Int -> Int -> OR
def Vx (f : Nat) (rc : Jpx) (k0 : Int -> OR) (k1 : OR) (v0 v1 : Bool) (v2 : List PV) (v3 v4 v5 v6 : Int) : OR := bif decide (v4 < v3) then bif decide (0 <= v4) && decide (v4 < zi v2.length) && (PV.isSt 42 #[Field.mk "D" 3 0 false "" "" 0, Field.mk "U" 3 1 false "" "" 8].size (v2.getD v4.toNat PV.top) && (PV.isInt IntKind.i64 (PV.child 0 (v2.getD v4.toNat PV.top)) && (PV.isInt IntKind.i64 (PV.child (0 + 1) (v2.getD v4.toNat PV.top)) && true))) && true then bif v5 == (PV.child 0 (v2.getD v4.toNat PV.top)).int && (v6 == (PV.child (0 + 1) (v2.getD v4.toNat PV.top)).int && true) then k0 v4 else rc v0 v1 v2 v3 (IntKind.i64.wrap (v4 + 1)) v5 v6 else none else k1
def ZD (f : Nat) (k0 : Int -> OR) (k1 : OR) : Nat -> Jpx
 | 0 => fun _ _ _ _ _ _ _ => none
 | n + 1 => Vx f (ZD f k0 k1 n) k0 k1
def VY (k : Kont) := fun x0 => k Ex.ret (Jj Jdy Jqt [.sc (.int .i64 x0)] [])
def VZ (k : Kont) := k (Ex.exit 0) (Jj Jdy Jqt [PV.top] [])
def Jiu (f : Nat) (k : Kont) (n : Nat) (v0 v1 : Bool) (v2 : List PV) (v3 v4 v5 v6 : Int) : OR := Jy tau 0 JbP (fun s k => ev tau JEg 0 0 Jit (Jns ) s k) n (Jj JbP Jqt [.ro 42 v0 v1 v2, .ptr 320 [], .sc (.int .i64 v3), .sc (.int .i64 v4)] [(320, .box false 42 (PV.st 42 [.sc (.int .i64 v5), .sc (.int .i64 v6)]))]) (JI tau 0 Jdy k)
theorem Juh (f : Nat) (k : Kont) (n : Nat) : Jiu f k (n + 1) = Vx f (Jiu f k n) (VY k) (VZ k) := by kernel_rfl
theorem Jj5 (f : Nat) (k : Kont) : ∀ n, Jiu f k n = ZD f (VY k) (VZ k) n
 | 0 => rfl
 | n + 1 => (Juh f k n).trans (congrArg (fun r => Vx f r (VY k) (VZ k)) (Jj5 f k n))
def G9 (f : Nat) : List PV -> List (Nat × Ent) -> Kont -> OR
 | [.ro 42 v0 v1 v2, .ptr 320 [], .sc (.int .i64 v3),
 PV.sc
  (Value.int IntKind.i64
   v4)], [(320,
  Ent.box false 42
   (PV.st 42
    [.sc (.int .i64 v5),
     PV.sc
      (Value.int IntKind.i64
       v6)]))], k => ZD f (VY k) (VZ k) f v0 v1 v2 v3 v4 v5 v6
 | _, _, _ => none
theorem Jxs (f : Nat) : Jg Jit Jns = [] := by kernel_rfl
theorem Jxt (f : Nat) : (Item.l Jit JbP Jqt (G9 f)).Ok tau Try.prog 0 := Ju Jn Jpv Jo (x := Jns) (nm2 := Jdy) (Jk _ _ (by rw [Jxs f]; intro q hq; cases hq)) fun vs hp k res hr => by
 unfold G9 at hr
 split at hr
 · rw [← Jj5 f] at hr; exact ⟨f, 0, hr⟩
 · cases hr
def JEh (f : Nat) (s_z s_f : Bool) (s : List PV) (v_D v_U : Int) (k : KR) : OR := ZD f (fun x0_0 => k (Res.mk (.sc (.int .i64 x0_0)) [] [])) (k (Res.mk (.sc (.int .i64 (-1))) [] [])) f s_z s_f s (zi s.length) (0) v_D v_U
theorem JOe (f : Nat) (s_z s_f : Bool) (s : List PV) (v_D v_U : Int) (k : KR) : JK tau JEg Try.f123 (Try.f123.body.get!) (Jpw (G9 f)) [.ro] 0 [.ro 42 s_z s_f s, .st 42 [.sc (.int .i64 v_D), .sc (.int .i64 v_U)]] [] k = JEh f s_z s_f s v_D v_U k := by kernel_rfl
theorem JKk (f : Nat) : Jg (Try.f123.body.get!) (Jpw (G9 f)) = [.l Jit JbP Jqt (G9 f)] := by kernel_rfl
theorem JKl (f : Nat) : ∀ q ∈ Jg (Try.f123.body.get!) (Jpw (G9 f)), q.Ok tau Try.prog 0 := by rw [JKk f]; exact JL (Jxt f) (fun _ h => nomatch h)
theorem JzV : Try.prog.funcs[123]? = some Try.f123 := by kernel_rfl
theorem JzW : Try.f123.body = some (Try.f123.body.get!) := by kernel_rfl
theorem JKm : Enters Try.prog 123 := enters_of JzV (by kernel_rfl) JzW
end
end Go.Proofs.Ythpmachmnoljeaa.Rx
