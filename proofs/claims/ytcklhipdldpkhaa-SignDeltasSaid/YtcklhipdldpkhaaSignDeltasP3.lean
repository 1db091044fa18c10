/- What the functions of this law compute, and their plain laws. Conditions: none. -/
import Derived.Test.YtcklhipdldpkhaaSignDeltasP2
namespace Go.Proofs.Ytcklhipdldpkhaa.Rx
noncomputable section
open Go
set_option linter.unusedVariables false
set_option linter.unusedSimpArgs false
set_option maxRecDepth 100000
set_option maxHeartbeats 0
-- FN op.Check | ref4.Check | law4.Few
def isCp : PV -> Bool
 | .st t [.sc (.int .i64 _), .sc (.int .i64 _), .sc (.string _)] => t == 99
 | _ => false
theorem GK {p : PV} : isCp p = true ↔ ∃ kd n s, p = .st 99 [.sc (.int .i64 kd), .sc (.int .i64 n), .sc (.string s)] := by
 constructor
 · intro h
   unfold isCp at h
   split at h
   · rename_i t kd n s
     obtain rfl : t = 99 := by simpa using h
     exact ⟨kd, n, s, rfl⟩
   · cases h
 · rintro ⟨kd, n, s, rfl⟩; rfl
def cv (p : PV) : CV := ⟨(p.child 0).int, (p.child 1).int, (p.child 2).str⟩
theorem Wv {p : PV} (h : isCp p = true) : (PV.isSt 99 #[Field.mk "Kind" 3 0 false "" "" 0, Field.mk "N" 3 1 false "" "" 8, Field.mk "S" 9 2 false "" "" 16].size p && (PV.isInt IntKind.i64 (PV.child 0 p) && (PV.isInt IntKind.i64 (PV.child (0 + 1) p) && ((PV.child (0 + 1 + 1) p).isStr && true)))) = true := by
 obtain ⟨kd, n, s, rfl⟩ := GK.1 h
 simp [PV.isSt, PV.child, PV.isInt, PV.isStr]
theorem Ww {l : List PV} (h : l.all isCp = true) {i : Nat} (hi : i < l.length) : isCp (l.getD i .top) = true := by
 rw [List.getD_eq_getElem?_getD, List.getElem?_eq_getElem hi]
 exact List.all_eq_true.1 h _ (List.getElem_mem hi)
def ckL : List PV -> Int
 | [] => 0
 | p :: r => bif ckC (cv p) == 0 then ckL r else ckC (cv p)
def Jlw (l : List PV) : Int := bif decide (zi l.length > 40) then 4 else ckL l
def ckO : List PV -> Int := hid Jlw
theorem Jcn (l : List PV) : ckO l = Jlw l := by rw [ckO, hid_eq]
def cOk : List PV -> Bool := hid fun l => l.all isCp && Nat.ble l.length 9223372036854775807
theorem W2 {l : List PV} : cOk l = true ↔ l.all isCp = true /\ l.length <= 9223372036854775807 := by
 rw [cOk, hid_eq, Bool.and_eq_true, Nat.ble_eq]
theorem Q8 {l : List PV} {i : Nat} (h : i < l.length) : l.drop i = l.getD i .top :: l.drop (i + 1) := by
 rw [List.drop_eq_getElem_cons h]; simp [List.getD_eq_getElem?_getD, h]
theorem Jnv (l : List PV) (h1 : l.all isCp = true) (h2 : l.length <= 40) (f : Nat) (k0 : Int -> Option Res) (k1 : Option Res) (z fl : Bool) : ∀ (d i n : Nat), i + d = l.length -> d < n ->
  YC f k0 k1 n z fl l (zi l.length) (i : Int) = bif ckL (l.drop i) == 0 then k1 else k0 (ckL (l.drop i))
 | 0, i, n + 1, hi, hn => by
   rw [List.drop_of_length_le (by omega)]
   simp only [YC, ZI]
   exact Jv (by simp [zi]; omega)
 | d + 1, i, n + 1, hi, hn => by
   have g1 : ((i : Int)).toNat = i := by omega
   have w1 : IntKind.i64.wrap ((i : Int) + 1) = ((i + 1 : Nat) : Int) := by rw [wrap_i64 (by omega) (by omega)]; omega
   have hro : (decide (0 <= (i : Int)) && decide ((i : Int) < zi l.length) && (PV.isSt 99 #[Field.mk "Kind" 3 0 false "" "" 0, Field.mk "N" 3 1 false "" "" 8, Field.mk "S" 9 2 false "" "" 16].size (l.getD i PV.top) && (PV.isInt IntKind.i64 (PV.child 0 (l.getD i PV.top)) && (PV.isInt IntKind.i64 (PV.child (0 + 1) (l.getD i PV.top)) && ((PV.child (0 + 1 + 1) (l.getD i PV.top)).isStr && true)))) && true) = true := by
    have hq : (PV.isSt 99 #[Field.mk "Kind" 3 0 false "" "" 0, Field.mk "N" 3 1 false "" "" 8, Field.mk "S" 9 2 false "" "" 16].size (l.getD i PV.top) && (PV.isInt IntKind.i64 (PV.child 0 (l.getD i PV.top)) && (PV.isInt IntKind.i64 (PV.child (0 + 1) (l.getD i PV.top)) && ((PV.child (0 + 1 + 1) (l.getD i PV.top)).isStr && true)))) = true := Wv (Ww h1 (by omega))
    rw [hq]; simp [zi]; omega
   have hd := Q8 (l := l) (i := i) (by omega)
   have hs : CV.mk (PV.child 0 (l.getD i PV.top)).int (PV.child (0 + 1) (l.getD i PV.top)).int (PV.child (0 + 1 + 1) (l.getD i PV.top)).str = cv (l.getD i .top) := rfl
   simp only [YC, ZI, g1, w1, hs]
   refine (Jb (by simp [zi]; omega)).trans ((Jb hro).trans ?_)
   rw [hd]
   cases hc : (ckC (cv (l.getD i .top)) == 0) with
   | true =>
    refine (Jv (by simp only [bne, hc]; rfl)).trans ?_
    rw [Jnv l h1 h2 f k0 k1 z fl d (i + 1) n (by omega) (by omega)]
    simp only [ckL, hc, cond_true]
   | false =>
    refine (Jb (by simp only [bne, hc]; rfl)).trans ?_
    simp only [ckL, hc, cond_false]
def Je3 : List PV -> List Ent -> (Res -> Option Res) -> Option Res
 | [.ro 99 z f l], [], k => bif cOk l then k ⟨.sc (.int .i64 (ckO l)), [], []⟩ else none
 | _, _, _ => none
def Jnw : Sig := { own := [], run := Je3 }
theorem Jqk (z f : Bool) (l : List PV) (h : cOk l = true) (k : Res -> Option Res) : JvW 50 z f l k = k ⟨.sc (.int .i64 (ckO l)), [], []⟩ := by
 obtain ⟨h1, h2⟩ := W2.1 h
 rw [Jcn]
 unfold JvW Jlw
 cases hc : decide (zi l.length > 40) with
 | true => rfl
 | false =>
  have hl : l.length <= 40 := by simp only [zi, decide_eq_false_iff_not] at hc; omega
  rw [cond_false, cond_false]
  refine (Jnv l h1 hl 50 _ _ z f l.length 0 50 (by omega) (by omega)).trans ?_
  rw [List.drop_zero]
  cases h0 : (ckL l == 0) with
  | true =>
   have : ckL l = 0 := by simpa using h0
   rw [this]; rfl
  | false => rfl
theorem Jnx : Jf tau Try.prog 160 Jnw := Jf.mk' fun xs es k res hl hr => by
 change Je3 xs es k = some res at hr
 unfold Je3 at hr
 split at hr
 · rename_i z f l
   obtain ⟨hc, hr⟩ := JG hr
   exact Qj Jq Jki Jr Jtb Jtc (Jkj (VL 50)) [.ro] 0 0 (JAN 50) hl rfl ((JE2 50 z f l k).trans ((Jqk z f l hc k).trans hr))
 · cases hr
theorem Jny (l : List PV) (h1 : l.all isCp = true) (h2 : l.length <= 40) (f : Nat) (k0 : Int -> Option Res) (k1 : Option Res) (z fl : Bool) : ∀ (d i n : Nat), i + d = l.length -> d < n ->
  YD f k0 k1 n z fl l (i : Int) = bif ckL (l.drop i) == 0 then k1 else k0 (ckL (l.drop i))
 | 0, i, n + 1, hi, hn => by
   rw [List.drop_of_length_le (by omega)]
   simp only [YD, ZJ]
   exact Jv (by simp [zi]; omega)
 | d + 1, i, n + 1, hi, hn => by
   have g1 : ((i : Int)).toNat = i := by omega
   have w1 : IntKind.i64.wrap ((i : Int) + 1) = ((i + 1 : Nat) : Int) := by rw [wrap_i64 (by omega) (by omega)]; omega
   have hro : (decide (0 <= (i : Int)) && decide ((i : Int) < zi l.length) && (PV.isSt 99 #[Field.mk "Kind" 3 0 false "" "" 0, Field.mk "N" 3 1 false "" "" 8, Field.mk "S" 9 2 false "" "" 16].size (l.getD i PV.top) && (PV.isInt IntKind.i64 (PV.child 0 (l.getD i PV.top)) && (PV.isInt IntKind.i64 (PV.child (0 + 1) (l.getD i PV.top)) && ((PV.child (0 + 1 + 1) (l.getD i PV.top)).isStr && true)))) && true) = true := by
    have hq : (PV.isSt 99 #[Field.mk "Kind" 3 0 false "" "" 0, Field.mk "N" 3 1 false "" "" 8, Field.mk "S" 9 2 false "" "" 16].size (l.getD i PV.top) && (PV.isInt IntKind.i64 (PV.child 0 (l.getD i PV.top)) && (PV.isInt IntKind.i64 (PV.child (0 + 1) (l.getD i PV.top)) && ((PV.child (0 + 1 + 1) (l.getD i PV.top)).isStr && true)))) = true := Wv (Ww h1 (by omega))
    rw [hq]; simp [zi]; omega
   have hd := Q8 (l := l) (i := i) (by omega)
   have hs : CV.mk (PV.child 0 (l.getD i PV.top)).int (PV.child (0 + 1) (l.getD i PV.top)).int (PV.child (0 + 1 + 1) (l.getD i PV.top)).str = cv (l.getD i .top) := rfl
   simp only [YD, ZJ, g1, w1, hs]
   refine (Jb (by simp [zi]; omega)).trans ((Jb hro).trans ?_)
   rw [hd]
   cases hc : (ckC (cv (l.getD i .top)) == 0) with
   | true =>
    refine (Jv (by simp only [bne, hc]; rfl)).trans ?_
    rw [Jny l h1 h2 f k0 k1 z fl d (i + 1) n (by omega) (by omega)]
    simp only [ckL, hc, cond_true]
   | false =>
    refine (Jb (by simp only [bne, hc]; rfl)).trans ?_
    simp only [ckL, hc, cond_false]
def Je4 : List PV -> List Ent -> (Res -> Option Res) -> Option Res
 | [.ro 99 z f l], [], k => bif cOk l then k ⟨.sc (.int .i64 (ckO l)), [], []⟩ else none
 | _, _, _ => none
def Jnz : Sig := { own := [], run := Je4 }
theorem Jql (z f : Bool) (l : List PV) (h : cOk l = true) (k : Res -> Option Res) : JvY 50 z f l k = k ⟨.sc (.int .i64 (ckO l)), [], []⟩ := by
 obtain ⟨h1, h2⟩ := W2.1 h
 rw [Jcn]
 unfold JvY Jlw
 cases hc : decide (zi l.length > 40) with
 | true => rfl
 | false =>
  have hl : l.length <= 40 := by simp only [zi, decide_eq_false_iff_not] at hc; omega
  rw [cond_false, cond_false]
  refine (Jny l h1 hl 50 _ _ z f l.length 0 50 (by omega) (by omega)).trans ?_
  rw [List.drop_zero]
  cases h0 : (ckL l == 0) with
  | true =>
   have : ckL l = 0 := by simpa using h0
   rw [this]; rfl
  | false => rfl
theorem JnA : Jf tau Try.prog 117 Jnz := Jf.mk' fun xs es k res hl hr => by
 change Je4 xs es k = some res at hr
 unfold Je4 at hr
 split at hr
 · rename_i z f l
   obtain ⟨hc, hr⟩ := JG hr
   exact Qj Jq Jkk Jr Jte Jtf (Jkl (VM 50)) [.ro] 0 0 (JAP 50) hl rfl ((JE3 50 z f l k).trans ((Jql z f l hc k).trans hr))
 · cases hr
def Jir : List PV -> Bool := hid fun l => l.all (fun p => decide ((cv p).s.size <= 150)) && decide (l.length <= 50)
theorem Jqm (l : List PV) : Jir l = (l.all (fun p => decide ((cv p).s.size <= 150)) && decide (l.length <= 50)) := by rw [Jir, hid_eq]
theorem Jth (l : List PV) (h1 : l.all isCp = true) (h2 : l.length <= 9223372036854775807) (f : Nat) (k0 : Bool -> Bool -> List PV -> Bool -> Option Res) (k1 : Bool -> Bool -> List PV -> Option Res) (z fl : Bool) : ∀ (d i n : Nat), i + d = l.length -> d < n ->
  VN f k0 k1 n z fl l (i : Int) = bif (l.drop i).all (fun p => decide ((cv p).s.size <= 150)) then k1 z fl l else k0 z fl l false
 | 0, i, n + 1, hi, hn => by
   rw [List.drop_of_length_le (by omega)]
   simp only [VN, GJ]
   exact Jv (by simp [zi]; omega)
 | d + 1, i, n + 1, hi, hn => by
   have g1 : ((i : Int)).toNat = i := by omega
   have w1 : IntKind.i64.wrap ((i : Int) + 1) = ((i + 1 : Nat) : Int) := by rw [wrap_i64 (by omega) (by omega)]; omega
   have hro : (decide (0 <= (i : Int)) && decide ((i : Int) < zi l.length) && (PV.isSt 99 #[Field.mk "Kind" 3 0 false "" "" 0, Field.mk "N" 3 1 false "" "" 8, Field.mk "S" 9 2 false "" "" 16].size (l.getD i PV.top) && (PV.isInt IntKind.i64 (PV.child 0 (l.getD i PV.top)) && (PV.isInt IntKind.i64 (PV.child (0 + 1) (l.getD i PV.top)) && ((PV.child (0 + 1 + 1) (l.getD i PV.top)).isStr && true)))) && true) = true := by
     have hq : (PV.isSt 99 #[Field.mk "Kind" 3 0 false "" "" 0, Field.mk "N" 3 1 false "" "" 8, Field.mk "S" 9 2 false "" "" 16].size (l.getD i PV.top) && (PV.isInt IntKind.i64 (PV.child 0 (l.getD i PV.top)) && (PV.isInt IntKind.i64 (PV.child (0 + 1) (l.getD i PV.top)) && ((PV.child (0 + 1 + 1) (l.getD i PV.top)).isStr && true)))) = true := Wv (Ww h1 (by omega))
     rw [hq]; simp [zi]; omega
   have hd := Q8 (l := l) (i := i) (by omega)
   have hs : (PV.child (0 + 1 + 1) (l.getD i PV.top)).str = (cv (l.getD i .top)).s := rfl
   simp only [VN, GJ, g1, w1, hs]
   refine (Jb (by simp [zi]; omega)).trans ((Jb hro).trans ?_)
   rw [hd, List.all_cons]
   by_cases hc : (cv (l.getD i .top)).s.size <= 150
   · refine (Jv (by simp only [zi, decide_eq_false_iff_not]; omega)).trans ?_
     rw [decide_eq_true hc, Bool.true_and]
     exact Jth l h1 h2 f k0 k1 z fl d (i + 1) n (by omega) (by omega)
   · refine (Jb (by simp only [zi, decide_eq_true_eq]; omega)).trans ?_
     rw [decide_eq_false hc]; rfl
def Jis : List PV -> List Ent -> (Res -> Option Res) -> Option Res
 | [.ro 99 z f l], [], k => bif cOk l then k ⟨.sc (.bool (Jir l)), [], []⟩ else none
 | _, _, _ => none
def JAT : Sig := { own := [], run := Jis }
theorem Jv0 (z f : Bool) (l : List PV) (h : cOk l = true) (k : Res -> Option Res) : g99 (l.length + 2) z f l k = k ⟨.sc (.bool (Jir l)), [], []⟩ := by
 obtain ⟨h1, h2⟩ := W2.1 h
 unfold g99
 refine (Jth l h1 h2 (l.length + 2) _ _ z f l.length 0 (l.length + 2) (by omega) (by omega)).trans ?_
 rw [List.drop_zero, Jqm]
 have e : decide (zi l.length <= 50) = decide (l.length <= 50) := by apply decide_eq_decide.2; simp only [zi]; omega
 rw [e]
 cases l.all (fun p => decide ((cv p).s.size <= 150)) <;> rfl
theorem JAU : Jf tau Try.prog 99 JAT := Jf.mk' fun xs es k res hl hr => by
 change Jis xs es k = some res at hr
 unfold Jis at hr
 split at hr
 · rename_i z f l
   obtain ⟨hc, hr⟩ := JG hr
   exact Qj Jq Jnu Jr JAR JAS (Jqi (Jcm (l.length + 2))) [.ro] 0 0 (JE5 (l.length + 2)) hl rfl ((e99 (l.length + 2) z f l k).trans ((Jv0 z f l hc k).trans hr))
 · cases hr
-- FN delta.OpBytes | ref8.OpBytes
def ZK (c : CV) : List Int := [IntKind.u8.wrap c.kd] ++ (Qb c.n ++ Qp c.s)
def Qi (l : List PV) : List Int := l.flatMap fun p => ZK (cv p)
def Jlx (l : List PV) : List Int := [IntKind.u8.wrap (zi l.length)] ++ Qi l
def opB : List PV -> List Int := hid Jlx
theorem Jat (l : List PV) : opB l = Jlx l := by rw [opB, hid_eq]
theorem W3 (c : CV) : (ZK c).length = c.s.size + 11 := by simp [ZK]; omega
theorem JnB (c : CV) : ∀ x ∈ ZK c, 0 <= x /\ x < 256 := by
 intro x hx
 simp only [ZK, List.mem_append, List.mem_singleton] at hx
 rcases hx with rfl | h | h
 · exact Yw _
 · exact Yx _ x h
 · exact Jgw _ x h
theorem Jv1 (l : List PV) : ∀ x ∈ opB l, 0 <= x /\ x < 256 := by
 intro x hx
 rw [Jat] at hx
 rcases List.mem_append.1 hx with h | h
 · rw [List.mem_singleton.1 h]; exact Yw _
 · obtain ⟨p, _, h⟩ := List.mem_flatMap.1 h
   exact JnB _ x h
def cBy : List PV -> Bool := hid fun l => l.all isCp && (l.all (fun p => decide ((cv p).s.size <= 65535)) && decide (l.length <= 1000))
theorem Vc {l : List PV} : cBy l = true ↔ l.all isCp = true /\ (∀ p ∈ l, (cv p).s.size <= 65535) /\ l.length <= 1000 := by
 rw [cBy, hid_eq]; simp only [Bool.and_eq_true, List.all_eq_true, decide_eq_true_eq]
theorem Jco (m : Nat) : ∀ l : List PV, (∀ p ∈ l, (cv p).s.size <= m) -> (Qi l).length <= l.length * (m + 11)
 | [], _ => by simp [Qi]
 | p :: l, h => by
  have h1 := h p List.mem_cons_self
  have h2 := Jco m l fun x hx => h x (List.mem_cons_of_mem _ hx)
  simp only [Qi, List.flatMap_cons, List.length_append, W3, List.length_cons, Nat.add_mul] at h2 ⊢
  omega
theorem Je5 (L : List PV) (p : PV) : apT (apI (apY L (PV.child 0 p).int) (PV.child (0 + 1) p).int) (PV.child (0 + 1 + 1) p).str = L ++ pu .u8 (ZK (cv p)) := by
 rw [XP, ZE, VI]
 show _ = L ++ pu .u8 ([IntKind.u8.wrap (PV.child 0 p).int] ++ (Qb (PV.child (0 + 1) p).int ++ Qp (PV.child (0 + 1 + 1) p).str))
 simp only [JU, List.append_assoc]
theorem Wz (L : List PV) (n : Int) : (apY L n).length = L.length + 1 := by rw [VI]; simp
theorem Vd (L : List PV) (n : Int) : (apI L n).length = L.length + 8 := by rw [ZE]; simp
theorem XQ {l : List PV} (h : l.length <= 1000000000) : okL l.length l = true := by
 rw [JeV, Bool.and_eq_true, Nat.beq_eq, Nat.ble_eq]; exact ⟨rfl, h⟩
theorem Q3 {l : List PV} (h : l.length <= 1000000000) : okZ false l = true := by rw [ZF]; exact Wd.2 ⟨fun h => (by cases h), h⟩
theorem JnC (l : List PV) (h1 : l.all isCp = true) (h3 : ∀ p ∈ l, (cv p).s.size <= 65535) (h2 : l.length <= 1000) (f : Nat) (k0 : Nat -> List PV -> Option Res) (z fl : Bool) : ∀ (d i n : Nat) (L : List PV), i + d = l.length -> d < n -> L.length <= 1 + i * 65546 ->
  YA f k0 n z fl l L.length (i : Int) L = k0 (L ++ pu .u8 (Qi (l.drop i))).length (L ++ pu .u8 (Qi (l.drop i)))
 | 0, i, n + 1, L, hi, hn, hL => by
   rw [List.drop_of_length_le (by omega)]
   simp only [YA, ZG, Qi, List.flatMap_nil, JhK, List.append_nil]
   exact Jv (by simp [zi]; omega)
 | d + 1, i, n + 1, L, hi, hn, hL => by
   have g1 : ((i : Int)).toNat = i := by omega
   have w1 : IntKind.i64.wrap ((i : Int) + 1) = ((i + 1 : Nat) : Int) := by rw [wrap_i64 (by omega) (by omega)]; omega
   have hro : (decide (0 <= (i : Int)) && decide ((i : Int) < zi l.length) && (PV.isSt 99 #[Field.mk "Kind" 3 0 false "" "" 0, Field.mk "N" 3 1 false "" "" 8, Field.mk "S" 9 2 false "" "" 16].size (l.getD i PV.top) && (PV.isInt IntKind.i64 (PV.child 0 (l.getD i PV.top)) && (PV.isInt IntKind.i64 (PV.child (0 + 1) (l.getD i PV.top)) && ((PV.child (0 + 1 + 1) (l.getD i PV.top)).isStr && true)))) && true) = true := by
    have hq : (PV.isSt 99 #[Field.mk "Kind" 3 0 false "" "" 0, Field.mk "N" 3 1 false "" "" 8, Field.mk "S" 9 2 false "" "" 16].size (l.getD i PV.top) && (PV.isInt IntKind.i64 (PV.child 0 (l.getD i PV.top)) && (PV.isInt IntKind.i64 (PV.child (0 + 1) (l.getD i PV.top)) && ((PV.child (0 + 1 + 1) (l.getD i PV.top)).isStr && true)))) = true := Wv (Ww h1 (by omega))
    rw [hq]; simp [zi]; omega
   have hd := Q8 (l := l) (i := i) (by omega)
   have hmem : l.getD i .top ∈ l := by rw [List.getD_eq_getElem?_getD, List.getElem?_eq_getElem (by omega)]; exact List.getElem_mem (by omega)
   have hsz := h3 _ hmem
   have hs2 : (PV.child (0 + 1 + 1) (l.getD i PV.top)).str.size.ble 65535 = true := Nat.ble_eq.symm ▸ hsz
   have hi2 : i * 65546 <= 999 * 65546 := Nat.mul_le_mul_right _ (by omega)
   simp only [YA, ZG, g1, w1, List.take_length]
   refine (Jb (by simp [zi]; omega)).trans ((Jb hro).trans ((Jb (Q3 (by omega))).trans ((Jb hro).trans ((Jb (Q3 (by rw [Wz]; omega))).trans ((Jb hro).trans ((Jb (by rw [Q3 (by rw [Vd, Wz]; omega), hs2]; rfl)).trans ?_))))))
   rw [Je5]
   refine (JnC l h1 h3 h2 f k0 z fl d (i + 1) n _ (by omega) (by omega) (by rw [List.length_append, JJ, W3]; omega)).trans ?_
   rw [hd]
   simp only [Qi, List.flatMap_cons, JU, List.append_assoc]
theorem JnD (l : List PV) (h1 : l.all isCp = true) (h3 : ∀ p ∈ l, (cv p).s.size <= 65535) (h2 : l.length <= 1000) (f : Nat) (k0 : Nat -> List PV -> Option Res) (z fl : Bool) : ∀ (d i n : Nat) (L : List PV), i + d = l.length -> d < n -> L.length <= 1 + i * 65546 ->
  YB f k0 n z fl l L.length (i : Int) L = k0 (L ++ pu .u8 (Qi (l.drop i))).length (L ++ pu .u8 (Qi (l.drop i)))
 | 0, i, n + 1, L, hi, hn, hL => by
   rw [List.drop_of_length_le (by omega)]
   simp only [YB, ZH, Qi, List.flatMap_nil, JhK, List.append_nil]
   exact Jv (by simp [zi]; omega)
 | d + 1, i, n + 1, L, hi, hn, hL => by
   have g1 : ((i : Int)).toNat = i := by omega
   have w1 : IntKind.i64.wrap ((i : Int) + 1) = ((i + 1 : Nat) : Int) := by rw [wrap_i64 (by omega) (by omega)]; omega
   have hro : (decide (0 <= (i : Int)) && decide ((i : Int) < zi l.length) && (PV.isSt 99 #[Field.mk "Kind" 3 0 false "" "" 0, Field.mk "N" 3 1 false "" "" 8, Field.mk "S" 9 2 false "" "" 16].size (l.getD i PV.top) && (PV.isInt IntKind.i64 (PV.child 0 (l.getD i PV.top)) && (PV.isInt IntKind.i64 (PV.child (0 + 1) (l.getD i PV.top)) && ((PV.child (0 + 1 + 1) (l.getD i PV.top)).isStr && true)))) && true) = true := by
    have hq : (PV.isSt 99 #[Field.mk "Kind" 3 0 false "" "" 0, Field.mk "N" 3 1 false "" "" 8, Field.mk "S" 9 2 false "" "" 16].size (l.getD i PV.top) && (PV.isInt IntKind.i64 (PV.child 0 (l.getD i PV.top)) && (PV.isInt IntKind.i64 (PV.child (0 + 1) (l.getD i PV.top)) && ((PV.child (0 + 1 + 1) (l.getD i PV.top)).isStr && true)))) = true := Wv (Ww h1 (by omega))
    rw [hq]; simp [zi]; omega
   have hd := Q8 (l := l) (i := i) (by omega)
   have hmem : l.getD i .top ∈ l := by rw [List.getD_eq_getElem?_getD, List.getElem?_eq_getElem (by omega)]; exact List.getElem_mem (by omega)
   have hsz := h3 _ hmem
   have hs2 : (PV.child (0 + 1 + 1) (l.getD i PV.top)).str.size.ble 65535 = true := Nat.ble_eq.symm ▸ hsz
   have hi2 : i * 65546 <= 999 * 65546 := Nat.mul_le_mul_right _ (by omega)
   simp only [YB, ZH, g1, w1, List.take_length]
   refine (Jb (by simp [zi]; omega)).trans ((Jb hro).trans ((Jb (XQ (by omega))).trans ((Jb hro).trans ((Jb (XQ (by rw [Wz]; omega))).trans ((Jb hro).trans ((Jb (by rw [XQ (by rw [Vd, Wz]; omega), hs2]; rfl)).trans ?_))))))
   rw [Je5]
   refine (JnD l h1 h3 h2 f k0 z fl d (i + 1) n _ (by omega) (by omega) (by rw [List.length_append, JJ, W3]; omega)).trans ?_
   rw [hd]
   simp only [Qi, List.flatMap_cons, JU, List.append_assoc]
theorem JgF {l : List PV} : apY [] (zi l.length) = pu .u8 [IntKind.u8.wrap (zi l.length)] := by rw [VI]; rfl
def Je6 : List PV -> List Ent -> (Res -> Option Res) -> Option Res
 | [.ro 99 z f l], [], k => bif cBy l then k ⟨.ro 5 false false (pu .u8 (opB l)), [], []⟩ else none
 | _, _, _ => none
def JnE : Sig := { own := [], run := Je6 }
theorem Jqn (z f : Bool) (l : List PV) (h : cBy l = true) (k : Res -> Option Res) : JvQ 1010 z f l k = k ⟨.ro 5 false false (pu .u8 (opB l)), [], []⟩ := by
 obtain ⟨h1, h3, h2⟩ := Vc.1 h
 have hY := JgF (l := l)
 rw [Jat]
 unfold JvQ
 simp only [List.take_length]
 refine (Jb (by rw [ZF]; rfl)).trans ?_
 cases l with
 | nil => exact (Jv (by simp [zi])).trans (by rw [hY]; rfl)
 | cons p r =>
  have hq : (PV.isSt 99 #[Field.mk "Kind" 3 0 false "" "" 0, Field.mk "N" 3 1 false "" "" 8, Field.mk "S" 9 2 false "" "" 16].size ((p :: r).getD 0 PV.top) && (PV.isInt IntKind.i64 (PV.child 0 ((p :: r).getD 0 PV.top)) && (PV.isInt IntKind.i64 (PV.child (0 + 1) ((p :: r).getD 0 PV.top)) && ((PV.child (0 + 1 + 1) ((p :: r).getD 0 PV.top)).isStr && true)))) = true := by
   have := Wv (Ww h1 (i := 0) (by simp))
   exact this
  have hro : (decide (0 < zi (p :: r).length) && (PV.isSt 99 #[Field.mk "Kind" 3 0 false "" "" 0, Field.mk "N" 3 1 false "" "" 8, Field.mk "S" 9 2 false "" "" 16].size ((p :: r).getD 0 PV.top) && (PV.isInt IntKind.i64 (PV.child 0 ((p :: r).getD 0 PV.top)) && (PV.isInt IntKind.i64 (PV.child (0 + 1) ((p :: r).getD 0 PV.top)) && ((PV.child (0 + 1 + 1) ((p :: r).getD 0 PV.top)).isStr && true)))) && true) = true := by
   rw [hq]; simp [zi]
  have hsz := h3 p List.mem_cons_self
  have hs2 : (PV.child (0 + 1 + 1) ((p :: r).getD 0 PV.top)).str.size.ble 65535 = true := Nat.ble_eq.symm ▸ hsz
  have l1 : (apY [] (zi (p :: r).length)).length = 1 := by rw [Wz]; rfl
  refine (Jb (by simp [zi])).trans ((Jb hro).trans ((Jb (Q3 (by rw [l1]; decide))).trans ((Jb hro).trans ((Jb (Q3 (by rw [Wz, l1]; decide))).trans ((Jb hro).trans ((Jb (by rw [Q3 (by rw [Vd, Wz, l1]; decide), hs2]; rfl)).trans ?_))))))
  rw [Je5]
  have w1 : IntKind.i64.wrap (0 + 1) = ((1 : Nat) : Int) := by decide
  rw [w1]
  refine (JnC (p :: r) h1 h3 h2 1010 _ z f r.length 1 1010 _ (by simp; omega) (by simp at h2; omega) (by rw [List.length_append, JJ, W3, l1]; have : (cv ((p :: r).getD 0 PV.top)).s.size <= 65535 := hsz; omega)).trans ?_
  rw [List.take_length, hY]
  simp only [Jlx, Qi, List.flatMap_cons, JU, List.append_assoc, List.drop_succ_cons, List.drop_zero, List.getD_cons_zero]
theorem JnF : Jf tau Try.prog 114 JnE := Jf.mk' fun xs es k res hl hr => by
 change Je6 xs es k = some res at hr
 unfold Je6 at hr
 split at hr
 · rename_i z f l
   obtain ⟨hc, hr⟩ := JG hr
   exact Qj Jq Jkc Jr Js0 Js1 (Jkd (VJ 1010)) [.ro] 0 0 (JAy 1010) hl rfl ((JEW 1010 z f l k).trans ((Jqn z f l hc k).trans hr))
 · cases hr
def Je7 : List PV -> List Ent -> (Res -> Option Res) -> Option Res
 | [.ro 99 z f l], [], k => bif cBy l then k ⟨.ow 5 16 [] 0 (opB l).length none, [], [.vec false 5 false (pu .u8 (opB l))]⟩ else none
 | _, _, _ => none
def Jti : Sig := { own := [], run := Je7 }
theorem Jqo (z f : Bool) (l : List PV) (h : cBy l = true) (k : Res -> Option Res) : JvS 1010 z f l k = k ⟨.ow 5 16 [] 0 (opB l).length none, [], [.vec false 5 false (pu .u8 (opB l))]⟩ := by
 obtain ⟨h1, h3, h2⟩ := Vc.1 h
 have hY := JgF (l := l)
 rw [Jat]
 unfold JvS
 refine (JnD l h1 h3 h2 1010 _ z f l.length 0 1010 _ (by omega) (by omega) (by rw [Wz]; simp)).trans ?_
 rw [List.drop_zero, hY, ← JU]
 rw [show [IntKind.u8.wrap (zi l.length)] ++ Qi l = Jlx l from rfl, JJ]
theorem Jv2 : Jf tau Try.prog 111 Jti := Jf.mk' fun xs es k res hl hr => by
 change Je7 xs es k = some res at hr
 unfold Je7 at hr
 split at hr
 · rename_i z f l
   obtain ⟨hc, hr⟩ := JG hr
   exact Qj Jq Jke Jr Js3 Js4 (Jkf (VK 1010)) [] 0 0 (JAA 1010) hl rfl ((JEX 1010 z f l k).trans ((Jqo z f l hc k).trans hr))
 · cases hr
def JAV : Fns := JC 114 JnE (JC 98 Jp4 (JC 97 JvL (JC 96 JvI (F0))))
theorem Jqp : Ju tau Try.prog JAV := ((((JB).add JsS JzN).add JsX Jvo).add Jnf Jvj).add JnF Js2
def Jqq : Nm := [(1, .any), (3, .any), (16, .any), (17, .any), (18, .any)]
def Jv3 : An := (.seq .leaf (.seq (.cond .leaf .leaf) (.seq (.block none (.seq .leaf .leaf)) .leaf)))
def Jkn : An := (.seq .leaf (.seq .leaf (.seq (.seq .leaf (.block none (.loop Jqq Jv3))) (.seq .leaf (.seq .leaf .leaf)))))
def Jv4 (f : Nat) (y0 y1 d_Id y2 : Int) (y3 : List PV) (y4 : Int) (y5 y6 : Bool) (d_Op : List PV) (y7 y8 : Int) (k : Res -> Option Res) : Option Res := bif okZ true [] then bif okZ false (List.take (apI [] y0).length (apI [] y0)) then bif okZ false (List.take (apI (List.take (apI [] y0).length (apI [] y0)) y1).length (apI (List.take (apI [] y0).length (apI [] y0)) y1)) then bif okZ false (List.take (apI (List.take (apI (List.take (apI [] y0).length (apI [] y0)) y1).length (apI (List.take (apI [] y0).length (apI [] y0)) y1)) d_Id).length (apI (List.take (apI (List.take (apI [] y0).length (apI [] y0)) y1).length (apI (List.take (apI [] y0).length (apI [] y0)) y1)) d_Id)) then bif Jl ((apI (List.take (apI (List.take (apI (List.take (apI [] y0).length (apI [] y0)) y1).length (apI (List.take (apI [] y0).length (apI [] y0)) y1)) d_Id).length (apI (List.take (apI (List.take (apI [] y0).length (apI [] y0)) y1).length (apI (List.take (apI [] y0).length (apI [] y0)) y1)) d_Id)) y2).length + (List.take 32 y3).length) 1 && true then bif okZ false (List.take ((apI (List.take (apI (List.take (apI (List.take (apI [] y0).length (apI [] y0)) y1).length (apI (List.take (apI [] y0).length (apI [] y0)) y1)) d_Id).length (apI (List.take (apI (List.take (apI [] y0).length (apI [] y0)) y1).length (apI (List.take (apI [] y0).length (apI [] y0)) y1)) d_Id)) y2).length + (List.take 32 y3).length) (List.take (apI (List.take (apI (List.take (apI (List.take (apI [] y0).length (apI [] y0)) y1).length (apI (List.take (apI [] y0).length (apI [] y0)) y1)) d_Id).length (apI (List.take (apI (List.take (apI [] y0).length (apI [] y0)) y1).length (apI (List.take (apI [] y0).length (apI [] y0)) y1)) d_Id)) y2).length (apI (List.take (apI (List.take (apI (List.take (apI [] y0).length (apI [] y0)) y1).length (apI (List.take (apI [] y0).length (apI [] y0)) y1)) d_Id).length (apI (List.take (apI (List.take (apI [] y0).length (apI [] y0)) y1).length (apI (List.take (apI [] y0).length (apI [] y0)) y1)) d_Id)) y2) ++ List.take 32 y3)) then bif cBy d_Op then bif Jh IntKind.u8 (pu IntKind.u8 (opB d_Op)) && true then bif okZ false (List.take (apY (List.take ((apI (List.take (apI (List.take (apI (List.take (apI [] y0).length (apI [] y0)) y1).length (apI (List.take (apI [] y0).length (apI [] y0)) y1)) d_Id).length (apI (List.take (apI (List.take (apI [] y0).length (apI [] y0)) y1).length (apI (List.take (apI [] y0).length (apI [] y0)) y1)) d_Id)) y2).length + (List.take 32 y3).length) (List.take (apI (List.take (apI (List.take (apI (List.take (apI [] y0).length (apI [] y0)) y1).length (apI (List.take (apI [] y0).length (apI [] y0)) y1)) d_Id).length (apI (List.take (apI (List.take (apI [] y0).length (apI [] y0)) y1).length (apI (List.take (apI [] y0).length (apI [] y0)) y1)) d_Id)) y2).length (apI (List.take (apI (List.take (apI (List.take (apI [] y0).length (apI [] y0)) y1).length (apI (List.take (apI [] y0).length (apI [] y0)) y1)) d_Id).length (apI (List.take (apI (List.take (apI [] y0).length (apI [] y0)) y1).length (apI (List.take (apI [] y0).length (apI [] y0)) y1)) d_Id)) y2) ++ List.take 32 y3)) y4).length (apY (List.take ((apI (List.take (apI (List.take (apI (List.take (apI [] y0).length (apI [] y0)) y1).length (apI (List.take (apI [] y0).length (apI [] y0)) y1)) d_Id).length (apI (List.take (apI (List.take (apI [] y0).length (apI [] y0)) y1).length (apI (List.take (apI [] y0).length (apI [] y0)) y1)) d_Id)) y2).length + (List.take 32 y3).length) (List.take (apI (List.take (apI (List.take (apI (List.take (apI [] y0).length (apI [] y0)) y1).length (apI (List.take (apI [] y0).length (apI [] y0)) y1)) d_Id).length (apI (List.take (apI (List.take (apI [] y0).length (apI [] y0)) y1).length (apI (List.take (apI [] y0).length (apI [] y0)) y1)) d_Id)) y2).length (apI (List.take (apI (List.take (apI (List.take (apI [] y0).length (apI [] y0)) y1).length (apI (List.take (apI [] y0).length (apI [] y0)) y1)) d_Id).length (apI (List.take (apI (List.take (apI [] y0).length (apI [] y0)) y1).length (apI (List.take (apI [] y0).length (apI [] y0)) y1)) d_Id)) y2) ++ List.take 32 y3)) y4)) && (ByteArray.mk (Array.mk (Jp (false, pu IntKind.u8 (opB d_Op)).snd))).size.ble 65535 then bif okZ false (List.take (apT (List.take (apY (List.take ((apI (List.take (apI (List.take (apI (List.take (apI [] y0).length (apI [] y0)) y1).length (apI (List.take (apI [] y0).length (apI [] y0)) y1)) d_Id).length (apI (List.take (apI (List.take (apI [] y0).length (apI [] y0)) y1).length (apI (List.take (apI [] y0).length (apI [] y0)) y1)) d_Id)) y2).length + (List.take 32 y3).length) (List.take (apI (List.take (apI (List.take (apI (List.take (apI [] y0).length (apI [] y0)) y1).length (apI (List.take (apI [] y0).length (apI [] y0)) y1)) d_Id).length (apI (List.take (apI (List.take (apI [] y0).length (apI [] y0)) y1).length (apI (List.take (apI [] y0).length (apI [] y0)) y1)) d_Id)) y2).length (apI (List.take (apI (List.take (apI (List.take (apI [] y0).length (apI [] y0)) y1).length (apI (List.take (apI [] y0).length (apI [] y0)) y1)) d_Id).length (apI (List.take (apI (List.take (apI [] y0).length (apI [] y0)) y1).length (apI (List.take (apI [] y0).length (apI [] y0)) y1)) d_Id)) y2) ++ List.take 32 y3)) y4).length (apY (List.take ((apI (List.take (apI (List.take (apI (List.take (apI [] y0).length (apI [] y0)) y1).length (apI (List.take (apI [] y0).length (apI [] y0)) y1)) d_Id).length (apI (List.take (apI (List.take (apI [] y0).length (apI [] y0)) y1).length (apI (List.take (apI [] y0).length (apI [] y0)) y1)) d_Id)) y2).length + (List.take 32 y3).length) (List.take (apI (List.take (apI (List.take (apI (List.take (apI [] y0).length (apI [] y0)) y1).length (apI (List.take (apI [] y0).length (apI [] y0)) y1)) d_Id).length (apI (List.take (apI (List.take (apI [] y0).length (apI [] y0)) y1).length (apI (List.take (apI [] y0).length (apI [] y0)) y1)) d_Id)) y2).length (apI (List.take (apI (List.take (apI (List.take (apI [] y0).length (apI [] y0)) y1).length (apI (List.take (apI [] y0).length (apI [] y0)) y1)) d_Id).length (apI (List.take (apI (List.take (apI [] y0).length (apI [] y0)) y1).length (apI (List.take (apI [] y0).length (apI [] y0)) y1)) d_Id)) y2) ++ List.take 32 y3)) y4)) (ByteArray.mk (Array.mk (Jp (false, pu IntKind.u8 (opB d_Op)).snd)))).length (apT (List.take (apY (List.take ((apI (List.take (apI (List.take (apI (List.take (apI [] y0).length (apI [] y0)) y1).length (apI (List.take (apI [] y0).length (apI [] y0)) y1)) d_Id).length (apI (List.take (apI (List.take (apI [] y0).length (apI [] y0)) y1).length (apI (List.take (apI [] y0).length (apI [] y0)) y1)) d_Id)) y2).length + (List.take 32 y3).length) (List.take (apI (List.take (apI (List.take (apI (List.take (apI [] y0).length (apI [] y0)) y1).length (apI (List.take (apI [] y0).length (apI [] y0)) y1)) d_Id).length (apI (List.take (apI (List.take (apI [] y0).length (apI [] y0)) y1).length (apI (List.take (apI [] y0).length (apI [] y0)) y1)) d_Id)) y2).length (apI (List.take (apI (List.take (apI (List.take (apI [] y0).length (apI [] y0)) y1).length (apI (List.take (apI [] y0).length (apI [] y0)) y1)) d_Id).length (apI (List.take (apI (List.take (apI [] y0).length (apI [] y0)) y1).length (apI (List.take (apI [] y0).length (apI [] y0)) y1)) d_Id)) y2) ++ List.take 32 y3)) y4).length (apY (List.take ((apI (List.take (apI (List.take (apI (List.take (apI [] y0).length (apI [] y0)) y1).length (apI (List.take (apI [] y0).length (apI [] y0)) y1)) d_Id).length (apI (List.take (apI (List.take (apI [] y0).length (apI [] y0)) y1).length (apI (List.take (apI [] y0).length (apI [] y0)) y1)) d_Id)) y2).length + (List.take 32 y3).length) (List.take (apI (List.take (apI (List.take (apI (List.take (apI [] y0).length (apI [] y0)) y1).length (apI (List.take (apI [] y0).length (apI [] y0)) y1)) d_Id).length (apI (List.take (apI (List.take (apI [] y0).length (apI [] y0)) y1).length (apI (List.take (apI [] y0).length (apI [] y0)) y1)) d_Id)) y2).length (apI (List.take (apI (List.take (apI (List.take (apI [] y0).length (apI [] y0)) y1).length (apI (List.take (apI [] y0).length (apI [] y0)) y1)) d_Id).length (apI (List.take (apI (List.take (apI [] y0).length (apI [] y0)) y1).length (apI (List.take (apI [] y0).length (apI [] y0)) y1)) d_Id)) y2) ++ List.take 32 y3)) y4)) (ByteArray.mk (Array.mk (Jp (false, pu IntKind.u8 (opB d_Op)).snd))))) then bif okZ false (List.take (apI (List.take (apT (List.take (apY (List.take ((apI (List.take (apI (List.take (apI (List.take (apI [] y0).length (apI [] y0)) y1).length (apI (List.take (apI [] y0).length (apI [] y0)) y1)) d_Id).length (apI (List.take (apI (List.take (apI [] y0).length (apI [] y0)) y1).length (apI (List.take (apI [] y0).length (apI [] y0)) y1)) d_Id)) y2).length + (List.take 32 y3).length) (List.take (apI (List.take (apI (List.take (apI (List.take (apI [] y0).length (apI [] y0)) y1).length (apI (List.take (apI [] y0).length (apI [] y0)) y1)) d_Id).length (apI (List.take (apI (List.take (apI [] y0).length (apI [] y0)) y1).length (apI (List.take (apI [] y0).length (apI [] y0)) y1)) d_Id)) y2).length (apI (List.take (apI (List.take (apI (List.take (apI [] y0).length (apI [] y0)) y1).length (apI (List.take (apI [] y0).length (apI [] y0)) y1)) d_Id).length (apI (List.take (apI (List.take (apI [] y0).length (apI [] y0)) y1).length (apI (List.take (apI [] y0).length (apI [] y0)) y1)) d_Id)) y2) ++ List.take 32 y3)) y4).length (apY (List.take ((apI (List.take (apI (List.take (apI (List.take (apI [] y0).length (apI [] y0)) y1).length (apI (List.take (apI [] y0).length (apI [] y0)) y1)) d_Id).length (apI (List.take (apI (List.take (apI [] y0).length (apI [] y0)) y1).length (apI (List.take (apI [] y0).length (apI [] y0)) y1)) d_Id)) y2).length + (List.take 32 y3).length) (List.take (apI (List.take (apI (List.take (apI (List.take (apI [] y0).length (apI [] y0)) y1).length (apI (List.take (apI [] y0).length (apI [] y0)) y1)) d_Id).length (apI (List.take (apI (List.take (apI [] y0).length (apI [] y0)) y1).length (apI (List.take (apI [] y0).length (apI [] y0)) y1)) d_Id)) y2).length (apI (List.take (apI (List.take (apI (List.take (apI [] y0).length (apI [] y0)) y1).length (apI (List.take (apI [] y0).length (apI [] y0)) y1)) d_Id).length (apI (List.take (apI (List.take (apI [] y0).length (apI [] y0)) y1).length (apI (List.take (apI [] y0).length (apI [] y0)) y1)) d_Id)) y2) ++ List.take 32 y3)) y4)) (ByteArray.mk (Array.mk (Jp (false, pu IntKind.u8 (opB d_Op)).snd)))).length (apT (List.take (apY (List.take ((apI (List.take (apI (List.take (apI (List.take (apI [] y0).length (apI [] y0)) y1).length (apI (List.take (apI [] y0).length (apI [] y0)) y1)) d_Id).length (apI (List.take (apI (List.take (apI [] y0).length (apI [] y0)) y1).length (apI (List.take (apI [] y0).length (apI [] y0)) y1)) d_Id)) y2).length + (List.take 32 y3).length) (List.take (apI (List.take (apI (List.take (apI (List.take (apI [] y0).length (apI [] y0)) y1).length (apI (List.take (apI [] y0).length (apI [] y0)) y1)) d_Id).length (apI (List.take (apI (List.take (apI [] y0).length (apI [] y0)) y1).length (apI (List.take (apI [] y0).length (apI [] y0)) y1)) d_Id)) y2).length (apI (List.take (apI (List.take (apI (List.take (apI [] y0).length (apI [] y0)) y1).length (apI (List.take (apI [] y0).length (apI [] y0)) y1)) d_Id).length (apI (List.take (apI (List.take (apI [] y0).length (apI [] y0)) y1).length (apI (List.take (apI [] y0).length (apI [] y0)) y1)) d_Id)) y2) ++ List.take 32 y3)) y4).length (apY (List.take ((apI (List.take (apI (List.take (apI (List.take (apI [] y0).length (apI [] y0)) y1).length (apI (List.take (apI [] y0).length (apI [] y0)) y1)) d_Id).length (apI (List.take (apI (List.take (apI [] y0).length (apI [] y0)) y1).length (apI (List.take (apI [] y0).length (apI [] y0)) y1)) d_Id)) y2).length + (List.take 32 y3).length) (List.take (apI (List.take (apI (List.take (apI (List.take (apI [] y0).length (apI [] y0)) y1).length (apI (List.take (apI [] y0).length (apI [] y0)) y1)) d_Id).length (apI (List.take (apI (List.take (apI [] y0).length (apI [] y0)) y1).length (apI (List.take (apI [] y0).length (apI [] y0)) y1)) d_Id)) y2).length (apI (List.take (apI (List.take (apI (List.take (apI [] y0).length (apI [] y0)) y1).length (apI (List.take (apI [] y0).length (apI [] y0)) y1)) d_Id).length (apI (List.take (apI (List.take (apI [] y0).length (apI [] y0)) y1).length (apI (List.take (apI [] y0).length (apI [] y0)) y1)) d_Id)) y2) ++ List.take 32 y3)) y4)) (ByteArray.mk (Array.mk (Jp (false, pu IntKind.u8 (opB d_Op)).snd))))) y7).length (apI (List.take (apT (List.take (apY (List.take ((apI (List.take (apI (List.take (apI (List.take (apI [] y0).length (apI [] y0)) y1).length (apI (List.take (apI [] y0).length (apI [] y0)) y1)) d_Id).length (apI (List.take (apI (List.take (apI [] y0).length (apI [] y0)) y1).length (apI (List.take (apI [] y0).length (apI [] y0)) y1)) d_Id)) y2).length + (List.take 32 y3).length) (List.take (apI (List.take (apI (List.take (apI (List.take (apI [] y0).length (apI [] y0)) y1).length (apI (List.take (apI [] y0).length (apI [] y0)) y1)) d_Id).length (apI (List.take (apI (List.take (apI [] y0).length (apI [] y0)) y1).length (apI (List.take (apI [] y0).length (apI [] y0)) y1)) d_Id)) y2).length (apI (List.take (apI (List.take (apI (List.take (apI [] y0).length (apI [] y0)) y1).length (apI (List.take (apI [] y0).length (apI [] y0)) y1)) d_Id).length (apI (List.take (apI (List.take (apI [] y0).length (apI [] y0)) y1).length (apI (List.take (apI [] y0).length (apI [] y0)) y1)) d_Id)) y2) ++ List.take 32 y3)) y4).length (apY (List.take ((apI (List.take (apI (List.take (apI (List.take (apI [] y0).length (apI [] y0)) y1).length (apI (List.take (apI [] y0).length (apI [] y0)) y1)) d_Id).length (apI (List.take (apI (List.take (apI [] y0).length (apI [] y0)) y1).length (apI (List.take (apI [] y0).length (apI [] y0)) y1)) d_Id)) y2).length + (List.take 32 y3).length) (List.take (apI (List.take (apI (List.take (apI (List.take (apI [] y0).length (apI [] y0)) y1).length (apI (List.take (apI [] y0).length (apI [] y0)) y1)) d_Id).length (apI (List.take (apI (List.take (apI [] y0).length (apI [] y0)) y1).length (apI (List.take (apI [] y0).length (apI [] y0)) y1)) d_Id)) y2).length (apI (List.take (apI (List.take (apI (List.take (apI [] y0).length (apI [] y0)) y1).length (apI (List.take (apI [] y0).length (apI [] y0)) y1)) d_Id).length (apI (List.take (apI (List.take (apI [] y0).length (apI [] y0)) y1).length (apI (List.take (apI [] y0).length (apI [] y0)) y1)) d_Id)) y2) ++ List.take 32 y3)) y4)) (ByteArray.mk (Array.mk (Jp (false, pu IntKind.u8 (opB d_Op)).snd)))).length (apT (List.take (apY (List.take ((apI (List.take (apI (List.take (apI (List.take (apI [] y0).length (apI [] y0)) y1).length (apI (List.take (apI [] y0).length (apI [] y0)) y1)) d_Id).length (apI (List.take (apI (List.take (apI [] y0).length (apI [] y0)) y1).length (apI (List.take (apI [] y0).length (apI [] y0)) y1)) d_Id)) y2).length + (List.take 32 y3).length) (List.take (apI (List.take (apI (List.take (apI (List.take (apI [] y0).length (apI [] y0)) y1).length (apI (List.take (apI [] y0).length (apI [] y0)) y1)) d_Id).length (apI (List.take (apI (List.take (apI [] y0).length (apI [] y0)) y1).length (apI (List.take (apI [] y0).length (apI [] y0)) y1)) d_Id)) y2).length (apI (List.take (apI (List.take (apI (List.take (apI [] y0).length (apI [] y0)) y1).length (apI (List.take (apI [] y0).length (apI [] y0)) y1)) d_Id).length (apI (List.take (apI (List.take (apI [] y0).length (apI [] y0)) y1).length (apI (List.take (apI [] y0).length (apI [] y0)) y1)) d_Id)) y2) ++ List.take 32 y3)) y4).length (apY (List.take ((apI (List.take (apI (List.take (apI (List.take (apI [] y0).length (apI [] y0)) y1).length (apI (List.take (apI [] y0).length (apI [] y0)) y1)) d_Id).length (apI (List.take (apI (List.take (apI [] y0).length (apI [] y0)) y1).length (apI (List.take (apI [] y0).length (apI [] y0)) y1)) d_Id)) y2).length + (List.take 32 y3).length) (List.take (apI (List.take (apI (List.take (apI (List.take (apI [] y0).length (apI [] y0)) y1).length (apI (List.take (apI [] y0).length (apI [] y0)) y1)) d_Id).length (apI (List.take (apI (List.take (apI [] y0).length (apI [] y0)) y1).length (apI (List.take (apI [] y0).length (apI [] y0)) y1)) d_Id)) y2).length (apI (List.take (apI (List.take (apI (List.take (apI [] y0).length (apI [] y0)) y1).length (apI (List.take (apI [] y0).length (apI [] y0)) y1)) d_Id).length (apI (List.take (apI (List.take (apI [] y0).length (apI [] y0)) y1).length (apI (List.take (apI [] y0).length (apI [] y0)) y1)) d_Id)) y2) ++ List.take 32 y3)) y4)) (ByteArray.mk (Array.mk (Jp (false, pu IntKind.u8 (opB d_Op)).snd))))) y7)) then k (Res.mk (.ro 5 false false (List.take (apI (List.take (apI (List.take (apT (List.take (apY (List.take ((apI (List.take (apI (List.take (apI (List.take (apI [] y0).length (apI [] y0)) y1).length (apI (List.take (apI [] y0).length (apI [] y0)) y1)) d_Id).length (apI (List.take (apI (List.take (apI [] y0).length (apI [] y0)) y1).length (apI (List.take (apI [] y0).length (apI [] y0)) y1)) d_Id)) y2).length + (List.take 32 y3).length) (List.take (apI (List.take (apI (List.take (apI (List.take (apI [] y0).length (apI [] y0)) y1).length (apI (List.take (apI [] y0).length (apI [] y0)) y1)) d_Id).length (apI (List.take (apI (List.take (apI [] y0).length (apI [] y0)) y1).length (apI (List.take (apI [] y0).length (apI [] y0)) y1)) d_Id)) y2).length (apI (List.take (apI (List.take (apI (List.take (apI [] y0).length (apI [] y0)) y1).length (apI (List.take (apI [] y0).length (apI [] y0)) y1)) d_Id).length (apI (List.take (apI (List.take (apI [] y0).length (apI [] y0)) y1).length (apI (List.take (apI [] y0).length (apI [] y0)) y1)) d_Id)) y2) ++ List.take 32 y3)) y4).length (apY (List.take ((apI (List.take (apI (List.take (apI (List.take (apI [] y0).length (apI [] y0)) y1).length (apI (List.take (apI [] y0).length (apI [] y0)) y1)) d_Id).length (apI (List.take (apI (List.take (apI [] y0).length (apI [] y0)) y1).length (apI (List.take (apI [] y0).length (apI [] y0)) y1)) d_Id)) y2).length + (List.take 32 y3).length) (List.take (apI (List.take (apI (List.take (apI (List.take (apI [] y0).length (apI [] y0)) y1).length (apI (List.take (apI [] y0).length (apI [] y0)) y1)) d_Id).length (apI (List.take (apI (List.take (apI [] y0).length (apI [] y0)) y1).length (apI (List.take (apI [] y0).length (apI [] y0)) y1)) d_Id)) y2).length (apI (List.take (apI (List.take (apI (List.take (apI [] y0).length (apI [] y0)) y1).length (apI (List.take (apI [] y0).length (apI [] y0)) y1)) d_Id).length (apI (List.take (apI (List.take (apI [] y0).length (apI [] y0)) y1).length (apI (List.take (apI [] y0).length (apI [] y0)) y1)) d_Id)) y2) ++ List.take 32 y3)) y4)) (ByteArray.mk (Array.mk (Jp (false, pu IntKind.u8 (opB d_Op)).snd)))).length (apT (List.take (apY (List.take ((apI (List.take (apI (List.take (apI (List.take (apI [] y0).length (apI [] y0)) y1).length (apI (List.take (apI [] y0).length (apI [] y0)) y1)) d_Id).length (apI (List.take (apI (List.take (apI [] y0).length (apI [] y0)) y1).length (apI (List.take (apI [] y0).length (apI [] y0)) y1)) d_Id)) y2).length + (List.take 32 y3).length) (List.take (apI (List.take (apI (List.take (apI (List.take (apI [] y0).length (apI [] y0)) y1).length (apI (List.take (apI [] y0).length (apI [] y0)) y1)) d_Id).length (apI (List.take (apI (List.take (apI [] y0).length (apI [] y0)) y1).length (apI (List.take (apI [] y0).length (apI [] y0)) y1)) d_Id)) y2).length (apI (List.take (apI (List.take (apI (List.take (apI [] y0).length (apI [] y0)) y1).length (apI (List.take (apI [] y0).length (apI [] y0)) y1)) d_Id).length (apI (List.take (apI (List.take (apI [] y0).length (apI [] y0)) y1).length (apI (List.take (apI [] y0).length (apI [] y0)) y1)) d_Id)) y2) ++ List.take 32 y3)) y4).length (apY (List.take ((apI (List.take (apI (List.take (apI (List.take (apI [] y0).length (apI [] y0)) y1).length (apI (List.take (apI [] y0).length (apI [] y0)) y1)) d_Id).length (apI (List.take (apI (List.take (apI [] y0).length (apI [] y0)) y1).length (apI (List.take (apI [] y0).length (apI [] y0)) y1)) d_Id)) y2).length + (List.take 32 y3).length) (List.take (apI (List.take (apI (List.take (apI (List.take (apI [] y0).length (apI [] y0)) y1).length (apI (List.take (apI [] y0).length (apI [] y0)) y1)) d_Id).length (apI (List.take (apI (List.take (apI [] y0).length (apI [] y0)) y1).length (apI (List.take (apI [] y0).length (apI [] y0)) y1)) d_Id)) y2).length (apI (List.take (apI (List.take (apI (List.take (apI [] y0).length (apI [] y0)) y1).length (apI (List.take (apI [] y0).length (apI [] y0)) y1)) d_Id).length (apI (List.take (apI (List.take (apI [] y0).length (apI [] y0)) y1).length (apI (List.take (apI [] y0).length (apI [] y0)) y1)) d_Id)) y2) ++ List.take 32 y3)) y4)) (ByteArray.mk (Array.mk (Jp (false, pu IntKind.u8 (opB d_Op)).snd))))) y7).length (apI (List.take (apT (List.take (apY (List.take ((apI (List.take (apI (List.take (apI (List.take (apI [] y0).length (apI [] y0)) y1).length (apI (List.take (apI [] y0).length (apI [] y0)) y1)) d_Id).length (apI (List.take (apI (List.take (apI [] y0).length (apI [] y0)) y1).length (apI (List.take (apI [] y0).length (apI [] y0)) y1)) d_Id)) y2).length + (List.take 32 y3).length) (List.take (apI (List.take (apI (List.take (apI (List.take (apI [] y0).length (apI [] y0)) y1).length (apI (List.take (apI [] y0).length (apI [] y0)) y1)) d_Id).length (apI (List.take (apI (List.take (apI [] y0).length (apI [] y0)) y1).length (apI (List.take (apI [] y0).length (apI [] y0)) y1)) d_Id)) y2).length (apI (List.take (apI (List.take (apI (List.take (apI [] y0).length (apI [] y0)) y1).length (apI (List.take (apI [] y0).length (apI [] y0)) y1)) d_Id).length (apI (List.take (apI (List.take (apI [] y0).length (apI [] y0)) y1).length (apI (List.take (apI [] y0).length (apI [] y0)) y1)) d_Id)) y2) ++ List.take 32 y3)) y4).length (apY (List.take ((apI (List.take (apI (List.take (apI (List.take (apI [] y0).length (apI [] y0)) y1).length (apI (List.take (apI [] y0).length (apI [] y0)) y1)) d_Id).length (apI (List.take (apI (List.take (apI [] y0).length (apI [] y0)) y1).length (apI (List.take (apI [] y0).length (apI [] y0)) y1)) d_Id)) y2).length + (List.take 32 y3).length) (List.take (apI (List.take (apI (List.take (apI (List.take (apI [] y0).length (apI [] y0)) y1).length (apI (List.take (apI [] y0).length (apI [] y0)) y1)) d_Id).length (apI (List.take (apI (List.take (apI [] y0).length (apI [] y0)) y1).length (apI (List.take (apI [] y0).length (apI [] y0)) y1)) d_Id)) y2).length (apI (List.take (apI (List.take (apI (List.take (apI [] y0).length (apI [] y0)) y1).length (apI (List.take (apI [] y0).length (apI [] y0)) y1)) d_Id).length (apI (List.take (apI (List.take (apI [] y0).length (apI [] y0)) y1).length (apI (List.take (apI [] y0).length (apI [] y0)) y1)) d_Id)) y2) ++ List.take 32 y3)) y4)) (ByteArray.mk (Array.mk (Jp (false, pu IntKind.u8 (opB d_Op)).snd)))).length (apT (List.take (apY (List.take ((apI (List.take (apI (List.take (apI (List.take (apI [] y0).length (apI [] y0)) y1).length (apI (List.take (apI [] y0).length (apI [] y0)) y1)) d_Id).length (apI (List.take (apI (List.take (apI [] y0).length (apI [] y0)) y1).length (apI (List.take (apI [] y0).length (apI [] y0)) y1)) d_Id)) y2).length + (List.take 32 y3).length) (List.take (apI (List.take (apI (List.take (apI (List.take (apI [] y0).length (apI [] y0)) y1).length (apI (List.take (apI [] y0).length (apI [] y0)) y1)) d_Id).length (apI (List.take (apI (List.take (apI [] y0).length (apI [] y0)) y1).length (apI (List.take (apI [] y0).length (apI [] y0)) y1)) d_Id)) y2).length (apI (List.take (apI (List.take (apI (List.take (apI [] y0).length (apI [] y0)) y1).length (apI (List.take (apI [] y0).length (apI [] y0)) y1)) d_Id).length (apI (List.take (apI (List.take (apI [] y0).length (apI [] y0)) y1).length (apI (List.take (apI [] y0).length (apI [] y0)) y1)) d_Id)) y2) ++ List.take 32 y3)) y4).length (apY (List.take ((apI (List.take (apI (List.take (apI (List.take (apI [] y0).length (apI [] y0)) y1).length (apI (List.take (apI [] y0).length (apI [] y0)) y1)) d_Id).length (apI (List.take (apI (List.take (apI [] y0).length (apI [] y0)) y1).length (apI (List.take (apI [] y0).length (apI [] y0)) y1)) d_Id)) y2).length + (List.take 32 y3).length) (List.take (apI (List.take (apI (List.take (apI (List.take (apI [] y0).length (apI [] y0)) y1).length (apI (List.take (apI [] y0).length (apI [] y0)) y1)) d_Id).length (apI (List.take (apI (List.take (apI [] y0).length (apI [] y0)) y1).length (apI (List.take (apI [] y0).length (apI [] y0)) y1)) d_Id)) y2).length (apI (List.take (apI (List.take (apI (List.take (apI [] y0).length (apI [] y0)) y1).length (apI (List.take (apI [] y0).length (apI [] y0)) y1)) d_Id).length (apI (List.take (apI (List.take (apI [] y0).length (apI [] y0)) y1).length (apI (List.take (apI [] y0).length (apI [] y0)) y1)) d_Id)) y2) ++ List.take 32 y3)) y4)) (ByteArray.mk (Array.mk (Jp (false, pu IntKind.u8 (opB d_Op)).snd))))) y7)) y8).length (apI (List.take (apI (List.take (apT (List.take (apY (List.take ((apI (List.take (apI (List.take (apI (List.take (apI [] y0).length (apI [] y0)) y1).length (apI (List.take (apI [] y0).length (apI [] y0)) y1)) d_Id).length (apI (List.take (apI (List.take (apI [] y0).length (apI [] y0)) y1).length (apI (List.take (apI [] y0).length (apI [] y0)) y1)) d_Id)) y2).length + (List.take 32 y3).length) (List.take (apI (List.take (apI (List.take (apI (List.take (apI [] y0).length (apI [] y0)) y1).length (apI (List.take (apI [] y0).length (apI [] y0)) y1)) d_Id).length (apI (List.take (apI (List.take (apI [] y0).length (apI [] y0)) y1).length (apI (List.take (apI [] y0).length (apI [] y0)) y1)) d_Id)) y2).length (apI (List.take (apI (List.take (apI (List.take (apI [] y0).length (apI [] y0)) y1).length (apI (List.take (apI [] y0).length (apI [] y0)) y1)) d_Id).length (apI (List.take (apI (List.take (apI [] y0).length (apI [] y0)) y1).length (apI (List.take (apI [] y0).length (apI [] y0)) y1)) d_Id)) y2) ++ List.take 32 y3)) y4).length (apY (List.take ((apI (List.take (apI (List.take (apI (List.take (apI [] y0).length (apI [] y0)) y1).length (apI (List.take (apI [] y0).length (apI [] y0)) y1)) d_Id).length (apI (List.take (apI (List.take (apI [] y0).length (apI [] y0)) y1).length (apI (List.take (apI [] y0).length (apI [] y0)) y1)) d_Id)) y2).length + (List.take 32 y3).length) (List.take (apI (List.take (apI (List.take (apI (List.take (apI [] y0).length (apI [] y0)) y1).length (apI (List.take (apI [] y0).length (apI [] y0)) y1)) d_Id).length (apI (List.take (apI (List.take (apI [] y0).length (apI [] y0)) y1).length (apI (List.take (apI [] y0).length (apI [] y0)) y1)) d_Id)) y2).length (apI (List.take (apI (List.take (apI (List.take (apI [] y0).length (apI [] y0)) y1).length (apI (List.take (apI [] y0).length (apI [] y0)) y1)) d_Id).length (apI (List.take (apI (List.take (apI [] y0).length (apI [] y0)) y1).length (apI (List.take (apI [] y0).length (apI [] y0)) y1)) d_Id)) y2) ++ List.take 32 y3)) y4)) (ByteArray.mk (Array.mk (Jp (false, pu IntKind.u8 (opB d_Op)).snd)))).length (apT (List.take (apY (List.take ((apI (List.take (apI (List.take (apI (List.take (apI [] y0).length (apI [] y0)) y1).length (apI (List.take (apI [] y0).length (apI [] y0)) y1)) d_Id).length (apI (List.take (apI (List.take (apI [] y0).length (apI [] y0)) y1).length (apI (List.take (apI [] y0).length (apI [] y0)) y1)) d_Id)) y2).length + (List.take 32 y3).length) (List.take (apI (List.take (apI (List.take (apI (List.take (apI [] y0).length (apI [] y0)) y1).length (apI (List.take (apI [] y0).length (apI [] y0)) y1)) d_Id).length (apI (List.take (apI (List.take (apI [] y0).length (apI [] y0)) y1).length (apI (List.take (apI [] y0).length (apI [] y0)) y1)) d_Id)) y2).length (apI (List.take (apI (List.take (apI (List.take (apI [] y0).length (apI [] y0)) y1).length (apI (List.take (apI [] y0).length (apI [] y0)) y1)) d_Id).length (apI (List.take (apI (List.take (apI [] y0).length (apI [] y0)) y1).length (apI (List.take (apI [] y0).length (apI [] y0)) y1)) d_Id)) y2) ++ List.take 32 y3)) y4).length (apY (List.take ((apI (List.take (apI (List.take (apI (List.take (apI [] y0).length (apI [] y0)) y1).length (apI (List.take (apI [] y0).length (apI [] y0)) y1)) d_Id).length (apI (List.take (apI (List.take (apI [] y0).length (apI [] y0)) y1).length (apI (List.take (apI [] y0).length (apI [] y0)) y1)) d_Id)) y2).length + (List.take 32 y3).length) (List.take (apI (List.take (apI (List.take (apI (List.take (apI [] y0).length (apI [] y0)) y1).length (apI (List.take (apI [] y0).length (apI [] y0)) y1)) d_Id).length (apI (List.take (apI (List.take (apI [] y0).length (apI [] y0)) y1).length (apI (List.take (apI [] y0).length (apI [] y0)) y1)) d_Id)) y2).length (apI (List.take (apI (List.take (apI (List.take (apI [] y0).length (apI [] y0)) y1).length (apI (List.take (apI [] y0).length (apI [] y0)) y1)) d_Id).length (apI (List.take (apI (List.take (apI [] y0).length (apI [] y0)) y1).length (apI (List.take (apI [] y0).length (apI [] y0)) y1)) d_Id)) y2) ++ List.take 32 y3)) y4)) (ByteArray.mk (Array.mk (Jp (false, pu IntKind.u8 (opB d_Op)).snd))))) y7).length (apI (List.take (apT (List.take (apY (List.take ((apI (List.take (apI (List.take (apI (List.take (apI [] y0).length (apI [] y0)) y1).length (apI (List.take (apI [] y0).length (apI [] y0)) y1)) d_Id).length (apI (List.take (apI (List.take (apI [] y0).length (apI [] y0)) y1).length (apI (List.take (apI [] y0).length (apI [] y0)) y1)) d_Id)) y2).length + (List.take 32 y3).length) (List.take (apI (List.take (apI (List.take (apI (List.take (apI [] y0).length (apI [] y0)) y1).length (apI (List.take (apI [] y0).length (apI [] y0)) y1)) d_Id).length (apI (List.take (apI (List.take (apI [] y0).length (apI [] y0)) y1).length (apI (List.take (apI [] y0).length (apI [] y0)) y1)) d_Id)) y2).length (apI (List.take (apI (List.take (apI (List.take (apI [] y0).length (apI [] y0)) y1).length (apI (List.take (apI [] y0).length (apI [] y0)) y1)) d_Id).length (apI (List.take (apI (List.take (apI [] y0).length (apI [] y0)) y1).length (apI (List.take (apI [] y0).length (apI [] y0)) y1)) d_Id)) y2) ++ List.take 32 y3)) y4).length (apY (List.take ((apI (List.take (apI (List.take (apI (List.take (apI [] y0).length (apI [] y0)) y1).length (apI (List.take (apI [] y0).length (apI [] y0)) y1)) d_Id).length (apI (List.take (apI (List.take (apI [] y0).length (apI [] y0)) y1).length (apI (List.take (apI [] y0).length (apI [] y0)) y1)) d_Id)) y2).length + (List.take 32 y3).length) (List.take (apI (List.take (apI (List.take (apI (List.take (apI [] y0).length (apI [] y0)) y1).length (apI (List.take (apI [] y0).length (apI [] y0)) y1)) d_Id).length (apI (List.take (apI (List.take (apI [] y0).length (apI [] y0)) y1).length (apI (List.take (apI [] y0).length (apI [] y0)) y1)) d_Id)) y2).length (apI (List.take (apI (List.take (apI (List.take (apI [] y0).length (apI [] y0)) y1).length (apI (List.take (apI [] y0).length (apI [] y0)) y1)) d_Id).length (apI (List.take (apI (List.take (apI [] y0).length (apI [] y0)) y1).length (apI (List.take (apI [] y0).length (apI [] y0)) y1)) d_Id)) y2) ++ List.take 32 y3)) y4)) (ByteArray.mk (Array.mk (Jp (false, pu IntKind.u8 (opB d_Op)).snd)))).length (apT (List.take (apY (List.take ((apI (List.take (apI (List.take (apI (List.take (apI [] y0).length (apI [] y0)) y1).length (apI (List.take (apI [] y0).length (apI [] y0)) y1)) d_Id).length (apI (List.take (apI (List.take (apI [] y0).length (apI [] y0)) y1).length (apI (List.take (apI [] y0).length (apI [] y0)) y1)) d_Id)) y2).length + (List.take 32 y3).length) (List.take (apI (List.take (apI (List.take (apI (List.take (apI [] y0).length (apI [] y0)) y1).length (apI (List.take (apI [] y0).length (apI [] y0)) y1)) d_Id).length (apI (List.take (apI (List.take (apI [] y0).length (apI [] y0)) y1).length (apI (List.take (apI [] y0).length (apI [] y0)) y1)) d_Id)) y2).length (apI (List.take (apI (List.take (apI (List.take (apI [] y0).length (apI [] y0)) y1).length (apI (List.take (apI [] y0).length (apI [] y0)) y1)) d_Id).length (apI (List.take (apI (List.take (apI [] y0).length (apI [] y0)) y1).length (apI (List.take (apI [] y0).length (apI [] y0)) y1)) d_Id)) y2) ++ List.take 32 y3)) y4).length (apY (List.take ((apI (List.take (apI (List.take (apI (List.take (apI [] y0).length (apI [] y0)) y1).length (apI (List.take (apI [] y0).length (apI [] y0)) y1)) d_Id).length (apI (List.take (apI (List.take (apI [] y0).length (apI [] y0)) y1).length (apI (List.take (apI [] y0).length (apI [] y0)) y1)) d_Id)) y2).length + (List.take 32 y3).length) (List.take (apI (List.take (apI (List.take (apI (List.take (apI [] y0).length (apI [] y0)) y1).length (apI (List.take (apI [] y0).length (apI [] y0)) y1)) d_Id).length (apI (List.take (apI (List.take (apI [] y0).length (apI [] y0)) y1).length (apI (List.take (apI [] y0).length (apI [] y0)) y1)) d_Id)) y2).length (apI (List.take (apI (List.take (apI (List.take (apI [] y0).length (apI [] y0)) y1).length (apI (List.take (apI [] y0).length (apI [] y0)) y1)) d_Id).length (apI (List.take (apI (List.take (apI [] y0).length (apI [] y0)) y1).length (apI (List.take (apI [] y0).length (apI [] y0)) y1)) d_Id)) y2) ++ List.take 32 y3)) y4)) (ByteArray.mk (Array.mk (Jp (false, pu IntKind.u8 (opB d_Op)).snd))))) y7)) y8))) [] []) else none else none else none else none else none else none else none else none else none else none else none
theorem JE7 (f : Nat) (y0 y1 d_Id y2 : Int) (y3 : List PV) (y4 : Int) (y5 y6 : Bool) (d_Op : List PV) (y7 y8 : Int) (k : Res -> Option Res) : JN tau JAV Try.f101 (Try.f101.body.get!) Jkn [.ro] 6 [.st 73 [.st 45 [.sc (.int .i64 y0), .sc (.int .i64 y1)], .sc (.int .i64 d_Id), .sc (.int .i64 y2), .ar 37 y3, .sc (.int .i64 y4), .ro 99 y5 y6 d_Op, .st 45 [.sc (.int .i64 y7), .sc (.int .i64 y8)]]] [] k = Jv4 f y0 y1 d_Id y2 y3 y4 y5 y6 d_Op y7 y8 k := by kernel_rfl
theorem JAW (f : Nat) : Je (Try.f101.body.get!) Jkn = [] := by kernel_rfl
theorem JAX (f : Nat) : ∀ q ∈ Je (Try.f101.body.get!) Jkn, q.Ok tau Try.prog 0 := by
 rw [JAW f]; intro q hq; cases hq
theorem Jtj : Try.prog.funcs[101]? = some Try.f101 := by kernel_rfl
theorem Jtk : Try.f101.body = some (Try.f101.body.get!) := by kernel_rfl
theorem JAY : Enters Try.prog 101 := enters_of Jtj (by kernel_rfl) Jtk
def F53 : Fns := JC 111 Jti (JC 110 Jng (JC 109 JsZ (JC 108 JsY (F0))))
theorem Jv5 : Ju tau Try.prog F53 := ((((JB).add JvN JsO).add JvO JAw).add Jnh JsK).add Jv2 JAB
def Jqr : An := (.seq .leaf (.seq .leaf (.seq .leaf (.seq .leaf (.seq .leaf (.seq .leaf .leaf))))))
def g53 (f : Nat) (y0 y1 d_Id y2 : Int) (y3 : List PV) (y4 : Int) (y5 y6 : Bool) (d_Op : List PV) (y7 y8 : Int) (k : Res -> Option Res) : Option Res := bif okL (apI [] y0).length (apI [] y0) then bif okL (apI (apI [] y0) y1).length (apI (apI [] y0) y1) then bif okL (apI (apI (apI [] y0) y1) d_Id).length (apI (apI (apI [] y0) y1) d_Id) then bif Jl ((apI (apI (apI (apI [] y0) y1) d_Id) y2).length + (List.take 32 y3).length) 1 && true then bif okL ((apI (apI (apI (apI [] y0) y1) d_Id) y2).length + (List.take 32 y3).length) (List.take (apI (apI (apI (apI [] y0) y1) d_Id) y2).length (apI (apI (apI (apI [] y0) y1) d_Id) y2) ++ List.take 32 y3) then bif cBy d_Op then bif Jh IntKind.u8 (List.take (opB d_Op).length (pu IntKind.u8 (opB d_Op))) && true then bif okL (apY (List.take (apI (apI (apI (apI [] y0) y1) d_Id) y2).length (apI (apI (apI (apI [] y0) y1) d_Id) y2) ++ List.take 32 y3) y4).length (apY (List.take (apI (apI (apI (apI [] y0) y1) d_Id) y2).length (apI (apI (apI (apI [] y0) y1) d_Id) y2) ++ List.take 32 y3) y4) && (ByteArray.mk (Array.mk (Jp ((Ent.vec false 5 false (pu IntKind.u8 (opB d_Op))).nil, List.take (opB d_Op).length (List.drop 0 (pu IntKind.u8 (opB d_Op)))).snd))).size.ble 65535 then bif okL (apT (apY (List.take (apI (apI (apI (apI [] y0) y1) d_Id) y2).length (apI (apI (apI (apI [] y0) y1) d_Id) y2) ++ List.take 32 y3) y4) (ByteArray.mk (Array.mk (Jp ((Ent.vec false 5 false (pu IntKind.u8 (opB d_Op))).nil, List.take (opB d_Op).length (List.drop 0 (pu IntKind.u8 (opB d_Op)))).snd)))).length (apT (apY (List.take (apI (apI (apI (apI [] y0) y1) d_Id) y2).length (apI (apI (apI (apI [] y0) y1) d_Id) y2) ++ List.take 32 y3) y4) (ByteArray.mk (Array.mk (Jp ((Ent.vec false 5 false (pu IntKind.u8 (opB d_Op))).nil, List.take (opB d_Op).length (List.drop 0 (pu IntKind.u8 (opB d_Op)))).snd)))) then bif okL (apI (apT (apY (List.take (apI (apI (apI (apI [] y0) y1) d_Id) y2).length (apI (apI (apI (apI [] y0) y1) d_Id) y2) ++ List.take 32 y3) y4) (ByteArray.mk (Array.mk (Jp ((Ent.vec false 5 false (pu IntKind.u8 (opB d_Op))).nil, List.take (opB d_Op).length (List.drop 0 (pu IntKind.u8 (opB d_Op)))).snd)))) y7).length (apI (apT (apY (List.take (apI (apI (apI (apI [] y0) y1) d_Id) y2).length (apI (apI (apI (apI [] y0) y1) d_Id) y2) ++ List.take 32 y3) y4) (ByteArray.mk (Array.mk (Jp ((Ent.vec false 5 false (pu IntKind.u8 (opB d_Op))).nil, List.take (opB d_Op).length (List.drop 0 (pu IntKind.u8 (opB d_Op)))).snd)))) y7) then k (Res.mk (.ow 5 16 [] 0 (apI (apI (apT (apY (List.take (apI (apI (apI (apI [] y0) y1) d_Id) y2).length (apI (apI (apI (apI [] y0) y1) d_Id) y2) ++ List.take 32 y3) y4) (ByteArray.mk (Array.mk (Jp ((Ent.vec false 5 false (pu IntKind.u8 (opB d_Op))).nil, List.take (opB d_Op).length (List.drop 0 (pu IntKind.u8 (opB d_Op)))).snd)))) y7) y8).length none) [] [.vec false 5 false (apI (apI (apT (apY (List.take (apI (apI (apI (apI [] y0) y1) d_Id) y2).length (apI (apI (apI (apI [] y0) y1) d_Id) y2) ++ List.take 32 y3) y4) (ByteArray.mk (Array.mk (Jp ((Ent.vec false 5 false (pu IntKind.u8 (opB d_Op))).nil, List.take (opB d_Op).length (List.drop 0 (pu IntKind.u8 (opB d_Op)))).snd)))) y7) y8)]) else none else none else none else none else none else none else none else none else none else none
theorem e53 (f : Nat) (y0 y1 d_Id y2 : Int) (y3 : List PV) (y4 : Int) (y5 y6 : Bool) (d_Op : List PV) (y7 y8 : Int) (k : Res -> Option Res) : JN tau F53 Try.f53 (Try.f53.body.get!) Jqr [] 0 [.st 73 [.st 45 [.sc (.int .i64 y0), .sc (.int .i64 y1)], .sc (.int .i64 d_Id), .sc (.int .i64 y2), .ar 37 y3, .sc (.int .i64 y4), .ro 99 y5 y6 d_Op, .st 45 [.sc (.int .i64 y7), .sc (.int .i64 y8)]]] [] k = g53 f y0 y1 d_Id y2 y3 y4 y5 y6 d_Op y7 y8 k := by kernel_rfl
theorem JE8 (f : Nat) : Je (Try.f53.body.get!) Jqr = [] := by kernel_rfl
theorem JE9 (f : Nat) : ∀ q ∈ Je (Try.f53.body.get!) Jqr, q.Ok tau Try.prog 0 := by
 rw [JE8 f]; intro q hq; cases hq
theorem JAZ : Try.prog.funcs[53]? = some Try.f53 := by kernel_rfl
theorem JA0 : Try.f53.body = some (Try.f53.body.get!) := by kernel_rfl
theorem JFa : Enters Try.prog 53 := enters_of JAZ (by kernel_rfl) JA0
def F58 : Fns := JC 114 JnE (JC 98 Jp4 (JC 97 JvL (F0)))
theorem Jv6 : Ju tau Try.prog F58 := (((JB).add JsX Jvo).add Jnf Jvj).add JnF Js2
def Jqs : An := (.seq .leaf (.seq .leaf (.seq .leaf .leaf)))
def g58 (f : Nat) (y0 y1 : Bool) (y2 y3 : List PV) (e_At : Int) (y4 y5 : Bool) (e_Op y6 y7 : List PV) (k : Res -> Option Res) : Option Res := bif Jh IntKind.u8 y2 && true then bif okZ true [] && (ByteArray.mk (Array.mk (Jp (y0, y2).snd))).size.ble 65535 then bif Jl ((apT [] (ByteArray.mk (Array.mk (Jp (y0, y2).snd)))).length + (List.take 32 y3).length) 1 && true then bif okZ false (List.take ((apT [] (ByteArray.mk (Array.mk (Jp (y0, y2).snd)))).length + (List.take 32 y3).length) (List.take (apT [] (ByteArray.mk (Array.mk (Jp (y0, y2).snd)))).length (apT [] (ByteArray.mk (Array.mk (Jp (y0, y2).snd)))) ++ List.take 32 y3)) then bif cBy e_Op then bif Jh IntKind.u8 (pu IntKind.u8 (opB e_Op)) && true then bif okZ false (List.take (apI (List.take ((apT [] (ByteArray.mk (Array.mk (Jp (y0, y2).snd)))).length + (List.take 32 y3).length) (List.take (apT [] (ByteArray.mk (Array.mk (Jp (y0, y2).snd)))).length (apT [] (ByteArray.mk (Array.mk (Jp (y0, y2).snd)))) ++ List.take 32 y3)) e_At).length (apI (List.take ((apT [] (ByteArray.mk (Array.mk (Jp (y0, y2).snd)))).length + (List.take 32 y3).length) (List.take (apT [] (ByteArray.mk (Array.mk (Jp (y0, y2).snd)))).length (apT [] (ByteArray.mk (Array.mk (Jp (y0, y2).snd)))) ++ List.take 32 y3)) e_At)) && (ByteArray.mk (Array.mk (Jp (false, pu IntKind.u8 (opB e_Op)).snd))).size.ble 65535 then k (Res.mk (.ro 5 false false (List.take (apT (List.take (apI (List.take ((apT [] (ByteArray.mk (Array.mk (Jp (y0, y2).snd)))).length + (List.take 32 y3).length) (List.take (apT [] (ByteArray.mk (Array.mk (Jp (y0, y2).snd)))).length (apT [] (ByteArray.mk (Array.mk (Jp (y0, y2).snd)))) ++ List.take 32 y3)) e_At).length (apI (List.take ((apT [] (ByteArray.mk (Array.mk (Jp (y0, y2).snd)))).length + (List.take 32 y3).length) (List.take (apT [] (ByteArray.mk (Array.mk (Jp (y0, y2).snd)))).length (apT [] (ByteArray.mk (Array.mk (Jp (y0, y2).snd)))) ++ List.take 32 y3)) e_At)) (ByteArray.mk (Array.mk (Jp (false, pu IntKind.u8 (opB e_Op)).snd)))).length (apT (List.take (apI (List.take ((apT [] (ByteArray.mk (Array.mk (Jp (y0, y2).snd)))).length + (List.take 32 y3).length) (List.take (apT [] (ByteArray.mk (Array.mk (Jp (y0, y2).snd)))).length (apT [] (ByteArray.mk (Array.mk (Jp (y0, y2).snd)))) ++ List.take 32 y3)) e_At).length (apI (List.take ((apT [] (ByteArray.mk (Array.mk (Jp (y0, y2).snd)))).length + (List.take 32 y3).length) (List.take (apT [] (ByteArray.mk (Array.mk (Jp (y0, y2).snd)))).length (apT [] (ByteArray.mk (Array.mk (Jp (y0, y2).snd)))) ++ List.take 32 y3)) e_At)) (ByteArray.mk (Array.mk (Jp (false, pu IntKind.u8 (opB e_Op)).snd)))))) [] []) else none else none else none else none else none else none else none
theorem e58 (f : Nat) (y0 y1 : Bool) (y2 y3 : List PV) (e_At : Int) (y4 y5 : Bool) (e_Op y6 y7 : List PV) (k : Res -> Option Res) : JN tau F58 Try.f58 (Try.f58.body.get!) Jqs [.ro] 0 [.st 93 [.st 77 [.ro 5 y0 y1 y2, .ar 37 y3], .sc (.int .i64 e_At), .ro 99 y4 y5 e_Op, .ar 37 y6, .ar 37 y7]] [] k = g58 f y0 y1 y2 y3 e_At y4 y5 e_Op y6 y7 k := by kernel_rfl
theorem JFb (f : Nat) : Je (Try.f58.body.get!) Jqs = [] := by kernel_rfl
theorem JFc (f : Nat) : ∀ q ∈ Je (Try.f58.body.get!) Jqs, q.Ok tau Try.prog 0 := by
 rw [JFb f]; intro q hq; cases hq
theorem JA1 : Try.prog.funcs[58]? = some Try.f58 := by kernel_rfl
theorem JA2 : Try.f58.body = some (Try.f58.body.get!) := by kernel_rfl
theorem JFd : Enters Try.prog 58 := enters_of JA1 (by kernel_rfl) JA2

-- FN sign.Core | ref9.Core
def tx (l : List PV) : ByteArray := ByteArray.mk (Array.mk (Jp l))
theorem W4 (l : List PV) : (tx l).size = l.length := Zn l
structure EV where
 (b m : List PV) (at1 : Int) (o : List PV)
def Jcp (e : EV) : List Int := Qp (tx e.b) ++ (Ji e.m ++ (Qb e.at1 ++ Qp (tx (pu .u8 (opB e.o)))))
def WL : EV -> List Int := hid Jcp
theorem Jcq (e : EV) : WL e = Jcp e := by rw [WL, hid_eq]
def eOk : EV -> Bool := hid fun e => Jh .u8 e.b && (decide (e.b.length <= 65535) && (Jh .u8 e.m && (decide (e.m.length = 32) && (cBy e.o && decide ((opB e.o).length <= 65535)))))
theorem GL {e : EV} : eOk e = true ↔ Jh .u8 e.b = true /\ e.b.length <= 65535 /\ Jh .u8 e.m = true /\ e.m.length = 32 /\ cBy e.o = true /\ (opB e.o).length <= 65535 := by
 rw [eOk, hid_eq]; simp only [Bool.and_eq_true, decide_eq_true_eq]
theorem GM {e : EV} (h : eOk e = true) : (WL e).length = e.b.length + (opB e.o).length + 44 := by
 obtain ⟨h1, h2, h3, h4, h5, h6⟩ := GL.1 h
 rw [Jcq]
 simp only [Jcp, List.length_append, GC, Qx, XF, W4, JJ, h4]; omega
theorem Jit {e : EV} (h : eOk e = true) : apT (apI (apT [] (tx e.b) ++ List.take 32 e.m) e.at1) (tx (pu .u8 (opB e.o))) = pu .u8 (WL e) := by
 obtain ⟨h1, h2, h3, h4, h5, h6⟩ := GL.1 h
 rw [Jcq, XP, ZE, XP, List.take_of_length_le (by omega)]
 simp only [Jcp, JU, List.nil_append, List.append_assoc, ← Qc h3]
def Jiu : List PV -> List Ent -> (Res -> Option Res) -> Option Res
 | [.st 93 [.st 77 [.ro 5 bz bf b, .ar 37 m], .sc (.int .i64 at1), .ro 99 oz of o, .ar 37 h, .ar 37 mc]], [], k => bif eOk ⟨b, m, at1, o⟩ then k ⟨.ro 5 false false (pu .u8 (WL ⟨b, m, at1, o⟩)), [], []⟩ else none
 | _, _, _ => none
def JA3 : Sig := { own := [], run := Jiu }
theorem Jv7 (bz bf : Bool) (b m : List PV) (at1 : Int) (oz of : Bool) (o h mc : List PV) (he : eOk ⟨b, m, at1, o⟩ = true) (k : Res -> Option Res) : g58 0 bz bf b m at1 oz of o h mc k = k ⟨.ro 5 false false (pu .u8 (WL ⟨b, m, at1, o⟩)), [], []⟩ := by
 have hl := GM he
 have hp := Jit he
 obtain ⟨h1, h2, h3, h4, h5, h6⟩ := GL.1 he
 simp only at hl hp h1 h2 h3 h4 h5 h6
 have ht : ∀ l : List PV, ByteArray.mk (Array.mk (Jp l)) = tx l := fun l => rfl
 have hm : List.take 32 m = m := List.take_of_length_le (by omega)
 have l1 : (apT [] (tx b)).length = b.length + 2 := by rw [XP]; simp [W4]
 have l2 : ∀ (L : List PV) (n : Int), (apI L n).length = L.length + 8 := Vd
 have htp : ∀ l : List Int, List.take l.length (pu .u8 l) = pu .u8 l := fun l => List.take_of_length_le (by simp)
 have hcat : ∀ n, n = (apT [] (tx b)).length + m.length -> List.take n (apT [] (tx b) ++ m) = apT [] (tx b) ++ m := fun n hn => List.take_of_length_le (by simp; omega)
 rw [hm] at hp
 unfold g58
 simp only [ht, hm, List.take_length, htp, List.drop_zero, hcat _ rfl, W4, JJ]
 refine (Jb (by rw [h1]; rfl)).trans ((Jb (by rw [ZF]; show (true && _) = true; rw [Bool.true_and, Nat.ble_eq]; exact h2)).trans ((Jb (by simp only [Jl, Nat.mul_one, Bool.and_true, decide_eq_true_eq, l1]; omega)).trans ((Jb (by rw [Q3 (by rw [List.length_append, l1]; omega)])).trans ((Jb h5).trans ((Jb (by rw [JO]; rfl)).trans ((Jb (by rw [Q3 (by rw [l2, List.length_append, l1]; omega), Bool.true_and, Nat.ble_eq]; exact h6)).trans ?_))))))
 rw [hp]
 try rfl
theorem JA4 : Jf tau Try.prog 58 JA3 := Jf.mk' fun xs es k res hl hr => by
 change Jiu xs es k = some res at hr
 unfold Jiu at hr
 split at hr
 · rename_i bz bf b m at1 oz of o h mc
   obtain ⟨hc, hr⟩ := JG hr
   exact Qj Jq Jv6 Jr JA1 JA2 Jqs [.ro] 0 0 (JFc 0) hl rfl ((e58 0 bz bf b m at1 oz of o h mc k).trans ((Jv7 bz bf b m at1 oz of o h mc hc k).trans hr))
 · cases hr
-- FN delta.Bytes | ref8.Bytes
structure DV where
 (ad au id ve : Int) (h : List PV) (kd : Int) (o : List PV) (wd wu : Int)
def Jly (d : DV) : List Int := Qb d.ad ++ (Qb d.au ++ (Qb d.id ++ (Qb d.ve ++ (Ji d.h ++ ([IntKind.u8.wrap d.kd] ++ (Qp (tx (pu .u8 (opB d.o))) ++ (Qb d.wd ++ Qb d.wu)))))))
def dlB : DV -> List Int := hid Jly
theorem Je8 (d : DV) : dlB d = Jly d := by rw [dlB, hid_eq]
def dOk : DV -> Bool := hid fun d => Jh .u8 d.h && (decide (d.h.length = 32) && (cBy d.o && decide ((opB d.o).length <= 65535)))
theorem W5 {d : DV} : dOk d = true ↔ Jh .u8 d.h = true /\ d.h.length = 32 /\ cBy d.o = true /\ (opB d.o).length <= 65535 := by
 rw [dOk, hid_eq]; simp only [Bool.and_eq_true, decide_eq_true_eq]
theorem VO {d : DV} (h : dOk d = true) : (dlB d).length = (opB d.o).length + 83 := by
 obtain ⟨h1, h2, h3, h4⟩ := W5.1 h
 rw [Je8]
 simp only [Jly, List.length_append, GC, Qx, XF, W4, JJ, h2, List.length_cons, List.length_nil]; omega
theorem JgG {d : DV} (h : dOk d = true) : apI (apI (apT (apY (apI (apI (apI (apI [] d.ad) d.au) d.id) d.ve ++ List.take 32 d.h) d.kd) (tx (pu .u8 (opB d.o)))) d.wd) d.wu = pu .u8 (dlB d) := by
 obtain ⟨h1, h2, h3, h4⟩ := W5.1 h
 rw [Je8, List.take_of_length_le (by omega)]
 simp only [XP, ZE, VI, Jly, JU, List.nil_append, List.append_assoc, ← Qc h1]
def Je9 : List PV -> List Ent -> (Res -> Option Res) -> Option Res
 | [.st 73 [.st 45 [.sc (.int .i64 ad), .sc (.int .i64 au)], .sc (.int .i64 id1), .sc (.int .i64 ve), .ar 37 h, .sc (.int .i64 kd), .ro 99 oz of o, .st 45 [.sc (.int .i64 wd), .sc (.int .i64 wu)]]], [], k => bif dOk ⟨ad, au, id1, ve, h, kd, o, wd, wu⟩ then k ⟨.ro 5 false false (pu .u8 (dlB ⟨ad, au, id1, ve, h, kd, o, wd, wu⟩)), [], []⟩ else none
 | _, _, _ => none
def Jtl : Sig := { own := [], run := Je9 }
theorem Jqt (ad au id1 ve : Int) (h : List PV) (kd : Int) (oz of : Bool) (o : List PV) (wd wu : Int) (he : dOk ⟨ad, au, id1, ve, h, kd, o, wd, wu⟩ = true) (k : Res -> Option Res) : Jv4 0 ad au id1 ve h kd oz of o wd wu k = k ⟨.ro 5 false false (pu .u8 (dlB ⟨ad, au, id1, ve, h, kd, o, wd, wu⟩)), [], []⟩ := by
 have hl := VO he
 have hp := JgG he
 obtain ⟨h1, h2, h3, h4⟩ := W5.1 he
 simp only at hl hp h1 h2 h3 h4
 have ht : ∀ l : List PV, ByteArray.mk (Array.mk (Jp l)) = tx l := fun l => rfl
 have hm : List.take 32 h = h := List.take_of_length_le (by omega)
 have l1 : ∀ (L : List PV) (n : Int), (apY L n).length = L.length + 1 := Wz
 have l2 : ∀ (L : List PV) (n : Int), (apI L n).length = L.length + 8 := Vd
 have l3 : ∀ (L : List PV), (apT L (tx (pu .u8 (opB o)))).length = L.length + ((opB o).length + 2) := fun L => by rw [XP]; simp [W4]
 have htp : ∀ l : List Int, List.take l.length (pu .u8 l) = pu .u8 l := fun l => List.take_of_length_le (by simp)
 have hcat : ∀ L : List PV, List.take (L.length + h.length) (L ++ h) = L ++ h := fun L => List.take_of_length_le (by simp)
 rw [hm] at hp
 unfold Jv4
 simp only [ht, hm, List.take_length, htp, List.drop_zero, hcat, W4, JJ]
 refine (Jb (by rw [ZF]; rfl)).trans ((Jb (Q3 (by simp only [l2, List.length_nil]; omega))).trans ((Jb (Q3 (by simp only [l2, List.length_nil]; omega))).trans ((Jb (Q3 (by simp only [l2, List.length_nil]; omega))).trans ?_)))
 refine (Jb (by simp only [Jl, Nat.mul_one, Bool.and_true, decide_eq_true_eq, l2, List.length_nil]; omega)).trans ?_
 refine (Jb (by rw [Q3 (by simp only [List.length_append, l2, List.length_nil]; omega)])).trans ((Jb h3).trans ((Jb (by rw [JO]; rfl)).trans ?_))
 refine (Jb (by rw [Q3 (by simp only [l1, List.length_append, l2, List.length_nil]; omega), Bool.true_and, Nat.ble_eq]; exact h4)).trans ?_
 refine (Jb (Q3 (by rw [l3]; simp only [l1, List.length_append, l2, List.length_nil]; omega))).trans ?_
 refine (Jb (Q3 (by rw [l2, l3]; simp only [l1, List.length_append, l2, List.length_nil]; omega))).trans ?_
 rw [hp]
 try rfl
theorem Jv8 : Jf tau Try.prog 101 Jtl := Jf.mk' fun xs es k res hl hr => by
 change Je9 xs es k = some res at hr
 unfold Je9 at hr
 split at hr
 · rename_i ad au id1 ve h kd oz of o wd wu
   obtain ⟨hc, hr⟩ := JG hr
   exact Qj Jq Jqp Jr Jtj Jtk Jkn [.ro] 0 6 (JAX 0) hl rfl ((JE7 0 ad au id1 ve h kd oz of o wd wu k).trans ((Jqt ad au id1 ve h kd oz of o wd wu hc k).trans hr))
 · cases hr
def Jiv : List PV -> List Ent -> (Res -> Option Res) -> Option Res
 | [.st 73 [.st 45 [.sc (.int .i64 ad), .sc (.int .i64 au)], .sc (.int .i64 id1), .sc (.int .i64 ve), .ar 37 h, .sc (.int .i64 kd), .ro 99 oz of o, .st 45 [.sc (.int .i64 wd), .sc (.int .i64 wu)]]], [], k => bif dOk ⟨ad, au, id1, ve, h, kd, o, wd, wu⟩ then k ⟨.ow 5 16 [] 0 (dlB ⟨ad, au, id1, ve, h, kd, o, wd, wu⟩).length none, [], [.vec false 5 false (pu .u8 (dlB ⟨ad, au, id1, ve, h, kd, o, wd, wu⟩))]⟩ else none
 | _, _, _ => none
def JA5 : Sig := { own := [], run := Jiv }
theorem Jv9 (ad au id1 ve : Int) (h : List PV) (kd : Int) (oz of : Bool) (o : List PV) (wd wu : Int) (he : dOk ⟨ad, au, id1, ve, h, kd, o, wd, wu⟩ = true) (k : Res -> Option Res) : g53 0 ad au id1 ve h kd oz of o wd wu k = k ⟨.ow 5 16 [] 0 (dlB ⟨ad, au, id1, ve, h, kd, o, wd, wu⟩).length none, [], [.vec false 5 false (pu .u8 (dlB ⟨ad, au, id1, ve, h, kd, o, wd, wu⟩))]⟩ := by
 have hl := VO he
 have hp := JgG he
 obtain ⟨h1, h2, h3, h4⟩ := W5.1 he
 simp only at hl hp h1 h2 h3 h4
 have ht : ∀ l : List PV, ByteArray.mk (Array.mk (Jp l)) = tx l := fun l => rfl
 have hm : List.take 32 h = h := List.take_of_length_le (by omega)
 have l1 : ∀ (L : List PV) (n : Int), (apY L n).length = L.length + 1 := Wz
 have l2 : ∀ (L : List PV) (n : Int), (apI L n).length = L.length + 8 := Vd
 have l3 : ∀ (L : List PV), (apT L (tx (pu .u8 (opB o)))).length = L.length + ((opB o).length + 2) := fun L => by rw [XP]; simp [W4]
 have htp : ∀ l : List Int, List.take l.length (pu .u8 l) = pu .u8 l := fun l => List.take_of_length_le (by simp)
 have hcat : ∀ L : List PV, List.take (L.length + h.length) (L ++ h) = L ++ h := fun L => List.take_of_length_le (by simp)
 rw [hm] at hp
 unfold g53
 simp only [ht, hm, List.take_length, htp, List.drop_zero, hcat, W4, JJ]
 refine (Jb (XQ (by simp only [l2, List.length_nil]; omega))).trans ((Jb (XQ (by simp only [l2, List.length_nil]; omega))).trans ((Jb (XQ (by simp only [l2, List.length_nil]; omega))).trans ?_))
 refine (Jb (by simp only [Jl, Nat.mul_one, Bool.and_true, decide_eq_true_eq, l2, List.length_nil]; omega)).trans ?_
 refine (Jb (by rw [show ∀ L : List PV, L.length + h.length = (L ++ h).length from fun L => (List.length_append).symm, XQ (by simp only [List.length_append, l2, List.length_nil]; omega)])).trans ((Jb h3).trans ((Jb (by rw [JO]; rfl)).trans ?_))
 refine (Jb (by rw [XQ (by simp only [l1, List.length_append, l2, List.length_nil]; omega), Bool.true_and, Nat.ble_eq]; exact h4)).trans ?_
 refine (Jb (XQ (by rw [l3]; simp only [l1, List.length_append, l2, List.length_nil]; omega))).trans ?_
 refine (Jb (XQ (by rw [l2, l3]; simp only [l1, List.length_append, l2, List.length_nil]; omega))).trans ?_
 rw [hp]
 rw [JJ]
theorem JA6 : Jf tau Try.prog 53 JA5 := Jf.mk' fun xs es k res hl hr => by
 change Jiv xs es k = some res at hr
 unfold Jiv at hr
 split at hr
 · rename_i ad au id1 ve h kd oz of o wd wu
   obtain ⟨hc, hr⟩ := JG hr
   exact Qj Jq Jv5 Jr JAZ JA0 Jqr [] 0 0 (JE9 0) hl rfl ((e53 0 ad au id1 ve h kd oz of o wd wu k).trans ((Jv9 ad au id1 ve h kd oz of o wd wu hc k).trans hr))
 · cases hr
def JA7 : Fns := F0
theorem Jqu : Ju tau Try.prog JA7 := JB
def Jko : An := (.seq .leaf (.seq (.seq .leaf (.cond (.seq .leaf .leaf) .leaf)) (.seq .leaf .leaf)))
def Jqv (f : Nat) (k0_z k0_f : Bool) (k0 : List PV) (k1_z k1_f : Bool) (k1 : List PV) (k2_z k2_f : Bool) (k2 : List PV) (d : Int) (k : Res -> Option Res) : Option Res := bif decide (d < 0) then k (Res.mk (.tup [.ro 5 true true [], .sc (.bool false)]) [] []) else bif decide (d >= 3) then k (Res.mk (.tup [.ro 5 true true [], .sc (.bool false)]) [] []) else bif decide (0 <= d) && decide (d < zi 3) && true then bif PV.isRo 5 (Jm (PV.st 31 [.ro 5 k0_z k0_f k0, .ro 5 k1_z k1_f k1, .ro 5 k2_z k2_f k2]) [d.toNat]) && true then k (Res.mk (.tup [.ro 5 (Jm (PV.st 31 [.ro 5 k0_z k0_f k0, .ro 5 k1_z k1_f k1, .ro 5 k2_z k2_f k2]) [d.toNat]).nl (Jm (PV.st 31 [.ro 5 k0_z k0_f k0, .ro 5 k1_z k1_f k1, .ro 5 k2_z k2_f k2]) [d.toNat]).fl (Jm (PV.st 31 [.ro 5 k0_z k0_f k0, .ro 5 k1_z k1_f k1, .ro 5 k2_z k2_f k2]) [d.toNat]).els, .sc (.bool true)]) [] []) else none else none
theorem JFe (f : Nat) (k0_z k0_f : Bool) (k0 : List PV) (k1_z k1_f : Bool) (k1 : List PV) (k2_z k2_f : Bool) (k2 : List PV) (d : Int) (k : Res -> Option Res) : JN tau JA7 Try.f102 (Try.f102.body.get!) Jko [.ro, .ro] 0 [.st 31 [.ro 5 k0_z k0_f k0, .ro 5 k1_z k1_f k1, .ro 5 k2_z k2_f k2], .sc (.int .i64 d)] [] k = Jqv f k0_z k0_f k0 k1_z k1_f k1 k2_z k2_f k2 d k := by kernel_rfl
theorem JA8 (f : Nat) : Je (Try.f102.body.get!) Jko = [] := by kernel_rfl
theorem JA9 (f : Nat) : ∀ q ∈ Je (Try.f102.body.get!) Jko, q.Ok tau Try.prog 0 := by
 rw [JA8 f]; intro q hq; cases hq
theorem Jtm : Try.prog.funcs[102]? = some Try.f102 := by kernel_rfl
theorem Jtn : Try.f102.body = some (Try.f102.body.get!) := by kernel_rfl
theorem JnG : Enters Try.prog 102 := enters_of Jtm (by kernel_rfl) Jtn
def Jiw : List PV -> List Ent -> (Res -> Option Res) -> Option Res
 | [.st 31 [.ro 5 k0_z k0_f k0, .ro 5 k1_z k1_f k1, .ro 5 k2_z k2_f k2], .sc (.int .i64 d)], [], k => Jqv 0 k0_z k0_f k0 k1_z k1_f k1 k2_z k2_f k2 d k
 | _, _, _ => none
def JFf : Sig := { own := [], run := Jiw }
theorem JBa : Jf tau Try.prog 102 JFf := JP Jq Jqu Jr Jtm Jtn Jko [.ro, .ro] 0 [] Jiw (JA9 0) fun xs es k res hr => by
 unfold Jiw at hr
 split at hr
 · exact ⟨rfl, 0, (JFe 0 _ _ _ _ _ _ _ _ _ _  _).trans hr⟩
 · cases hr
-- FN sign.key
def kIn : Int -> Bool := hid fun d => QR d 2
theorem Jau (d : Int) : kIn d = QR d 2 := by rw [kIn, hid_eq]
def Jfa : List PV -> List Ent -> (Res -> Option Res) -> Option Res
 | [.st 31 [.ro 5 z0 f0 k0, .ro 5 z1 f1 k1, .ro 5 z2 f2 k2], .sc (.int .i64 d)], [], k =>
  k ⟨.tup [.ro 5 (JuK ⟨[.ro 5 z0 f0 k0, .ro 5 z1 f1 k1, .ro 5 z2 f2 k2], d⟩) (JuL ⟨[.ro 5 z0 f0 k0, .ro 5 z1 f1 k1, .ro 5 z2 f2 k2], d⟩) (QS ⟨[.ro 5 z0 f0 k0, .ro 5 z1 f1 k1, .ro 5 z2 f2 k2], d⟩), .sc (.bool (kIn d))], [], []⟩
 | _, _, _ => none
def Jkp : Sig := { own := [], run := Jfa }
theorem Jix : Jf tau Try.prog 102 Jkp := JBa.of fun xs es k res hr => by
 change Jfa xs es k = some res at hr
 unfold Jfa at hr
 split at hr
 · rename_i z0 f0 k0 z1 f1 k1 z2 f2 k2 d
   show Jqv 0 z0 f0 k0 z1 f1 k1 z2 f2 k2 d k = some res
   rw [Jpu, Jpv, Jbq, Jau] at hr
   unfold Jqv
   by_cases h1 : 0 <= d
   · refine (Jv (by simp; omega)).trans ?_
     by_cases h2 : d <= 2
     · refine (Jv (by simp; omega)).trans ?_
       refine (Jb (by simp [zi]; omega)).trans ?_
       have hi : QR d 2 = true := by simp [QR]; omega
       have hk : Xm [.ro 5 z0 f0 k0, .ro 5 z1 f1 k1, .ro 5 z2 f2 k2] d = Jm (PV.st 31 [.ro 5 z0 f0 k0, .ro 5 z1 f1 k1, .ro 5 z2 f2 k2]) [d.toNat] := by unfold Xm; rw [hi]; rfl
       simp only [hk, hi] at hr
       refine (Jb ?_).trans hr
       have : d = 0 ∨ d = 1 ∨ d = 2 := by omega
       rcases this with rfl | rfl | rfl <;> rfl
     · refine (Jb (by simp; omega)).trans ?_
       have hi : QR d 2 = false := by simp [QR]; omega
       have hk : Xm [.ro 5 z0 f0 k0, .ro 5 z1 f1 k1, .ro 5 z2 f2 k2] d = .ro 5 true true [] := by unfold Xm; rw [hi]; rfl
       simp only [hk, hi] at hr
       exact hr
   · refine (Jb (by simp; omega)).trans ?_
     have hi : QR d 2 = false := by simp [QR]; omega
     have hk : Xm [.ro 5 z0 f0 k0, .ro 5 z1 f1 k1, .ro 5 z2 f2 k2] d = .ro 5 true true [] := by unfold Xm; rw [hi]; rfl
     simp only [hk, hi] at hr
     exact hr
 · cases hr
def F46 : Fns := JC 102 Jkp (JC 101 Jtl (JC 80 JpS (F0)))
theorem Jwa : Ju tau Try.prog F46 := (((JB).add JmT Jvh).add Jv8 JAY).add Jix JnG
def Jqw : An := (.seq .leaf (.seq .leaf (.seq .leaf (.seq .leaf .leaf))))
def g46 (f : Nat) (k0_z k0_f : Bool) (k0 : List PV) (k1_z k1_f : Bool) (k1 : List PV) (k2_z k2_f : Bool) (k2 : List PV) (y0 y1 d_Id y2 : Int) (y3 : List PV) (y4 : Int) (y5 y6 : Bool) (d_Op : List PV) (y7 y8 : Int) (k : Res -> Option Res) : Option Res := bif dOk (DV.mk y0 y1 d_Id y2 y3 y4 d_Op y7 y8) then bif Jh IntKind.u8 (QS (K3.mk [.ro 5 k0_z k0_f k0, .ro 5 k1_z k1_f k1, .ro 5 k2_z k2_f k2] y0)) && decide ((QS (K3.mk [.ro 5 k0_z k0_f k0, .ro 5 k1_z k1_f k1, .ro 5 k2_z k2_f k2] y0)).length <= 1000000000) && (Jh IntKind.u8 (Jo [.ro 5 false false (pu IntKind.u8 (dlB (DV.mk y0 y1 d_Id y2 y3 y4 d_Op y7 y8)))]) && decide ((Jo [.ro 5 false false (pu IntKind.u8 (dlB (DV.mk y0 y1 d_Id y2 y3 y4 d_Op y7 y8)))]).length <= 1000000000)) && true then k (Res.mk (.st 77 [.ro 5 false false (pu IntKind.u8 (dlB (DV.mk y0 y1 d_Id y2 y3 y4 d_Op y7 y8))), .ar 37 (pu IntKind.u8 (Q9 (Ji (QS (K3.mk [.ro 5 k0_z k0_f k0, .ro 5 k1_z k1_f k1, .ro 5 k2_z k2_f k2] y0))) (Ji (Jo [.ro 5 false false (pu IntKind.u8 (dlB (DV.mk y0 y1 d_Id y2 y3 y4 d_Op y7 y8)))]))))]) [] []) else none else none
theorem e46 (f : Nat) (k0_z k0_f : Bool) (k0 : List PV) (k1_z k1_f : Bool) (k1 : List PV) (k2_z k2_f : Bool) (k2 : List PV) (y0 y1 d_Id y2 : Int) (y3 : List PV) (y4 : Int) (y5 y6 : Bool) (d_Op : List PV) (y7 y8 : Int) (k : Res -> Option Res) : JN tau F46 Try.f46 (Try.f46.body.get!) Jqw [.ro] 0 [.st 31 [.ro 5 k0_z k0_f k0, .ro 5 k1_z k1_f k1, .ro 5 k2_z k2_f k2], .st 73 [.st 45 [.sc (.int .i64 y0), .sc (.int .i64 y1)], .sc (.int .i64 d_Id), .sc (.int .i64 y2), .ar 37 y3, .sc (.int .i64 y4), .ro 99 y5 y6 d_Op, .st 45 [.sc (.int .i64 y7), .sc (.int .i64 y8)]]] [] k = g46 f k0_z k0_f k0 k1_z k1_f k1 k2_z k2_f k2 y0 y1 d_Id y2 y3 y4 y5 y6 d_Op y7 y8 k := by kernel_rfl
theorem JFg (f : Nat) : Je (Try.f46.body.get!) Jqw = [] := by kernel_rfl
theorem JFh (f : Nat) : ∀ q ∈ Je (Try.f46.body.get!) Jqw, q.Ok tau Try.prog 0 := by
 rw [JFg f]; intro q hq; cases hq
theorem JBb : Try.prog.funcs[46]? = some Try.f46 := by kernel_rfl
theorem JBc : Try.f46.body = some (Try.f46.body.get!) := by kernel_rfl
theorem JBd : Enters Try.prog 46 := enters_of JBb (by kernel_rfl) JBc
def JnH : List PV -> List Ent -> (Res -> Option Res) -> Option Res
 | [.st 31 [.ro 5 k0_z k0_f k0, .ro 5 k1_z k1_f k1, .ro 5 k2_z k2_f k2], .st 73 [.st 45 [.sc (.int .i64 y0), .sc (.int .i64 y1)], .sc (.int .i64 d_Id), .sc (.int .i64 y2), .ar 37 y3, .sc (.int .i64 y4), .ro 99 y5 y6 d_Op, .st 45 [.sc (.int .i64 y7), .sc (.int .i64 y8)]]], [], k => g46 0 k0_z k0_f k0 k1_z k1_f k1 k2_z k2_f k2 y0 y1 d_Id y2 y3 y4 y5 y6 d_Op y7 y8 k
 | _, _, _ => none
def s46 : Sig := { own := [], run := JnH }
theorem JFi : Jf tau Try.prog 46 s46 := JP Jq Jwa Jr JBb JBc Jqw [.ro] 0 [] JnH (JFh 0) fun xs es k res hr => by
 unfold JnH at hr
 split at hr
 · exact ⟨rfl, 0, (e46 0 _ _ _ _ _ _ _ _ _ _ _ _ _ _ _ _ _ _ _ _  _).trans hr⟩
 · cases hr
def JBe : Fns := F0
theorem Jqx : Ju tau Try.prog JBe := JB
def Jkq : An := (.seq .leaf (.seq (.seq .leaf (.cond (.seq .leaf .leaf) .leaf)) (.seq .leaf .leaf)))
def JBf (f : Nat) (s_z s_f : Bool) (s : List PV) (k : Res -> Option Res) : Option Res := bif s_z then k (Res.mk (.ro 99 true true []) [] []) else bif Jl (0 + s.length) 32 && true then k (Res.mk (.ro 99 false false (List.take (0 + s.length) s)) [] []) else none
theorem JFj (f : Nat) (s_z s_f : Bool) (s : List PV) (k : Res -> Option Res) : JN tau JBe Try.f161 (Try.f161.body.get!) Jkq [.ro] 0 [.ro 99 s_z s_f s] [] k = JBf f s_z s_f s k := by kernel_rfl
theorem JBg (f : Nat) : Je (Try.f161.body.get!) Jkq = [] := by kernel_rfl
theorem JBh (f : Nat) : ∀ q ∈ Je (Try.f161.body.get!) Jkq, q.Ok tau Try.prog 0 := by
 rw [JBg f]; intro q hq; cases hq
theorem Jto : Try.prog.funcs[161]? = some Try.f161 := by kernel_rfl
theorem Jtp : Try.f161.body = some (Try.f161.body.get!) := by kernel_rfl
theorem JBi : Enters Try.prog 161 := enters_of Jto (by kernel_rfl) Jtp
def Jiy : List PV -> List Ent -> (Res -> Option Res) -> Option Res
 | [.ro 99 s_z s_f s], [], k => JBf 0 s_z s_f s k
 | _, _, _ => none
def JBj : Sig := { own := [], run := Jiy }
theorem JBk : Jf tau Try.prog 161 JBj := JP Jq Jqx Jr Jto Jtp Jkq [.ro] 0 [] Jiy (JBh 0) fun xs es k res hr => by
 unfold Jiy at hr
 split at hr
 · exact ⟨rfl, 0, (JFj 0 _ _ _  _).trans hr⟩
 · cases hr
def JcV : Nat := 50
def JnI : Fns := JC 161 JBj (JC 160 Jnw (JC 135 Jmn (JC 134 Jur (JC 133 Juv (JC 132 Juu (JC 78 s78 (JC 76 s76 (F0))))))))
theorem Jkr : Ju tau Try.prog JnI := ((((((((JB).add JxE JxD).add JyH JyG).add JrW JrV).add Jr0 JrZ).add JrN JrM).add Jmo Jr3).add Jnx Jtd).add JBk JBi
def Jav : Code := Qu (Try.f143.body.get!) [1, 1, 1, 1, 1, 1, 0, 1, 0, 0]
def W6 : Nm := [(4, .any), (5, .any), (6, .any), (7, .any), (9, .own), (25, .any), (26, .any)]
def XI : Nm := [(4, .any), (9, .any)]
def Jcr : An := (.seq .leaf (.seq (.cond .leaf .leaf) (.seq (.block none .leaf) .leaf)))
def Jks (r0 : QJ) : An := (.seq .leaf (.seq .leaf (.seq .leaf (.seq .leaf (.seq (.seq .leaf (.cond (.seq .leaf .leaf) .leaf)) (.seq .leaf (.seq (.seq .leaf (.block none (.sum W6 JcV r0))) (.seq .leaf (.seq (.seq .leaf (.cond .leaf .leaf)) (.seq (.seq .leaf (.cond (.seq .leaf .leaf) .leaf)) (.seq .leaf .leaf)))))))))))
def ZL (f : Nat) (rc : Nat -> Int -> Int -> Bool -> Bool -> List PV -> Int -> Bool -> List PV -> Option Res) (k0 : Nat -> Bool -> Bool -> List PV -> Int -> Bool -> List PV -> Option Res) (v0 : Nat) (v1 v2 : Int) (v3 v4 : Bool) (v5 : List PV) (v6 : Int) (v7 : Bool) (v8 : List PV) : Option Res := bif decide (v2 < v1) then bif (!v3 || v4) && true && byB v5 then bif (!v3 || v4) && true && byB (Jc 1 (RS.mk v5 v6)).b then bif (!v3 || v4) && byB (Jc 8 (Jc 1 (RS.mk v5 v6))).b then bif Jl (v0 + 1) 32 && true then rc (v0 + 1) v1 (IntKind.i64.wrap (v2 + 1)) v3 v4 ((J9 (Jc 8 (Jc 1 (RS.mk v5 v6)))).b) ((J9 (Jc 8 (Jc 1 (RS.mk v5 v6)))).e) (v7 && false) (List.take v0 v8 ++ [.st 99 [.sc (.int .i64 (Jw 1 (RS.mk v5 v6))), .sc (.int .i64 (Jw 8 (Jc 1 (RS.mk v5 v6)))), .sc (.string (JS (Jc 8 (Jc 1 (RS.mk v5 v6)))))]]) else none else none else none else none else k0 v0 v3 v4 v5 v6 v7 v8
def WA (f : Nat) (k0 : Nat -> Bool -> Bool -> List PV -> Int -> Bool -> List PV -> Option Res) : Nat -> Nat -> Int -> Int -> Bool -> Bool -> List PV -> Int -> Bool -> List PV -> Option Res
 | 0, _, _, _, _, _, _, _, _, _ => none
 | n + 1, v0, v1, v2, v3, v4, v5, v6, v7, v8 => ZL f (WA f k0 n) k0 v0 v1 v2 v3 v4 v5 v6 v7 v8
theorem JnJ (f : Nat) (k : Kont) (n v0 : Nat) (v1 v2 : Int) (v3 v4 : Bool) (v5 : List PV) (v6 : Int) (v7 : Bool) (v8 : List PV) : Jn tau 0 W6 (fun s k => ev tau JnI 0 0 Jav (Jcr ) s k) (n + 1) (Jd W6 JcV [.ptr 816 [], PV.fn (Fn.func 133) [.ptr 816 []] [], PV.fn (Fn.func 132) [.ptr 816 []] [], PV.fn (Fn.func 135) [.ptr 816 []] [], .ow 99 817 [] 0 v0 none, .sc (.int .i64 v1), .sc (.int .i64 v2)] [(816, .box false 186 (PV.st 186 [.ro 5 v3 v4 v5, .sc (.int .i64 v6)])), (817, .vec false 99 v7 v8)]) (Jt tau 0 XI k) = ZL f (fun v0 v1 v2 v3 v4 v5 v6 v7 v8 => Jn tau 0 W6 (fun s k => ev tau JnI 0 0 Jav (Jcr ) s k) n (Jd W6 JcV [.ptr 816 [], PV.fn (Fn.func 133) [.ptr 816 []] [], PV.fn (Fn.func 132) [.ptr 816 []] [], PV.fn (Fn.func 135) [.ptr 816 []] [], .ow 99 817 [] 0 v0 none, .sc (.int .i64 v1), .sc (.int .i64 v2)] [(816, .box false 186 (PV.st 186 [.ro 5 v3 v4 v5, .sc (.int .i64 v6)])), (817, .vec false 99 v7 v8)]) (Jt tau 0 XI k)) (fun x0 x1 x2 x3 x4 x5 x6 => k (Ex.exit 0) (Jd XI JcV [.ptr 816 [], .ow 99 817 [] 0 x0 none] [(816, .box false 186 (PV.st 186 [.ro 5 x1 x2 x3, .sc (.int .i64 x4)])), (817, .vec false 99 x5 x6)])) v0 v1 v2 v3 v4 v5 v6 v7 v8 := by kernel_rfl
theorem JgH (f : Nat) (k : Kont) : ∀ (n v0 : Nat) (v1 v2 : Int) (v3 v4 : Bool) (v5 : List PV) (v6 : Int) (v7 : Bool) (v8 : List PV), Jn tau 0 W6 (fun s k => ev tau JnI 0 0 Jav (Jcr ) s k) n (Jd W6 JcV [.ptr 816 [], PV.fn (Fn.func 133) [.ptr 816 []] [], PV.fn (Fn.func 132) [.ptr 816 []] [], PV.fn (Fn.func 135) [.ptr 816 []] [], .ow 99 817 [] 0 v0 none, .sc (.int .i64 v1), .sc (.int .i64 v2)] [(816, .box false 186 (PV.st 186 [.ro 5 v3 v4 v5, .sc (.int .i64 v6)])), (817, .vec false 99 v7 v8)]) (Jt tau 0 XI k) = WA f (fun x0 x1 x2 x3 x4 x5 x6 => k (Ex.exit 0) (Jd XI JcV [.ptr 816 [], .ow 99 817 [] 0 x0 none] [(816, .box false 186 (PV.st 186 [.ro 5 x1 x2 x3, .sc (.int .i64 x4)])), (817, .vec false 99 x5 x6)])) n v0 v1 v2 v3 v4 v5 v6 v7 v8 | 0, _, _, _, _, _, _, _, _, _ => rfl | n + 1, v0, v1, v2, v3, v4, v5, v6, v7, v8 => (JnJ f k n v0 v1 v2 v3 v4 v5 v6 v7 v8).trans (congrArg (fun r => ZL f r (fun x0 x1 x2 x3 x4 x5 x6 => k (Ex.exit 0) (Jd XI JcV [.ptr 816 [], .ow 99 817 [] 0 x0 none] [(816, .box false 186 (PV.st 186 [.ro 5 x1 x2 x3, .sc (.int .i64 x4)])), (817, .vec false 99 x5 x6)])) v0 v1 v2 v3 v4 v5 v6 v7 v8) (by funext v0 v1 v2 v3 v4 v5 v6 v7 v8; exact JgH f k n v0 v1 v2 v3 v4 v5 v6 v7 v8))
def VP (f : Nat) : List PV -> List (Nat × Ent) -> Kont -> Option Res
 | [.ptr 816 [], PV.fn (Fn.func 133) [.ptr 816 []] [], PV.fn (Fn.func 132) [.ptr 816 []] [], PV.fn (Fn.func 135) [.ptr 816 []] [], .ow 99 817 [] 0 v0 none, .sc (.int .i64 v1),
 PV.sc
  (Value.int IntKind.i64
   v2)], [(816, .box false 186 (PV.st 186 [.ro 5 v3 v4 v5, .sc (.int .i64 v6)])),
 (817,
  Ent.vec false 99 v7
   v8)], k => WA f (fun x0 x1 x2 x3 x4 x5 x6 => k (Ex.exit
 0) (Jd XI JcV [.ptr 816 [],
 PV.ow 99 817 [] 0 x0 none] [(816, .box false 186 (PV.st 186 [.ro 5 x1 x2 x3, .sc (.int .i64 x4)])), (817, .vec false 99 x5 x6)])) f v0 v1 v2 v3 v4 v5 v6 v7 v8
 | _, _, _ => none
theorem Jqy (f : Nat) : Je Jav Jcr = [] := by kernel_rfl
theorem Jwb (f : Nat) : (Item.l Jav W6 JcV (VP f)).Ok tau Try.prog 0 := JI Jq Jkr Jr (x := Jcr) (nm2 := XI) (Js _ _ (by rw [Jqy f]; intro q hq; cases hq)) fun vs hp k res hr => by
 unfold VP at hr
 split at hr
 · exact ⟨f, 0, (JgH f _ f _ _ _ _ _ _ _ _ _ ).trans hr⟩
 · cases hr
def Jwc (f : Nat) (b_z b_f : Bool) (b : List PV) (k : Res -> Option Res) : Option Res := bif slB b_z b then bif (!b_z || b_z) && true && byB b then bif decide (Jw 1 (RS.mk b 0) > 40) then bif (Jc 1 (RS.mk b 0)).e == 0 then WA f (fun x0_0 x1_0 x2_0 x3_0 x4_0 x5_0 x6_0 => bif x4_0 == 0 then bif decide (zi x3_0.length > 0) then k (Res.mk (.tup [.ro 99 true true [], .sc (.int .i64 9)]) [] []) else bif x4_0 == 0 then bif cOk (List.take x0_0 x6_0) then bif ckO (List.take x0_0 x6_0) != 0 then k (Res.mk (.tup [.ro 99 true true [], .sc (.int .i64 (ckO (List.take x0_0 x6_0)))]) [] []) else bif (Ent.vec false 99 x5_0 x6_0).nil then k (Res.mk (.tup [.ro 99 true true [], .sc (.int .i64 0)]) [] []) else bif Jl (0 + (List.take x0_0 x6_0).length) 32 && true then k (Res.mk (.tup [.ro 99 false false (List.take (0 + (List.take x0_0 x6_0).length) (List.take x0_0 x6_0)), .sc (.int .i64 0)]) [] []) else none else none else bif x4_0 != 0 then k (Res.mk (.tup [.ro 99 true true [], .sc (.int .i64 x4_0)]) [] []) else bif (Ent.vec false 99 x5_0 x6_0).nil then k (Res.mk (.tup [.ro 99 true true [], .sc (.int .i64 0)]) [] []) else bif Jl (0 + (List.take x0_0 x6_0).length) 32 && true then k (Res.mk (.tup [.ro 99 false false (List.take (0 + (List.take x0_0 x6_0).length) (List.take x0_0 x6_0)), .sc (.int .i64 0)]) [] []) else none else bif x4_0 == 0 then bif cOk (List.take x0_0 x6_0) then bif ckO (List.take x0_0 x6_0) != 0 then k (Res.mk (.tup [.ro 99 true true [], .sc (.int .i64 (ckO (List.take x0_0 x6_0)))]) [] []) else bif (Ent.vec false 99 x5_0 x6_0).nil then k (Res.mk (.tup [.ro 99 true true [], .sc (.int .i64 0)]) [] []) else bif Jl (0 + (List.take x0_0 x6_0).length) 32 && true then k (Res.mk (.tup [.ro 99 false false (List.take (0 + (List.take x0_0 x6_0).length) (List.take x0_0 x6_0)), .sc (.int .i64 0)]) [] []) else none else none else bif x4_0 != 0 then k (Res.mk (.tup [.ro 99 true true [], .sc (.int .i64 x4_0)]) [] []) else bif (Ent.vec false 99 x5_0 x6_0).nil then k (Res.mk (.tup [.ro 99 true true [], .sc (.int .i64 0)]) [] []) else bif Jl (0 + (List.take x0_0 x6_0).length) 32 && true then k (Res.mk (.tup [.ro 99 false false (List.take (0 + (List.take x0_0 x6_0).length) (List.take x0_0 x6_0)), .sc (.int .i64 0)]) [] []) else none) f (0) (0) (0) b_z b_z ((Jc 1 (RS.mk b 0)).b) (4) true ([]) else WA f (fun x0_1 x1_1 x2_1 x3_1 x4_1 x5_1 x6_1 => bif x4_1 == 0 then bif decide (zi x3_1.length > 0) then k (Res.mk (.tup [.ro 99 true true [], .sc (.int .i64 9)]) [] []) else bif x4_1 == 0 then bif cOk (List.take x0_1 x6_1) then bif ckO (List.take x0_1 x6_1) != 0 then k (Res.mk (.tup [.ro 99 true true [], .sc (.int .i64 (ckO (List.take x0_1 x6_1)))]) [] []) else bif (Ent.vec false 99 x5_1 x6_1).nil then k (Res.mk (.tup [.ro 99 true true [], .sc (.int .i64 0)]) [] []) else bif Jl (0 + (List.take x0_1 x6_1).length) 32 && true then k (Res.mk (.tup [.ro 99 false false (List.take (0 + (List.take x0_1 x6_1).length) (List.take x0_1 x6_1)), .sc (.int .i64 0)]) [] []) else none else none else bif x4_1 != 0 then k (Res.mk (.tup [.ro 99 true true [], .sc (.int .i64 x4_1)]) [] []) else bif (Ent.vec false 99 x5_1 x6_1).nil then k (Res.mk (.tup [.ro 99 true true [], .sc (.int .i64 0)]) [] []) else bif Jl (0 + (List.take x0_1 x6_1).length) 32 && true then k (Res.mk (.tup [.ro 99 false false (List.take (0 + (List.take x0_1 x6_1).length) (List.take x0_1 x6_1)), .sc (.int .i64 0)]) [] []) else none else bif x4_1 == 0 then bif cOk (List.take x0_1 x6_1) then bif ckO (List.take x0_1 x6_1) != 0 then k (Res.mk (.tup [.ro 99 true true [], .sc (.int .i64 (ckO (List.take x0_1 x6_1)))]) [] []) else bif (Ent.vec false 99 x5_1 x6_1).nil then k (Res.mk (.tup [.ro 99 true true [], .sc (.int .i64 0)]) [] []) else bif Jl (0 + (List.take x0_1 x6_1).length) 32 && true then k (Res.mk (.tup [.ro 99 false false (List.take (0 + (List.take x0_1 x6_1).length) (List.take x0_1 x6_1)), .sc (.int .i64 0)]) [] []) else none else none else bif x4_1 != 0 then k (Res.mk (.tup [.ro 99 true true [], .sc (.int .i64 x4_1)]) [] []) else bif (Ent.vec false 99 x5_1 x6_1).nil then k (Res.mk (.tup [.ro 99 true true [], .sc (.int .i64 0)]) [] []) else bif Jl (0 + (List.take x0_1 x6_1).length) 32 && true then k (Res.mk (.tup [.ro 99 false false (List.take (0 + (List.take x0_1 x6_1).length) (List.take x0_1 x6_1)), .sc (.int .i64 0)]) [] []) else none) f (0) (0) (0) b_z b_z ((Jc 1 (RS.mk b 0)).b) ((Jc 1 (RS.mk b 0)).e) true ([]) else WA f (fun x0_2 x1_2 x2_2 x3_2 x4_2 x5_2 x6_2 => bif x4_2 == 0 then bif decide (zi x3_2.length > 0) then k (Res.mk (.tup [.ro 99 true true [], .sc (.int .i64 9)]) [] []) else bif x4_2 == 0 then bif cOk (List.take x0_2 x6_2) then bif ckO (List.take x0_2 x6_2) != 0 then k (Res.mk (.tup [.ro 99 true true [], .sc (.int .i64 (ckO (List.take x0_2 x6_2)))]) [] []) else bif (Ent.vec false 99 x5_2 x6_2).nil then k (Res.mk (.tup [.ro 99 true true [], .sc (.int .i64 0)]) [] []) else bif Jl (0 + (List.take x0_2 x6_2).length) 32 && true then k (Res.mk (.tup [.ro 99 false false (List.take (0 + (List.take x0_2 x6_2).length) (List.take x0_2 x6_2)), .sc (.int .i64 0)]) [] []) else none else none else bif x4_2 != 0 then k (Res.mk (.tup [.ro 99 true true [], .sc (.int .i64 x4_2)]) [] []) else bif (Ent.vec false 99 x5_2 x6_2).nil then k (Res.mk (.tup [.ro 99 true true [], .sc (.int .i64 0)]) [] []) else bif Jl (0 + (List.take x0_2 x6_2).length) 32 && true then k (Res.mk (.tup [.ro 99 false false (List.take (0 + (List.take x0_2 x6_2).length) (List.take x0_2 x6_2)), .sc (.int .i64 0)]) [] []) else none else bif x4_2 == 0 then bif cOk (List.take x0_2 x6_2) then bif ckO (List.take x0_2 x6_2) != 0 then k (Res.mk (.tup [.ro 99 true true [], .sc (.int .i64 (ckO (List.take x0_2 x6_2)))]) [] []) else bif (Ent.vec false 99 x5_2 x6_2).nil then k (Res.mk (.tup [.ro 99 true true [], .sc (.int .i64 0)]) [] []) else bif Jl (0 + (List.take x0_2 x6_2).length) 32 && true then k (Res.mk (.tup [.ro 99 false false (List.take (0 + (List.take x0_2 x6_2).length) (List.take x0_2 x6_2)), .sc (.int .i64 0)]) [] []) else none else none else bif x4_2 != 0 then k (Res.mk (.tup [.ro 99 true true [], .sc (.int .i64 x4_2)]) [] []) else bif (Ent.vec false 99 x5_2 x6_2).nil then k (Res.mk (.tup [.ro 99 true true [], .sc (.int .i64 0)]) [] []) else bif Jl (0 + (List.take x0_2 x6_2).length) 32 && true then k (Res.mk (.tup [.ro 99 false false (List.take (0 + (List.take x0_2 x6_2).length) (List.take x0_2 x6_2)), .sc (.int .i64 0)]) [] []) else none) f (0) (Jw 1 (RS.mk b 0)) (0) b_z b_z ((Jc 1 (RS.mk b 0)).b) ((Jc 1 (RS.mk b 0)).e) true ([]) else none else none
theorem JFk (f : Nat) (b_z b_f : Bool) (b : List PV) (k : Res -> Option Res) : JN tau JnI Try.f143 (Try.f143.body.get!) (Jks (VP f)) [.ro, .ro] 0 [.ro 5 b_z b_f b] [] k = Jwc f b_z b_f b k := by kernel_rfl
theorem JBl (f : Nat) : Je (Try.f143.body.get!) (Jks (VP f)) = [.l Jav W6 JcV (VP f)] := by kernel_rfl
theorem JBm (f : Nat) : ∀ q ∈ Je (Try.f143.body.get!) (Jks (VP f)), q.Ok tau Try.prog 0 := by
 rw [JBl f]; simp only [List.forall_mem_cons, List.not_mem_nil, false_implies, implies_true, and_true]; exact Jwb f
theorem Jtq : Try.prog.funcs[143]? = some Try.f143 := by kernel_rfl
theorem Jtr : Try.f143.body = some (Try.f143.body.get!) := by kernel_rfl
theorem JBn : Enters Try.prog 143 := enters_of Jtq (by kernel_rfl) Jtr
def F82 : Fns := F0
theorem Jwd : Ju tau Try.prog F82 := JB
def Jqz : An := (.seq .leaf (.seq .leaf .leaf))
def g82 (f : Nat) (b_z b_f : Bool) (b : List PV) (k : Res -> Option Res) : Option Res := k (Res.mk (.ptr 16 []) [] [.box false 138 (PV.st 138 [.ro 5 b_z b_f b, .sc (.int .i64 0), .sc (.int .i64 0)])])
theorem e82 (f : Nat) (b_z b_f : Bool) (b : List PV) (k : Res -> Option Res) : JN tau F82 Try.f82 (Try.f82.body.get!) Jqz [.any] 0 [.ro 5 b_z b_f b] [] k = g82 f b_z b_f b k := by kernel_rfl
theorem JFl (f : Nat) : Je (Try.f82.body.get!) Jqz = [] := by kernel_rfl
theorem JFm (f : Nat) : ∀ q ∈ Je (Try.f82.body.get!) Jqz, q.Ok tau Try.prog 0 := by
 rw [JFl f]; intro q hq; cases hq
theorem JBo : Try.prog.funcs[82]? = some Try.f82 := by kernel_rfl
theorem JBp : Try.f82.body = some (Try.f82.body.get!) := by kernel_rfl
theorem JBq : Enters Try.prog 82 := enters_of JBo (by kernel_rfl) JBp
def JnK : List PV -> List Ent -> (Res -> Option Res) -> Option Res
 | [.ro 5 b_z b_f b], [], k => g82 0 b_z b_f b k
 | _, _, _ => none
def s82 : Sig := { own := [], run := JnK }
theorem JBr : Jf tau Try.prog 82 s82 := JP Jq Jwd Jr JBo JBp Jqz [.any] 0 [] JnK (JFm 0) fun xs es k res hr => by
 unfold JnK at hr
 split at hr
 · exact ⟨rfl, 0, (e82 0 _ _ _  _).trans hr⟩
 · cases hr
def F85 : Fns := F0
theorem Jwe : Ju tau Try.prog F85 := JB
def JqA : An := (.seq .leaf (.cond .leaf .leaf))
def g85 (f : Nat) (y0 y1 : Bool) (r_B : List PV) (r_P y2 e : Int) (k : Res -> Option Res) : Option Res := bif y2 == 0 then k (Res.mk (.tup []) [.box false 138 (PV.st 138 [.ro 5 y0 y1 r_B, .sc (.int .i64 r_P), .sc (.int .i64 e)])] []) else k (Res.mk (.tup []) [.box false 138 (PV.st 138 [.ro 5 y0 y1 r_B, .sc (.int .i64 r_P), .sc (.int .i64 y2)])] [])
theorem e85 (f : Nat) (y0 y1 : Bool) (r_B : List PV) (r_P y2 e : Int) (k : Res -> Option Res) : JN tau F85 Try.f85 (Try.f85.body.get!) JqA [] 0 [.ptr 0 [], .sc (.int .i64 e)] [.box false 138 (.st 138 [.ro 5 y0 y1 r_B, .sc (.int .i64 r_P), .sc (.int .i64 y2)])] k = g85 f y0 y1 r_B r_P y2 e k := by kernel_rfl
theorem JFn (f : Nat) : Je (Try.f85.body.get!) JqA = [] := by kernel_rfl
theorem JFo (f : Nat) : ∀ q ∈ Je (Try.f85.body.get!) JqA, q.Ok tau Try.prog 1 := by
 rw [JFn f]; intro q hq; cases hq
theorem JBs : Try.prog.funcs[85]? = some Try.f85 := by kernel_rfl
theorem JBt : Try.f85.body = some (Try.f85.body.get!) := by kernel_rfl
theorem JFp : Enters Try.prog 85 := enters_of JBs (by kernel_rfl) JBt
def JnL : List PV -> List Ent -> (Res -> Option Res) -> Option Res
 | [.ptr 0 [], .sc (.int .i64 e)], [.box false 138 (.st 138 [.ro 5 y0 y1 r_B, .sc (.int .i64 r_P), .sc (.int .i64 y2)])], k => g85 0 y0 y1 r_B r_P y2 e k
 | _, _, _ => none
def s85 : Sig := { own := [], run := JnL }
theorem JFq : Jf tau Try.prog 85 s85 := JP Jq Jwe Jr JBs JBt JqA [] 1 [] JnL (JFo 0) fun xs es k res hr => by
 unfold JnL at hr
 split at hr
 · exact ⟨rfl, 0, (e85 0 _ _ _ _ _ _  _).trans hr⟩
 · cases hr
def F88 : Fns := F0
theorem Jwf : Ju tau Try.prog F88 := JB
def JqB : An := (.seq .leaf (.seq (.seq .leaf (.cond (.seq .leaf .leaf) .leaf)) (.seq .leaf .leaf)))
def g88 (f : Nat) (y0 y1 : Bool) (r_B : List PV) (r_P y2 : Int) (k : Res -> Option Res) : Option Res := bif y2 == 0 then bif decide (r_P < zi r_B.length) then k (Res.mk (.sc (.int .i64 9)) [.box false 138 (PV.st 138 [.ro 5 y0 y1 r_B, .sc (.int .i64 r_P), .sc (.int .i64 y2)])] []) else k (Res.mk (.sc (.int .i64 y2)) [.box false 138 (PV.st 138 [.ro 5 y0 y1 r_B, .sc (.int .i64 r_P), .sc (.int .i64 y2)])] []) else k (Res.mk (.sc (.int .i64 y2)) [.box false 138 (PV.st 138 [.ro 5 y0 y1 r_B, .sc (.int .i64 r_P), .sc (.int .i64 y2)])] [])
theorem e88 (f : Nat) (y0 y1 : Bool) (r_B : List PV) (r_P y2 : Int) (k : Res -> Option Res) : JN tau F88 Try.f88 (Try.f88.body.get!) JqB [.ro] 0 [.ptr 0 []] [.box false 138 (.st 138 [.ro 5 y0 y1 r_B, .sc (.int .i64 r_P), .sc (.int .i64 y2)])] k = g88 f y0 y1 r_B r_P y2 k := by kernel_rfl
theorem JFr (f : Nat) : Je (Try.f88.body.get!) JqB = [] := by kernel_rfl
theorem JFs (f : Nat) : ∀ q ∈ Je (Try.f88.body.get!) JqB, q.Ok tau Try.prog 1 := by
 rw [JFr f]; intro q hq; cases hq
theorem JBu : Try.prog.funcs[88]? = some Try.f88 := by kernel_rfl
theorem JBv : Try.f88.body = some (Try.f88.body.get!) := by kernel_rfl
theorem JBw : Enters Try.prog 88 := enters_of JBu (by kernel_rfl) JBv
def JnM : List PV -> List Ent -> (Res -> Option Res) -> Option Res
 | [.ptr 0 []], [.box false 138 (.st 138 [.ro 5 y0 y1 r_B, .sc (.int .i64 r_P), .sc (.int .i64 y2)])], k => g88 0 y0 y1 r_B r_P y2 k
 | _, _, _ => none
def s88 : Sig := { own := [], run := JnM }
theorem JBx : Jf tau Try.prog 88 s88 := JP Jq Jwf Jr JBu JBv JqB [.ro] 1 [] JnM (JFs 0) fun xs es k res hr => by
 unfold JnM at hr
 split at hr
 · exact ⟨rfl, 0, (e88 0 _ _ _ _ _  _).trans hr⟩
 · cases hr
def JcW : Nat := 53
def JnN : Fns := JC 117 Jnz (JC 88 s88 (JC 86 JuB (JC 85 s85 (JC 84 Jpe (JC 83 Jpg (JC 82 s82 (F0)))))))
theorem Jkt : Ju tau Try.prog JnN := (((((((JB).add JBr JBq).add Jmu Juz).add Jmt Jux).add JFq JFp).add Jr7 Jyc).add JBx JBw).add JnA Jtg
def Jaw : Code := Qu (Try.f106.body.get!) [1, 1, 1, 1, 1, 0, 1, 0, 0]
def W7 : Nm := [(4, .any), (5, .any), (6, .own), (7, .any)]
def XJ : Nm := [(4, .any), (6, .any)]
def Jcs : An := (.seq (.seq .leaf (.cond .leaf .leaf)) (.seq (.block none (.seq .leaf (.seq .leaf (.seq .leaf .leaf)))) .leaf))
def Jku (r0 : QJ) : An := (.seq .leaf (.seq .leaf (.seq .leaf (.seq (.seq .leaf (.cond .leaf .leaf)) (.seq .leaf (.seq (.seq .leaf (.block none (.sum W7 JcW r0))) (.seq .leaf (.seq (.seq .leaf (.cond .leaf .leaf)) (.seq (.seq .leaf (.cond (.seq .leaf .leaf) .leaf)) (.seq .leaf .leaf))))))))))
def X5 (f : Nat) (rc : Int -> Nat -> Int -> Bool -> Bool -> List PV -> Int -> Int -> Bool -> List PV -> Option Res) (k0 : Nat -> Bool -> Bool -> List PV -> Int -> Int -> Bool -> List PV -> Option Res) (v0 : Int) (v1 : Nat) (v2 : Int) (v3 v4 : Bool) (v5 : List PV) (v6 v7 : Int) (v8 : Bool) (v9 : List PV) : Option Res := bif decide (v2 < v0) then bif v7 == 0 then bif okT (RT.mk v5 v6 v7) then bif okT (Ja 1 (RT.mk v5 v6 v7)) then bif okT (Ja 8 (Ja 1 (RT.mk v5 v6 v7))) then bif Jl (v1 + 1) 32 && true then rc v0 (v1 + 1) (IntKind.i64.wrap (v2 + 1)) v3 v4 ((J3 (Ja 8 (Ja 1 (RT.mk v5 v6 v7)))).B) ((J3 (Ja 8 (Ja 1 (RT.mk v5 v6 v7)))).P) ((J3 (Ja 8 (Ja 1 (RT.mk v5 v6 v7)))).e) (v8 && false) (List.take v1 v9 ++ [.st 99 [.sc (.int .i64 (Jy 1 (RT.mk v5 v6 v7))), .sc (.int .i64 (Jy 8 (Ja 1 (RT.mk v5 v6 v7)))), .sc (.string (JM (Ja 8 (Ja 1 (RT.mk v5 v6 v7)))))]]) else none else none else none else none else k0 v1 v3 v4 v5 v6 v7 v8 v9 else k0 v1 v3 v4 v5 v6 v7 v8 v9
def Wi (f : Nat) (k0 : Nat -> Bool -> Bool -> List PV -> Int -> Int -> Bool -> List PV -> Option Res) : Nat -> Int -> Nat -> Int -> Bool -> Bool -> List PV -> Int -> Int -> Bool -> List PV -> Option Res
 | 0, _, _, _, _, _, _, _, _, _, _ => none
 | n + 1, v0, v1, v2, v3, v4, v5, v6, v7, v8, v9 => X5 f (Wi f k0 n) k0 v0 v1 v2 v3 v4 v5 v6 v7 v8 v9
theorem JnO (f : Nat) (k : Kont) (n : Nat) (v0 : Int) (v1 : Nat) (v2 : Int) (v3 v4 : Bool) (v5 : List PV) (v6 v7 : Int) (v8 : Bool) (v9 : List PV) : Jn tau 0 W7 (fun s k => ev tau JnN 0 0 Jaw (Jcs ) s k) (n + 1) (Jd W7 JcW [.ptr 864 [], .sc (.int .i64 v0), .ow 99 865 [] 0 v1 none, .sc (.int .i64 v2)] [(864, .box false 138 (PV.st 138 [.ro 5 v3 v4 v5, .sc (.int .i64 v6), .sc (.int .i64 v7)])), (865, .vec false 99 v8 v9)]) (Jt tau 0 XJ k) = X5 f (fun v0 v1 v2 v3 v4 v5 v6 v7 v8 v9 => Jn tau 0 W7 (fun s k => ev tau JnN 0 0 Jaw (Jcs ) s k) n (Jd W7 JcW [.ptr 864 [], .sc (.int .i64 v0), .ow 99 865 [] 0 v1 none, .sc (.int .i64 v2)] [(864, .box false 138 (PV.st 138 [.ro 5 v3 v4 v5, .sc (.int .i64 v6), .sc (.int .i64 v7)])), (865, .vec false 99 v8 v9)]) (Jt tau 0 XJ k)) (fun x0 x1 x2 x3 x4 x5 x6 x7 => k (Ex.exit 0) (Jd XJ JcW [.ptr 864 [], .ow 99 865 [] 0 x0 none] [(864, .box false 138 (PV.st 138 [.ro 5 x1 x2 x3, .sc (.int .i64 x4), .sc (.int .i64 x5)])), (865, .vec false 99 x6 x7)])) v0 v1 v2 v3 v4 v5 v6 v7 v8 v9 := by kernel_rfl
theorem JgI (f : Nat) (k : Kont) : ∀ (n : Nat) (v0 : Int) (v1 : Nat) (v2 : Int) (v3 v4 : Bool) (v5 : List PV) (v6 v7 : Int) (v8 : Bool) (v9 : List PV), Jn tau 0 W7 (fun s k => ev tau JnN 0 0 Jaw (Jcs ) s k) n (Jd W7 JcW [.ptr 864 [], .sc (.int .i64 v0), .ow 99 865 [] 0 v1 none, .sc (.int .i64 v2)] [(864, .box false 138 (PV.st 138 [.ro 5 v3 v4 v5, .sc (.int .i64 v6), .sc (.int .i64 v7)])), (865, .vec false 99 v8 v9)]) (Jt tau 0 XJ k) = Wi f (fun x0 x1 x2 x3 x4 x5 x6 x7 => k (Ex.exit 0) (Jd XJ JcW [.ptr 864 [], .ow 99 865 [] 0 x0 none] [(864, .box false 138 (PV.st 138 [.ro 5 x1 x2 x3, .sc (.int .i64 x4), .sc (.int .i64 x5)])), (865, .vec false 99 x6 x7)])) n v0 v1 v2 v3 v4 v5 v6 v7 v8 v9 | 0, _, _, _, _, _, _, _, _, _, _ => rfl | n + 1, v0, v1, v2, v3, v4, v5, v6, v7, v8, v9 => (JnO f k n v0 v1 v2 v3 v4 v5 v6 v7 v8 v9).trans (congrArg (fun r => X5 f r (fun x0 x1 x2 x3 x4 x5 x6 x7 => k (Ex.exit 0) (Jd XJ JcW [.ptr 864 [], .ow 99 865 [] 0 x0 none] [(864, .box false 138 (PV.st 138 [.ro 5 x1 x2 x3, .sc (.int .i64 x4), .sc (.int .i64 x5)])), (865, .vec false 99 x6 x7)])) v0 v1 v2 v3 v4 v5 v6 v7 v8 v9) (by funext v0 v1 v2 v3 v4 v5 v6 v7 v8 v9; exact JgI f k n v0 v1 v2 v3 v4 v5 v6 v7 v8 v9))
def VQ (f : Nat) : List PV -> List (Nat × Ent) -> Kont -> Option Res
 | [.ptr 864 [], .sc (.int .i64 v0), .ow 99 865 [] 0 v1 none,
 PV.sc
  (Value.int IntKind.i64
   v2)], [(864, .box false 138 (PV.st 138 [.ro 5 v3 v4 v5, .sc (.int .i64 v6), .sc (.int .i64 v7)])),
 (865,
  Ent.vec false 99 v8
   v9)], k => Wi f (fun x0 x1 x2 x3 x4 x5 x6 x7 => k (Ex.exit
 0) (Jd XJ JcW [.ptr 864 [],
 PV.ow 99 865 [] 0 x0
  none] [(864, .box false 138 (PV.st 138 [.ro 5 x1 x2 x3, .sc (.int .i64 x4), .sc (.int .i64 x5)])), (865, .vec false 99 x6 x7)])) f v0 v1 v2 v3 v4 v5 v6 v7 v8 v9
 | _, _, _ => none
theorem JqC (f : Nat) : Je Jaw Jcs = [] := by kernel_rfl
theorem Jwg (f : Nat) : (Item.l Jaw W7 JcW (VQ f)).Ok tau Try.prog 0 := JI Jq Jkt Jr (x := Jcs) (nm2 := XJ) (Js _ _ (by rw [JqC f]; intro q hq; cases hq)) fun vs hp k res hr => by
 unfold VQ at hr
 split at hr
 · exact ⟨f, 0, (JgI f _ f _ _ _ _ _ _ _ _ _ _ ).trans hr⟩
 · cases hr
def Jwh (f : Nat) (b_z b_f : Bool) (b : List PV) (k : Res -> Option Res) : Option Res := bif okT (RT.mk b 0 0) then bif decide (Jy 1 (RT.mk b 0 0) > 40) then bif (Ja 1 (RT.mk b 0 0)).e == 0 then Wi f (fun x0_0 x1_0 x2_0 x3_0 x4_0 x5_0 x6_0 x7_0 => bif x5_0 == 0 then bif decide (x4_0 < zi x3_0.length) then k (Res.mk (.tup [.ro 99 true true [], .sc (.int .i64 9)]) [] []) else bif x5_0 == 0 then bif cOk (List.take x0_0 x7_0) then bif ckO (List.take x0_0 x7_0) != 0 then k (Res.mk (.tup [.ro 99 true true [], .sc (.int .i64 (ckO (List.take x0_0 x7_0)))]) [] []) else k (Res.mk (.tup [.ro 99 (Ent.vec false 99 x6_0 x7_0).nil false (List.take x0_0 x7_0), .sc (.int .i64 0)]) [] []) else none else bif x5_0 != 0 then k (Res.mk (.tup [.ro 99 true true [], .sc (.int .i64 x5_0)]) [] []) else k (Res.mk (.tup [.ro 99 (Ent.vec false 99 x6_0 x7_0).nil false (List.take x0_0 x7_0), .sc (.int .i64 0)]) [] []) else bif x5_0 == 0 then bif cOk (List.take x0_0 x7_0) then bif ckO (List.take x0_0 x7_0) != 0 then k (Res.mk (.tup [.ro 99 true true [], .sc (.int .i64 (ckO (List.take x0_0 x7_0)))]) [] []) else k (Res.mk (.tup [.ro 99 (Ent.vec false 99 x6_0 x7_0).nil false (List.take x0_0 x7_0), .sc (.int .i64 0)]) [] []) else none else bif x5_0 != 0 then k (Res.mk (.tup [.ro 99 true true [], .sc (.int .i64 x5_0)]) [] []) else k (Res.mk (.tup [.ro 99 (Ent.vec false 99 x6_0 x7_0).nil false (List.take x0_0 x7_0), .sc (.int .i64 0)]) [] [])) f (Jy 1 (RT.mk b 0 0)) (0) (0) b_z b_f ((Ja 1 (RT.mk b 0 0)).B) ((Ja 1 (RT.mk b 0 0)).P) (4) true ([]) else Wi f (fun x0_1 x1_1 x2_1 x3_1 x4_1 x5_1 x6_1 x7_1 => bif x5_1 == 0 then bif decide (x4_1 < zi x3_1.length) then k (Res.mk (.tup [.ro 99 true true [], .sc (.int .i64 9)]) [] []) else bif x5_1 == 0 then bif cOk (List.take x0_1 x7_1) then bif ckO (List.take x0_1 x7_1) != 0 then k (Res.mk (.tup [.ro 99 true true [], .sc (.int .i64 (ckO (List.take x0_1 x7_1)))]) [] []) else k (Res.mk (.tup [.ro 99 (Ent.vec false 99 x6_1 x7_1).nil false (List.take x0_1 x7_1), .sc (.int .i64 0)]) [] []) else none else bif x5_1 != 0 then k (Res.mk (.tup [.ro 99 true true [], .sc (.int .i64 x5_1)]) [] []) else k (Res.mk (.tup [.ro 99 (Ent.vec false 99 x6_1 x7_1).nil false (List.take x0_1 x7_1), .sc (.int .i64 0)]) [] []) else bif x5_1 == 0 then bif cOk (List.take x0_1 x7_1) then bif ckO (List.take x0_1 x7_1) != 0 then k (Res.mk (.tup [.ro 99 true true [], .sc (.int .i64 (ckO (List.take x0_1 x7_1)))]) [] []) else k (Res.mk (.tup [.ro 99 (Ent.vec false 99 x6_1 x7_1).nil false (List.take x0_1 x7_1), .sc (.int .i64 0)]) [] []) else none else bif x5_1 != 0 then k (Res.mk (.tup [.ro 99 true true [], .sc (.int .i64 x5_1)]) [] []) else k (Res.mk (.tup [.ro 99 (Ent.vec false 99 x6_1 x7_1).nil false (List.take x0_1 x7_1), .sc (.int .i64 0)]) [] [])) f (Jy 1 (RT.mk b 0 0)) (0) (0) b_z b_f ((Ja 1 (RT.mk b 0 0)).B) ((Ja 1 (RT.mk b 0 0)).P) ((Ja 1 (RT.mk b 0 0)).e) true ([]) else Wi f (fun x0_2 x1_2 x2_2 x3_2 x4_2 x5_2 x6_2 x7_2 => bif x5_2 == 0 then bif decide (x4_2 < zi x3_2.length) then k (Res.mk (.tup [.ro 99 true true [], .sc (.int .i64 9)]) [] []) else bif x5_2 == 0 then bif cOk (List.take x0_2 x7_2) then bif ckO (List.take x0_2 x7_2) != 0 then k (Res.mk (.tup [.ro 99 true true [], .sc (.int .i64 (ckO (List.take x0_2 x7_2)))]) [] []) else k (Res.mk (.tup [.ro 99 (Ent.vec false 99 x6_2 x7_2).nil false (List.take x0_2 x7_2), .sc (.int .i64 0)]) [] []) else none else bif x5_2 != 0 then k (Res.mk (.tup [.ro 99 true true [], .sc (.int .i64 x5_2)]) [] []) else k (Res.mk (.tup [.ro 99 (Ent.vec false 99 x6_2 x7_2).nil false (List.take x0_2 x7_2), .sc (.int .i64 0)]) [] []) else bif x5_2 == 0 then bif cOk (List.take x0_2 x7_2) then bif ckO (List.take x0_2 x7_2) != 0 then k (Res.mk (.tup [.ro 99 true true [], .sc (.int .i64 (ckO (List.take x0_2 x7_2)))]) [] []) else k (Res.mk (.tup [.ro 99 (Ent.vec false 99 x6_2 x7_2).nil false (List.take x0_2 x7_2), .sc (.int .i64 0)]) [] []) else none else bif x5_2 != 0 then k (Res.mk (.tup [.ro 99 true true [], .sc (.int .i64 x5_2)]) [] []) else k (Res.mk (.tup [.ro 99 (Ent.vec false 99 x6_2 x7_2).nil false (List.take x0_2 x7_2), .sc (.int .i64 0)]) [] [])) f (Jy 1 (RT.mk b 0 0)) (0) (0) b_z b_f ((Ja 1 (RT.mk b 0 0)).B) ((Ja 1 (RT.mk b 0 0)).P) ((Ja 1 (RT.mk b 0 0)).e) true ([]) else none
theorem JFt (f : Nat) (b_z b_f : Bool) (b : List PV) (k : Res -> Option Res) : JN tau JnN Try.f106 (Try.f106.body.get!) (Jku (VQ f)) [.ro, .ro] 0 [.ro 5 b_z b_f b] [] k = Jwh f b_z b_f b k := by kernel_rfl
theorem JBy (f : Nat) : Je (Try.f106.body.get!) (Jku (VQ f)) = [.l Jaw W7 JcW (VQ f)] := by kernel_rfl
theorem JBz (f : Nat) : ∀ q ∈ Je (Try.f106.body.get!) (Jku (VQ f)), q.Ok tau Try.prog 0 := by
 rw [JBy f]; simp only [List.forall_mem_cons, List.not_mem_nil, false_implies, implies_true, and_true]; exact Jwg f
theorem Jts : Try.prog.funcs[106]? = some Try.f106 := by kernel_rfl
theorem Jtt : Try.f106.body = some (Try.f106.body.get!) := by kernel_rfl
theorem JBA : Enters Try.prog 106 := enters_of Jts (by kernel_rfl) Jtt
-- FN delta.OpParse | ref8.OpParse
def cpN (s : RS) : RS := J9 (Jc 8 (Jc 1 s))
def cpV (s : RS) : PV := .st 99 [.sc (.int .i64 (Jw 1 s)), .sc (.int .i64 (Jw 8 (Jc 1 s))), .sc (.string (JS (Jc 8 (Jc 1 s))))]
def cpR : Nat -> RS -> RS
 | 0, s => s
 | n + 1, s => cpR n (cpN s)
def cpL : Nat -> RS -> List PV
 | 0, _ => []
 | n + 1, s => cpV s :: cpL n (cpN s)
theorem VR : ∀ (n : Nat) (s : RS), (cpL n s).length = n
 | 0, _ => rfl
 | n + 1, s => by rw [cpL, List.length_cons, VR n]
theorem JnP : ∀ (n : Nat) (s : RS), (cpL n s).all isCp = true
 | 0, _ => rfl
 | n + 1, s => by rw [cpL, List.all_cons, JnP n, Bool.and_true]; exact GK.2 ⟨_, _, _, rfl⟩
theorem JqD {s : RS} (h : byB s.b = true) : byB (cpN s).b = true := JjM (Qa (Qa h 1) 8)
def opN (b : List PV) : Nat := bif decide (Jw 1 ⟨b, 0⟩ > 40) then 0 else (Jw 1 ⟨b, 0⟩).toNat
def opS (b : List PV) : RS := bif decide (Jw 1 ⟨b, 0⟩ > 40) then Zm 4 (Jc 1 ⟨b, 0⟩) else Jc 1 ⟨b, 0⟩
def XR (b : List PV) : Int := bif (cpR (opN b) (opS b)).e == 0 then (bif decide ((cpR (opN b) (opS b)).b.length > 0) then 9 else ckO (cpL (opN b) (opS b))) else (cpR (opN b) (opS b)).e
def opE : List PV -> Int := hid XR
def opL : List PV -> List PV := hid fun b => bif XR b == 0 then cpL (opN b) (opS b) else []
def opF : List PV -> Bool := hid fun b => !(XR b == 0)
theorem Jax (b : List PV) : opE b = XR b := by rw [opE, hid_eq]
theorem Jay (b : List PV) : opL b = bif XR b == 0 then cpL (opN b) (opS b) else [] := by rw [opL, hid_eq]
theorem Jiz (b : List PV) : opF b = !(XR b == 0) := by rw [opF, hid_eq]
def Wl (e : Int) : PV := .tup [.ro 99 true true [], .sc (.int .i64 e)]
def opP (b : List PV) : PV := .tup [.ro 99 (opL b).isEmpty (opL b).isEmpty (opL b), .sc (.int .i64 (opE b))]
def opQ (b : List PV) : PV := .tup [.ro 99 (opL b).isEmpty (opF b) (opL b), .sc (.int .i64 (opE b))]
theorem Jfb {b : List PV} {e : Int} (h : XR b = e) (h0 : (e == 0) = false) : opP b = Wl e := by
 simp only [opP, Wl, Jay, Jax, h, h0, cond_false, List.isEmpty_nil]
theorem Jfc {b : List PV} {e : Int} (h : XR b = e) (h0 : (e == 0) = false) : opQ b = Wl e := by
 simp only [opQ, Wl, Jay, Jax, Jiz, h, h0, cond_false, List.isEmpty_nil, Bool.not_false]
theorem Jwi {b : List PV} (h : XR b = 0) : opP b = .tup [.ro 99 (cpL (opN b) (opS b)).isEmpty (cpL (opN b) (opS b)).isEmpty (cpL (opN b) (opS b)), .sc (.int .i64 0)] := by
 simp only [opP, Jay, Jax, h, beq_self_eq_true, cond_true]
theorem Jwj {b : List PV} (h : XR b = 0) : opQ b = .tup [.ro 99 (cpL (opN b) (opS b)).isEmpty false (cpL (opN b) (opS b)), .sc (.int .i64 0)] := by
 simp only [opQ, Jay, Jax, Jiz, h, beq_self_eq_true, cond_true, Bool.not_true]
theorem JiA {b : List PV} (h : byB b = true) : opN b <= 40 := by
 unfold opN
 have h0 : 0 <= Jw 1 ⟨b, 0⟩ := by rw [WS]; exact (Xl (s := ⟨b, 0⟩) h (n := 1) (by omega)).1
 cases hc : decide (Jw 1 ⟨b, 0⟩ > 40) with
 | true => exact Nat.zero_le _
 | false =>
  have : ¬ Jw 1 ⟨b, 0⟩ > 40 := by simpa using hc
  rw [cond_false]; omega
theorem JqE {b : List PV} (h : byB b = true) : byB (opS b).b = true := by
 have := Qa (s := ⟨b, 0⟩) h 1
 unfold opS Zm
 cases decide (Jw 1 ⟨b, 0⟩ > 40) <;> exact this
theorem Jfd {n : Nat} (h : n <= 40) (s : RS) : cOk (cpL n s) = true := W2.2 ⟨JnP n s, by rw [VR]; omega⟩
theorem JnQ (f : Nat) (k0 : Nat -> Bool -> Bool -> List PV -> Int -> Bool -> List PV -> Option Res) (z fl : Bool) (hz : (!z || fl) = true) (N : Nat) (hN : N <= 40) : ∀ (d i n : Nat) (s : RS) (nl : Bool) (L : List PV), i + d = N -> d < n -> byB s.b = true -> L.length = i ->
  WA f k0 n L.length (N : Int) (i : Int) z fl s.b s.e nl L = k0 (L ++ cpL d s).length z fl (cpR d s).b (cpR d s).e (nl && (cpL d s).isEmpty) (L ++ cpL d s)
 | 0, i, n + 1, s, nl, L, h, hn, hb, hL => by
   obtain rfl : i = N := by omega
   simp only [WA, ZL, cpR, cpL, List.append_nil, List.isEmpty_nil, Bool.and_true]
   exact Jv (by simp)
 | d + 1, i, n + 1, s, nl, L, h, hn, hb, hL => by
   have w : IntKind.i64.wrap ((i : Int) + 1) = ((i + 1 : Nat) : Int) := by rw [wrap_i64 (by omega) (by omega)]; omega
   have hm : RS.mk s.b s.e = s := rfl
   have hn1 : J9 (Jc 8 (Jc 1 s)) = cpN s := rfl
   have hv1 : PV.st 99 [.sc (.int .i64 (Jw 1 s)), .sc (.int .i64 (Jw 8 (Jc 1 s))), .sc (.string (JS (Jc 8 (Jc 1 s))))] = cpV s := rfl
   simp only [WA, ZL, w, hm, hn1, hv1, List.take_length]
   refine (Jb (by simp; omega)).trans ((Jb (by rw [hb, hz]; rfl)).trans ((Jb (by rw [Qa hb 1, hz]; rfl)).trans ((Jb (by rw [Qa (Qa hb 1) 8, hz]; rfl)).trans ((Jb (by simp [Jl]; omega)).trans ?_))))
   have := JnQ f k0 z fl hz N hN d (i + 1) n (cpN s) (nl && false) (L ++ [cpV s]) (by omega) (by omega) (JqD hb) (by simp [hL])
   rw [List.length_append] at this
   refine Eq.trans this ?_
   simp only [cpR, cpL, Bool.and_false, Bool.false_and, List.isEmpty_cons, List.append_assoc, List.cons_append, List.nil_append]
theorem JqF (z f : Bool) (b : List PV) (hz : slB z b = true) (hb : byB b = true) (k : Res -> Option Res) :
  Jwc 50 z f b k = k ⟨opP b, [], []⟩ := by
 have hE : XR b = XR b := rfl
 conv at hE => rhs; unfold XR
 have hN := JiA hb
 have hS := JqE hb
 have key : ∀ (N : Nat) (s : RS) (K : Nat -> Bool -> Bool -> List PV -> Int -> Bool -> List PV -> Option Res), opN b = N -> opS b = s ->
   (∀ (e : Int) (x1 x2 : Bool), XR b = (bif (cpR N s).e == 0 then (bif decide ((cpR N s).b.length > 0) then 9 else ckO (cpL N s)) else (cpR N s).e) -> K (cpL N s).length x1 x2 (cpR N s).b (cpR N s).e (true && (cpL N s).isEmpty) ([] ++ cpL N s) = k ⟨opP b, [], []⟩) ->
   WA 50 K 50 0 (N : Int) 0 z z s.b s.e true [] = k ⟨opP b, [], []⟩ := by
  intro N s K h1 h2 h3
  subst h1; subst h2
  refine (JnQ 50 K z z (by cases z <;> rfl) (opN b) hN (opN b) 0 50 (opS b) true [] (by omega) (by omega) hS rfl).trans ?_
  exact h3 0 z z hE
 have fin : ∀ (N : Nat) (s : RS), opN b = N -> opS b = s -> XR b = (bif (cpR N s).e == 0 then (bif decide ((cpR N s).b.length > 0) then 9 else ckO (cpL N s)) else (cpR N s).e) ->
   (bif (cpR N s).e == 0 then
    bif decide (zi (cpR N s).b.length > 0) then k ⟨Wl 9, [], []⟩
    else bif (cpR N s).e == 0 then
     bif cOk (List.take (cpL N s).length ([] ++ cpL N s)) then
      bif ckO (List.take (cpL N s).length ([] ++ cpL N s)) != 0 then k ⟨Wl (ckO (List.take (cpL N s).length ([] ++ cpL N s))), [], []⟩
      else bif (Ent.vec false 99 (true && (cpL N s).isEmpty) ([] ++ cpL N s)).nil then k ⟨Wl 0, [], []⟩
      else bif Jl (0 + (List.take (cpL N s).length ([] ++ cpL N s)).length) 32 && true then k ⟨.tup [.ro 99 false false (List.take (0 + (List.take (cpL N s).length ([] ++ cpL N s)).length) (List.take (cpL N s).length ([] ++ cpL N s))), .sc (.int .i64 0)], [], []⟩ else none
     else none
    else bif (cpR N s).e != 0 then k ⟨Wl (cpR N s).e, [], []⟩
    else bif (Ent.vec false 99 (true && (cpL N s).isEmpty) ([] ++ cpL N s)).nil then k ⟨Wl 0, [], []⟩
      else bif Jl (0 + (List.take (cpL N s).length ([] ++ cpL N s)).length) 32 && true then k ⟨.tup [.ro 99 false false (List.take (0 + (List.take (cpL N s).length ([] ++ cpL N s)).length) (List.take (cpL N s).length ([] ++ cpL N s))), .sc (.int .i64 0)], [], []⟩ else none
   else bif (cpR N s).e == 0 then
     bif cOk (List.take (cpL N s).length ([] ++ cpL N s)) then
      bif ckO (List.take (cpL N s).length ([] ++ cpL N s)) != 0 then k ⟨Wl (ckO (List.take (cpL N s).length ([] ++ cpL N s))), [], []⟩
      else bif (Ent.vec false 99 (true && (cpL N s).isEmpty) ([] ++ cpL N s)).nil then k ⟨Wl 0, [], []⟩
      else bif Jl (0 + (List.take (cpL N s).length ([] ++ cpL N s)).length) 32 && true then k ⟨.tup [.ro 99 false false (List.take (0 + (List.take (cpL N s).length ([] ++ cpL N s)).length) (List.take (cpL N s).length ([] ++ cpL N s))), .sc (.int .i64 0)], [], []⟩ else none
     else none
    else bif (cpR N s).e != 0 then k ⟨Wl (cpR N s).e, [], []⟩
    else bif (Ent.vec false 99 (true && (cpL N s).isEmpty) ([] ++ cpL N s)).nil then k ⟨Wl 0, [], []⟩
      else bif Jl (0 + (List.take (cpL N s).length ([] ++ cpL N s)).length) 32 && true then k ⟨.tup [.ro 99 false false (List.take (0 + (List.take (cpL N s).length ([] ++ cpL N s)).length) (List.take (cpL N s).length ([] ++ cpL N s))), .sc (.int .i64 0)], [], []⟩ else none) = k ⟨opP b, [], []⟩ := by
  intro N s h1 h2 h3
  have hco : cOk (cpL N s) = true := Jfd (by omega) s
  have hnl : (Ent.vec false 99 (cpL N s).isEmpty (cpL N s)).nil = (cpL N s).isEmpty := by simp [Ent.nil]
  have hlen : (cpL N s).length <= 40 := by rw [VR]; omega
  have hz9 : decide (zi (cpR N s).b.length > 0) = decide ((cpR N s).b.length > 0) := by apply decide_eq_decide.2; simp only [zi]; omega
  simp only [List.nil_append, List.take_length, Bool.true_and, Nat.zero_add, hco, hnl, hz9, cond_true]
  cases he : ((cpR N s).e == 0) with
  | false =>
   rw [he, cond_false] at h3
   rw [Jfb h3 he]
   simp only [cond_false]
   exact Jb (by rw [bne, he]; rfl)
  | true =>
   rw [he, cond_true] at h3
   cases h9 : decide ((cpR N s).b.length > 0) with
   | true =>
    rw [h9, cond_true] at h3
    rw [Jfb h3 (by decide)]
    rfl
   | false =>
    rw [h9, cond_false] at h3
    simp only [cond_true, cond_false]
    cases hc : (ckO (cpL N s) == 0) with
    | false =>
     rw [Jfb h3 hc]
     exact Jb (by rw [bne, hc]; rfl)
    | true =>
     have hc' : ckO (cpL N s) = 0 := by simpa using hc
     rw [hc'] at h3
     rw [Jwi h3, h1, h2]
     refine (Jv (by rw [bne, hc]; rfl)).trans ?_
     cases hl : cpL N s with
     | nil => rfl
     | cons p ps =>
      rw [hl] at hlen
      refine (Jv rfl).trans ((Jb (by simp [Jl] at hlen ⊢; omega)).trans rfl)
 unfold Jwc
 refine (Jb hz).trans ((Jb (by rw [hb]; cases z <;> rfl)).trans ?_)
 have h0 : 0 <= Jw 1 ⟨b, 0⟩ := by rw [WS]; exact (Xl (s := ⟨b, 0⟩) hb (n := 1) (by omega)).1
 cases h4 : decide (Jw 1 ⟨b, 0⟩ > 40) with
 | true =>
  have hN0 : opN b = 0 := by unfold opN; rw [h4]; rfl
  have hS0 : opS b = Zm 4 (Jc 1 ⟨b, 0⟩) := by unfold opS; rw [h4]; rfl
  rw [cond_true]
  cases he : ((Jc 1 ⟨b, 0⟩).e == 0) with
  | true =>
   rw [cond_true]
   have hs : opS b = ⟨(Jc 1 ⟨b, 0⟩).b, 4⟩ := by rw [hS0]; unfold Zm; rw [he]; rfl
   exact key 0 ⟨(Jc 1 ⟨b, 0⟩).b, 4⟩ _ hN0 hs fun _ _ _ h => fin 0 _ hN0 hs h
  | false =>
   rw [cond_false]
   have hs : opS b = ⟨(Jc 1 ⟨b, 0⟩).b, (Jc 1 ⟨b, 0⟩).e⟩ := by rw [hS0]; unfold Zm; rw [he]; rfl
   exact key 0 ⟨(Jc 1 ⟨b, 0⟩).b, (Jc 1 ⟨b, 0⟩).e⟩ _ hN0 hs fun _ _ _ h => fin 0 _ hN0 hs h
 | false =>
  have hN0 : opN b = (Jw 1 ⟨b, 0⟩).toNat := by unfold opN; rw [h4]; rfl
  have hS0 : opS b = Jc 1 ⟨b, 0⟩ := by unfold opS; rw [h4]; rfl
  rw [cond_false]
  have q := fun K hK => key (Jw 1 ⟨b, 0⟩).toNat (Jc 1 ⟨b, 0⟩) K hN0 hS0 hK
  rw [Int.toNat_of_nonneg h0] at q
  exact q _ fun _ _ _ h => fin _ _ hN0 hS0 h
def Jfe : List PV -> List Ent -> (Res -> Option Res) -> Option Res
 | [.ro 5 z f b], [], k => bif slB z b && byB b then k ⟨opP b, [], []⟩ else none
 | _, _, _ => none
def Jtu : Sig := { own := [], run := Jfe }
theorem Jwk : Jf tau Try.prog 143 Jtu := Jf.mk' fun xs es k res hl hr => by
 change Jfe xs es k = some res at hr
 unfold Jfe at hr
 split at hr
 · rename_i z f b
   obtain ⟨hc, hr⟩ := JG hr
   rw [Bool.and_eq_true] at hc
   have hg := (JqF z f b hc.1 hc.2 k).trans hr
   exact Qj Jq Jkr Jr Jtq Jtr (Jks (VP 50)) [.ro, .ro] 0 0 (JBm 50) hl rfl ((JFk 50 z f b k).trans hg)
 · cases hr
/-! The document's. -/
theorem JqG {s : RS} (h : s.e ≠ 0) : cpN s = s := by
 unfold cpN; rw [We, We, Gl h, Gl h, Gj]; unfold Jdm; rw [Gl h 2, Gl h]
theorem Jkv : ∀ (n : Nat) {s : RS}, s.e ≠ 0 -> cpR n s = s
 | 0, _, _ => rfl
 | n + 1, s, h => by show cpR n (cpN s) = s; rw [JqG h, Jkv n h]
theorem JiB (f : Nat) (k0 : Nat -> Bool -> Bool -> List PV -> Int -> Int -> Bool -> List PV -> Option Res) (n : Nat) {N i : Int} {z fl : Bool} {B : List PV} {P e : Int} (he : (e == 0) = false) {m : Nat} {nl : Bool} {L : List PV} :
  Wi f k0 (n + 1) N m i z fl B P e nl L = k0 m z fl B P e nl L := by
 simp only [Wi, X5, he, cond_false]
 cases decide (i < N) <;> rfl
theorem JnR (f : Nat) (k0 : Nat -> Bool -> Bool -> List PV -> Int -> Int -> Bool -> List PV -> Option Res) (R : Option Res) {z fl : Bool} (N : Nat) (hN : N <= 40) :
  ∀ (d i n : Nat) (t : RT) (nl : Bool) (L : List PV), i + d = N -> d < n -> okT t = true -> L.length <= i ->
  (∀ (t' : RT) (nl' : Bool) (L' : List PV), okT t' = true -> t'.view = cpR d t.view -> L'.length <= 40 -> (t'.view.e = 0 -> L' = L ++ cpL d t.view /\ nl' = (nl && (cpL d t.view).isEmpty)) -> k0 L'.length z fl t'.B t'.P t'.e nl' L' = R) ->
  Wi f k0 n (N : Int) L.length (i : Int) z fl t.B t.P t.e nl L = R
 | 0, i, n + 1, t, nl, L, h, hn, ht, hL, hk => by
   simp only [Wi, X5]
   exact (Jv (by simp; omega)).trans (hk t nl L ht rfl (by omega) fun _ => by simp [cpL])
 | d + 1, i, n + 1, t, nl, L, h, hn, ht, hL, hk => by
   cases he : (t.e == 0) with
   | false =>
    have he' : t.view.e ≠ 0 := by simpa [RT.view] using he
    rw [JiB f k0 n he]
    exact hk t nl L ht (Jkv _ he').symm (by omega) fun h0 => absurd h0 he'
   | true =>
    have w : IntKind.i64.wrap ((i : Int) + 1) = ((i + 1 : Nat) : Int) := by rw [wrap_i64 (by omega) (by omega)]; omega
    have hm : RT.mk t.B t.P t.e = t := rfl
    have o1 := Qv ht 1
    have o2 := Qv o1 8
    have hview : (J3 (Ja 8 (Ja 1 t))).view = cpN t.view := by simp only [Jdn, Qe, cpN]
    have hv1 : PV.st 99 [.sc (.int .i64 (Jy 1 t)), .sc (.int .i64 (Jy 8 (Ja 1 t))), .sc (.string (JM (Ja 8 (Ja 1 t))))] = cpV t.view := by simp only [Wf, Jdo, Qe, cpV]
    simp only [Wi, X5, w, hm, List.take_length, he]
    refine (Jb (by simp; omega)).trans ((Jb rfl).trans ((Jb ht).trans ((Jb o1).trans ((Jb o2).trans ((Jb (by simp [Jl]; omega)).trans ?_)))))
    rw [hv1]
    have := JnR f k0 R (z := z) (fl := fl) N hN d (i + 1) n (J3 (Ja 8 (Ja 1 t))) (nl && false) (L ++ [cpV t.view]) (by omega) (by omega) (Jf8 o2) (by simp; omega) fun t' nl' L' h1 h2 h3 h4 => hk t' nl' L' h1 (by rw [h2, hview]; rfl) h3 fun h0 => by
     obtain ⟨q1, q2⟩ := h4 h0
     rw [hview] at q1 q2
     exact ⟨by rw [q1]; simp [cpL], by rw [q2]; simp [cpL]⟩
    rw [List.length_append] at this
    exact this
theorem JqH (z f : Bool) (b : List PV) (hb : byB b = true) (hlen : b.length <= 1000000000) (k : Res -> Option Res) :
  Jwh 50 z f b k = k ⟨opQ b, [], []⟩ := by
 have hE : XR b = XR b := rfl
 conv at hE => rhs; unfold XR
 have hN := JiA hb
 have hok0 : okT (RT.mk b 0 0) = true := by simp [okT, hb]; omega
 have hv0 : (RT.mk b 0 0).view = RS.mk b 0 := rfl
 have fin : ∀ (t' : RT) (nl' : Bool) (L' : List PV), okT t' = true -> t'.view = cpR (opN b) (opS b) -> L'.length <= 40 -> (t'.view.e = 0 -> L' = cpL (opN b) (opS b) /\ nl' = (cpL (opN b) (opS b)).isEmpty) ->
   (bif t'.e == 0 then
     bif decide (t'.P < zi t'.B.length) then k ⟨Wl 9, [], []⟩
     else bif t'.e == 0 then
      bif cOk (List.take L'.length L') then
       bif ckO (List.take L'.length L') != 0 then k ⟨Wl (ckO (List.take L'.length L')), [], []⟩
       else k ⟨.tup [.ro 99 (Ent.vec false 99 nl' L').nil false (List.take L'.length L'), .sc (.int .i64 0)], [], []⟩
      else none
     else bif t'.e != 0 then k ⟨Wl t'.e, [], []⟩
     else k ⟨.tup [.ro 99 (Ent.vec false 99 nl' L').nil false (List.take L'.length L'), .sc (.int .i64 0)], [], []⟩
   else bif t'.e == 0 then
      bif cOk (List.take L'.length L') then
       bif ckO (List.take L'.length L') != 0 then k ⟨Wl (ckO (List.take L'.length L')), [], []⟩
       else k ⟨.tup [.ro 99 (Ent.vec false 99 nl' L').nil false (List.take L'.length L'), .sc (.int .i64 0)], [], []⟩
      else none
     else bif t'.e != 0 then k ⟨Wl t'.e, [], []⟩
     else k ⟨.tup [.ro 99 (Ent.vec false 99 nl' L').nil false (List.take L'.length L'), .sc (.int .i64 0)], [], []⟩) = k ⟨opQ b, [], []⟩ := by
  intro t' nl' L' ht hV hL hq
  have hve : t'.e = (cpR (opN b) (opS b)).e := by rw [← hV]; rfl
  have hvP : decide (t'.P < zi t'.B.length) = decide ((cpR (opN b) (opS b)).b.length > 0) := by
   rw [← hV]
   show decide _ = decide ((List.drop _ _).length > 0)
   rw [List.length_drop]
   simp only [okT, Bool.and_eq_true, decide_eq_true_eq] at ht
   apply decide_eq_decide.2
   simp only [zi]; omega
  simp only [hvP, List.take_length]
  cases he : (t'.e == 0) with
  | false =>
   have he2 : ((cpR (opN b) (opS b)).e == 0) = false := by rw [← hve]; exact he
   rw [he2, cond_false, ← hve] at hE
   rw [Jfc hE he]
   simp only [cond_false]
   exact Jb (by rw [bne, he]; rfl)
  | true =>
   have he2 : ((cpR (opN b) (opS b)).e == 0) = true := by rw [← hve]; exact he
   rw [he2, cond_true] at hE
   cases h9 : decide ((cpR (opN b) (opS b)).b.length > 0) with
   | true =>
     rw [h9, cond_true] at hE
     rw [Jfc hE (by decide)]
     rfl
   | false =>
     rw [h9, cond_false] at hE
     obtain ⟨w1, w2⟩ := hq (by have := he; rw [beq_iff_eq] at this; exact this)
     simp only [cond_true, cond_false]
     rw [w1, w2]
     have hco : cOk (cpL (opN b) (opS b)) = true := Jfd hN _
     have hnl : (Ent.vec false 99 (cpL (opN b) (opS b)).isEmpty (cpL (opN b) (opS b))).nil = (cpL (opN b) (opS b)).isEmpty := by simp [Ent.nil]
     refine (Jb hco).trans ?_
     cases hc : (ckO (cpL (opN b) (opS b)) == 0) with
     | false =>
      rw [Jfc hE hc]
      exact Jb (by rw [bne, hc]; rfl)
     | true =>
      have hc' : ckO (cpL (opN b) (opS b)) = 0 := by simpa using hc
      rw [hc'] at hE
      rw [Jwj hE, hnl]
      exact (Jv (by rw [bne, hc]; rfl))
 unfold Jwh
 refine (Jb hok0).trans ?_
 have hn : Jy 1 (RT.mk b 0 0) = Jw 1 ⟨b, 0⟩ := by rw [Wf, hv0]
 have hvs : (Ja 1 (RT.mk b 0 0)).view = Jc 1 ⟨b, 0⟩ := by rw [Qe, hv0]
 have hos : okT (Ja 1 (RT.mk b 0 0)) = true := Qv hok0 1
 generalize hst : Ja 1 (RT.mk b 0 0) = st at *
 have hse : st.e = (Jc 1 ⟨b, 0⟩).e := by rw [← hvs]; rfl
 rw [hn]
 have h0 : 0 <= Jw 1 ⟨b, 0⟩ := by rw [WS]; exact (Xl (s := ⟨b, 0⟩) hb (n := 1) (by omega)).1
 cases h4 : decide (Jw 1 ⟨b, 0⟩ > 40) with
 | true =>
  have hN0 : opN b = 0 := by unfold opN; rw [h4]; rfl
  have hS0 : opS b = Zm 4 (Jc 1 ⟨b, 0⟩) := by unfold opS; rw [h4]; rfl
  rw [cond_true]
  cases he : (st.e == 0) with
  | true =>
   rw [cond_true]
   refine (JiB 50 _ 49 (by decide)).trans ?_
   refine fin ⟨st.B, st.P, 4⟩ true [] hos ?_ (by decide) fun h => ?_
   · rw [hN0, hS0, ← hvs]
     show RS.mk _ _ = Zm 4 st.view
     unfold Zm
     rw [show (st.view.e == 0) = true from he]; rfl
   · have h' : (4 : Int) = 0 := h
     exact absurd h' (by decide)
  | false =>
   rw [cond_false]
   refine (JiB 50 _ 49 he).trans ?_
   refine fin st true [] hos ?_ (by decide) fun h => ?_
   · rw [hN0, hS0, ← hvs]
     show st.view = Zm 4 st.view
     unfold Zm
     rw [show (st.view.e == 0) = false from he]; rfl
   · have h' : st.e = 0 := h
     rw [h'] at he; exact absurd he (by decide)
 | false =>
  have hN0 : opN b = (Jw 1 ⟨b, 0⟩).toNat := by unfold opN; rw [h4]; rfl
  have hS0 : opS b = Jc 1 ⟨b, 0⟩ := by unfold opS; rw [h4]; rfl
  rw [cond_false]
  have hcn : Jw 1 ⟨b, 0⟩ = ((opN b : Nat) : Int) := by rw [hN0]; exact (Int.toNat_of_nonneg h0).symm
  rw [hcn]
  refine JnR 50 _ _ (opN b) hN (opN b) 0 50 st true [] (by omega) (by omega) hos (by decide) fun t' nl' L' q1 q2 q3 q4 => ?_
  have hVt : st.view = opS b := by rw [hS0, hvs]
  rw [hVt] at q2 q4
  exact fin t' nl' L' q1 q2 q3 fun h => by
   obtain ⟨w1, w2⟩ := q4 h
   exact ⟨by rw [w1, List.nil_append], by rw [w2, Bool.true_and]⟩
def Jff : List PV -> List Ent -> (Res -> Option Res) -> Option Res
 | [.ro 5 z f b], [], k => bif byB b && Nat.ble b.length 1000000000 then k ⟨opQ b, [], []⟩ else none
 | _, _, _ => none
def Jtv : Sig := { own := [], run := Jff }
theorem Jwl : Jf tau Try.prog 106 Jtv := Jf.mk' fun xs es k res hl hr => by
 change Jff xs es k = some res at hr
 unfold Jff at hr
 split at hr
 · rename_i z f b
   obtain ⟨hc, hr⟩ := JG hr
   rw [Bool.and_eq_true, Nat.ble_eq] at hc
   have hg := (JqH z f b hc.1 hc.2 k).trans hr
   exact Qj Jq Jkt Jr Jts Jtt (Jku (VQ 50)) [.ro, .ro] 0 0 (JBz 50) hl rfl ((JFt 50 z f b k).trans hg)
 · cases hr
def JBB : Fns := F0
theorem JqI : Ju tau Try.prog JBB := JB
def Jkw : An := (.seq .leaf (.seq .leaf .leaf))
def JBC (f : Nat) (n most : Int) (k : Res -> Option Res) : Option Res := bif decide (n >= 0) then k (Res.mk (.sc (.bool (decide (n <= most)))) [] []) else k (Res.mk (.sc (.bool false)) [] [])
theorem JFu (f : Nat) (n most : Int) (k : Res -> Option Res) : JN tau JBB Try.f163 (Try.f163.body.get!) Jkw [.ro] 0 [.sc (.int .i64 n), .sc (.int .i64 most)] [] k = JBC f n most k := by kernel_rfl
theorem JBD (f : Nat) : Je (Try.f163.body.get!) Jkw = [] := by kernel_rfl
theorem JBE (f : Nat) : ∀ q ∈ Je (Try.f163.body.get!) Jkw, q.Ok tau Try.prog 0 := by
 rw [JBD f]; intro q hq; cases hq
theorem Jtw : Try.prog.funcs[163]? = some Try.f163 := by kernel_rfl
theorem Jtx : Try.f163.body = some (Try.f163.body.get!) := by kernel_rfl
theorem Jty : Enters Try.prog 163 := enters_of Jtw (by kernel_rfl) Jtx
def JiC : List PV -> List Ent -> (Res -> Option Res) -> Option Res
 | [.sc (.int .i64 n), .sc (.int .i64 most)], [], k => JBC 0 n most k
 | _, _, _ => none
def Jwm : Sig := { own := [], run := JiC }
theorem Jtz : Jf tau Try.prog 163 Jwm := JP Jq JqI Jr Jtw Jtx Jkw [.ro] 0 [] JiC (JBE 0) fun xs es k res hr => by
 unfold JiC at hr
 split at hr
 · exact ⟨rfl, 0, (JFu 0 _ _  _).trans hr⟩
 · cases hr
def JBF : Fns := JC 163 Jwm (F0)
theorem JqJ : Ju tau Try.prog JBF := (JB).add Jtz Jty
def Jkx : An := (.seq .leaf (.seq .leaf .leaf))
def JBG (f : Nat) (a_D a_U : Int) (k : Res -> Option Res) : Option Res := bif decide (a_D >= 0) then bif decide (a_D <= 2) then bif decide (a_U >= 0) then k (Res.mk (.sc (.bool (decide (a_U <= 7)))) [] []) else k (Res.mk (.sc (.bool false)) [] []) else k (Res.mk (.sc (.bool false)) [] []) else k (Res.mk (.sc (.bool false)) [] [])
theorem JFv (f : Nat) (a_D a_U : Int) (k : Res -> Option Res) : JN tau JBF Try.f162 (Try.f162.body.get!) Jkx [.ro] 0 [.st 45 [.sc (.int .i64 a_D), .sc (.int .i64 a_U)]] [] k = JBG f a_D a_U k := by kernel_rfl
theorem JBH (f : Nat) : Je (Try.f162.body.get!) Jkx = [] := by kernel_rfl
theorem JBI (f : Nat) : ∀ q ∈ Je (Try.f162.body.get!) Jkx, q.Ok tau Try.prog 0 := by
 rw [JBH f]; intro q hq; cases hq
theorem JtA : Try.prog.funcs[162]? = some Try.f162 := by kernel_rfl
theorem JtB : Try.f162.body = some (Try.f162.body.get!) := by kernel_rfl
theorem JBJ : Enters Try.prog 162 := enters_of JtA (by kernel_rfl) JtB
def JiD : List PV -> List Ent -> (Res -> Option Res) -> Option Res
 | [.st 45 [.sc (.int .i64 a_D), .sc (.int .i64 a_U)]], [], k => JBG 0 a_D a_U k
 | _, _, _ => none
def JBK : Sig := { own := [], run := JiD }
theorem JBL : Jf tau Try.prog 162 JBK := JP Jq JqJ Jr JtA JtB Jkx [.ro] 0 [] JiD (JBI 0) fun xs es k res hr => by
 unfold JiD at hr
 split at hr
 · exact ⟨rfl, 0, (JFv 0 _ _  _).trans hr⟩
 · cases hr
def JBM : Fns := JC 163 Jwm (JC 162 JBK (JC 160 Jnw (F0)))
theorem JqK : Ju tau Try.prog JBM := (((JB).add Jnx Jtd).add JBL JBJ).add Jtz Jty
def Jky : An := (.seq .leaf (.seq (.seq .leaf (.cond (.seq .leaf .leaf) .leaf)) (.seq (.seq .leaf (.block none (.seq .leaf (.cond (.seq (.seq .leaf (.seq .leaf (.cond (.seq .leaf .leaf) .leaf))) (.seq .leaf (.cond (.seq .leaf .leaf) .leaf))) (.seq (.seq .leaf (.cond .leaf .leaf)) (.cond (.seq .leaf (.cond (.seq .leaf .leaf) .leaf)) (.seq .leaf .leaf))))))) (.seq .leaf .leaf))))
def JqL (f : Nat) (y0 y1 d_Id y2 : Int) (y3 : List PV) (y4 : Int) (y5 y6 : Bool) (d_Op : List PV) (y7 y8 : Int) (k : Res -> Option Res) : Option Res := bif decide (y0 >= 0) then bif decide (y0 <= 2) then bif decide (y1 >= 0) then bif !decide (y1 <= 7) then k (Res.mk (.sc (.int .i64 1)) [] []) else bif decide (d_Id >= 0) then bif !decide (d_Id <= 1073741824) then k (Res.mk (.sc (.int .i64 1)) [] []) else bif decide (y2 >= 0) then bif !decide (y2 <= 1048576) then k (Res.mk (.sc (.int .i64 1)) [] []) else bif y4 == 1 then bif cOk d_Op then bif ckO d_Op != 0 then k (Res.mk (.sc (.int .i64 (ckO d_Op))) [] []) else bif !(y7 == 0 && (y8 == 0 && true)) then k (Res.mk (.sc (.int .i64 1)) [] []) else k (Res.mk (.sc (.int .i64 0)) [] []) else none else bif y4 == 2 then bif y4 == 2 then bif decide (zi d_Op.length > 0) then k (Res.mk (.sc (.int .i64 1)) [] []) else bif decide (y7 >= 0) then bif decide (y7 <= 2) then bif decide (y8 >= 0) then bif !decide (y8 <= 7) then k (Res.mk (.sc (.int .i64 1)) [] []) else k (Res.mk (.sc (.int .i64 0)) [] []) else k (Res.mk (.sc (.int .i64 1)) [] []) else k (Res.mk (.sc (.int .i64 1)) [] []) else k (Res.mk (.sc (.int .i64 1)) [] []) else k (Res.mk (.sc (.int .i64 3)) [] []) else bif y4 == 3 then bif decide (zi d_Op.length > 0) then k (Res.mk (.sc (.int .i64 1)) [] []) else bif decide (y7 >= 0) then bif decide (y7 <= 2) then bif decide (y8 >= 0) then bif !decide (y8 <= 7) then k (Res.mk (.sc (.int .i64 1)) [] []) else k (Res.mk (.sc (.int .i64 0)) [] []) else k (Res.mk (.sc (.int .i64 1)) [] []) else k (Res.mk (.sc (.int .i64 1)) [] []) else k (Res.mk (.sc (.int .i64 1)) [] []) else k (Res.mk (.sc (.int .i64 3)) [] []) else k (Res.mk (.sc (.int .i64 1)) [] []) else k (Res.mk (.sc (.int .i64 1)) [] []) else k (Res.mk (.sc (.int .i64 1)) [] []) else k (Res.mk (.sc (.int .i64 1)) [] []) else k (Res.mk (.sc (.int .i64 1)) [] [])
theorem JFw (f : Nat) (y0 y1 d_Id y2 : Int) (y3 : List PV) (y4 : Int) (y5 y6 : Bool) (d_Op : List PV) (y7 y8 : Int) (k : Res -> Option Res) : JN tau JBM Try.f144 (Try.f144.body.get!) Jky [.ro] 0 [.st 73 [.st 45 [.sc (.int .i64 y0), .sc (.int .i64 y1)], .sc (.int .i64 d_Id), .sc (.int .i64 y2), .ar 37 y3, .sc (.int .i64 y4), .ro 99 y5 y6 d_Op, .st 45 [.sc (.int .i64 y7), .sc (.int .i64 y8)]]] [] k = JqL f y0 y1 d_Id y2 y3 y4 y5 y6 d_Op y7 y8 k := by kernel_rfl
theorem JBN (f : Nat) : Je (Try.f144.body.get!) Jky = [] := by kernel_rfl
theorem JBO (f : Nat) : ∀ q ∈ Je (Try.f144.body.get!) Jky, q.Ok tau Try.prog 0 := by
 rw [JBN f]; intro q hq; cases hq
theorem JtC : Try.prog.funcs[144]? = some Try.f144 := by kernel_rfl
theorem JtD : Try.f144.body = some (Try.f144.body.get!) := by kernel_rfl
theorem JBP : Enters Try.prog 144 := enters_of JtC (by kernel_rfl) JtD
def JiE : List PV -> List Ent -> (Res -> Option Res) -> Option Res
 | [.st 73 [.st 45 [.sc (.int .i64 y0), .sc (.int .i64 y1)], .sc (.int .i64 d_Id), .sc (.int .i64 y2), .ar 37 y3, .sc (.int .i64 y4), .ro 99 y5 y6 d_Op, .st 45 [.sc (.int .i64 y7), .sc (.int .i64 y8)]]], [], k => JqL 0 y0 y1 d_Id y2 y3 y4 y5 y6 d_Op y7 y8 k
 | _, _, _ => none
def JFx : Sig := { own := [], run := JiE }
theorem JBQ : Jf tau Try.prog 144 JFx := JP Jq JqK Jr JtC JtD Jky [.ro] 0 [] JiE (JBO 0) fun xs es k res hr => by
 unfold JiE at hr
 split at hr
 · exact ⟨rfl, 0, (JFw 0 _ _ _ _ _ _ _ _ _ _ _  _).trans hr⟩
 · cases hr


def F92 : Fns := F0
def JFy : An := (.seq .leaf (.seq .leaf .leaf))
def g92 (f : Nat) (n top : Int) (k : Res -> Option Res) : Option Res := bif decide (n >= 0) then k (Res.mk (.sc (.bool (decide (n <= top)))) [] []) else k (Res.mk (.sc (.bool false)) [] [])
theorem e92 (f : Nat) (n top : Int) (k : Res -> Option Res) : JN tau F92 Try.f92 (Try.f92.body.get!) JFy [.ro] 0 [.sc (.int .i64 n), .sc (.int .i64 top)] [] k = g92 f n top k := by kernel_rfl
def F91 : Fns := F0
theorem Jwn : Ju tau Try.prog F91 := JB
def JqM : An := (.seq .leaf (.seq .leaf .leaf))
def g91 (f : Nat) (a_D a_U : Int) (k : Res -> Option Res) : Option Res := bif decide (a_D >= 0) then bif decide (a_D < 3) then bif decide (a_U >= 0) then k (Res.mk (.sc (.bool (decide (a_U < 8)))) [] []) else k (Res.mk (.sc (.bool false)) [] []) else k (Res.mk (.sc (.bool false)) [] []) else k (Res.mk (.sc (.bool false)) [] [])
theorem e91 (f : Nat) (a_D a_U : Int) (k : Res -> Option Res) : JN tau F91 Try.f91 (Try.f91.body.get!) JqM [.ro] 0 [.st 45 [.sc (.int .i64 a_D), .sc (.int .i64 a_U)]] [] k = g91 f a_D a_U k := by kernel_rfl
theorem JFz (f : Nat) : Je (Try.f91.body.get!) JqM = [] := by kernel_rfl
theorem JFA (f : Nat) : ∀ q ∈ Je (Try.f91.body.get!) JqM, q.Ok tau Try.prog 0 := by
 rw [JFz f]; intro q hq; cases hq
theorem JBR : Try.prog.funcs[91]? = some Try.f91 := by kernel_rfl
theorem JBS : Try.f91.body = some (Try.f91.body.get!) := by kernel_rfl
theorem JFB : Enters Try.prog 91 := enters_of JBR (by kernel_rfl) JBS
def JnS : List PV -> List Ent -> (Res -> Option Res) -> Option Res
 | [.st 45 [.sc (.int .i64 a_D), .sc (.int .i64 a_U)]], [], k => g91 0 a_D a_U k
 | _, _, _ => none
def s91 : Sig := { own := [], run := JnS }
theorem JFC : Jf tau Try.prog 91 s91 := JP Jq Jwn Jr JBR JBS JqM [.ro] 0 [] JnS (JFA 0) fun xs es k res hr => by
 unfold JnS at hr
 split at hr
 · exact ⟨rfl, 0, (e91 0 _ _  _).trans hr⟩
 · cases hr
-- FN ref16.domain | ref16.Wave | ref16.number | ref8.User
def inZ (x m : Int) : Bool := decide (x >= 0) && decide (x <= m)
def JqN : List Int -> Bool
 | x :: m :: r => inZ x m && JqN r
 | _ => true
def inA : List Int -> Bool := hid JqN
theorem Jwo (l : List Int) : inA l = JqN l := by rw [inA, hid_eq]
theorem JtE (a b c d : Int) : inA [a, b, c, d] = (inZ a b && inZ c d) := by rw [Jwo]; simp [JqN]
def JiF : List PV -> List Ent -> (Res -> Option Res) -> Option Res
 | [.st 45 [.sc (.int .i64 a), .sc (.int .i64 b)]], [], k => k ⟨.sc (.bool (inA [a, 2, b, 7])), [], []⟩
 | _, _, _ => none
def JBT : Sig := { own := [], run := JiF }
theorem JBU : Jf tau Try.prog 91 JBT := JFC.of fun xs es k res hr => by
 change JiF xs es k = some res at hr
 unfold JiF at hr
 split at hr
 · rename_i a b
   show g91 0 a b k = some res
   rw [JtE] at hr
   unfold g91
   unfold inZ at hr
   by_cases h1 : a >= 0 <;> by_cases h2 : a < 3 <;> by_cases h3 : b >= 0 <;> by_cases h4 : b < 8 <;> simp [h1, h2, h3, h4, show (a <= 2) ↔ (a < 3) from by omega, show (b <= 7) ↔ (b < 8) from by omega] at hr ⊢ <;> exact hr
 · cases hr
def JBV : Fns := JC 117 Jnz (JC 91 JBT (F0))
theorem JqO : Ju tau Try.prog JBV := ((JB).add JBU JFB).add JnA Jtg
def Jkz : An := (.seq .leaf (.seq (.seq .leaf (.cond (.seq .leaf .leaf) .leaf)) (.seq (.seq .leaf (.block none (.seq .leaf (.cond (.seq .leaf (.seq (.seq .leaf (.cond (.seq .leaf .leaf) .leaf)) (.seq .leaf (.cond (.seq .leaf .leaf) .leaf)))) (.seq (.seq .leaf (.cond .leaf .leaf)) (.cond (.seq .leaf (.cond (.seq .leaf .leaf) .leaf)) (.seq .leaf .leaf))))))) (.seq .leaf .leaf))))
def JqP (f : Nat) (y0 y1 d_Id y2 : Int) (y3 : List PV) (y4 : Int) (y5 y6 : Bool) (d_Op : List PV) (y7 y8 : Int) (k : Res -> Option Res) : Option Res := bif !inA [y0, 2, y1, 7] then k (Res.mk (.sc (.int .i64 1)) [] []) else bif decide (d_Id < 0) then k (Res.mk (.sc (.int .i64 1)) [] []) else bif decide (d_Id > 1073741824) then k (Res.mk (.sc (.int .i64 1)) [] []) else bif decide (y2 < 0) then k (Res.mk (.sc (.int .i64 1)) [] []) else bif decide (y2 > 1048576) then k (Res.mk (.sc (.int .i64 1)) [] []) else bif y4 == 1 then bif cOk d_Op then bif ckO d_Op != 0 then k (Res.mk (.sc (.int .i64 (ckO d_Op))) [] []) else bif !(y7 == 0 && (y8 == 0 && true)) then k (Res.mk (.sc (.int .i64 1)) [] []) else k (Res.mk (.sc (.int .i64 0)) [] []) else none else bif y4 == 2 then bif y4 == 2 then bif decide (zi d_Op.length > 0) then k (Res.mk (.sc (.int .i64 1)) [] []) else bif !inA [y7, 2, y8, 7] then k (Res.mk (.sc (.int .i64 1)) [] []) else k (Res.mk (.sc (.int .i64 0)) [] []) else k (Res.mk (.sc (.int .i64 3)) [] []) else bif y4 == 3 then bif decide (zi d_Op.length > 0) then k (Res.mk (.sc (.int .i64 1)) [] []) else bif !inA [y7, 2, y8, 7] then k (Res.mk (.sc (.int .i64 1)) [] []) else k (Res.mk (.sc (.int .i64 0)) [] []) else k (Res.mk (.sc (.int .i64 3)) [] [])
theorem JFD (f : Nat) (y0 y1 d_Id y2 : Int) (y3 : List PV) (y4 : Int) (y5 y6 : Bool) (d_Op : List PV) (y7 y8 : Int) (k : Res -> Option Res) : JN tau JBV Try.f107 (Try.f107.body.get!) Jkz [.ro] 0 [.st 73 [.st 45 [.sc (.int .i64 y0), .sc (.int .i64 y1)], .sc (.int .i64 d_Id), .sc (.int .i64 y2), .ar 37 y3, .sc (.int .i64 y4), .ro 99 y5 y6 d_Op, .st 45 [.sc (.int .i64 y7), .sc (.int .i64 y8)]]] [] k = JqP f y0 y1 d_Id y2 y3 y4 y5 y6 d_Op y7 y8 k := by kernel_rfl
theorem JBW (f : Nat) : Je (Try.f107.body.get!) Jkz = [] := by kernel_rfl
theorem JBX (f : Nat) : ∀ q ∈ Je (Try.f107.body.get!) Jkz, q.Ok tau Try.prog 0 := by
 rw [JBW f]; intro q hq; cases hq
theorem JtF : Try.prog.funcs[107]? = some Try.f107 := by kernel_rfl
theorem JtG : Try.f107.body = some (Try.f107.body.get!) := by kernel_rfl
theorem JBY : Enters Try.prog 107 := enters_of JtF (by kernel_rfl) JtG
def JiG : List PV -> List Ent -> (Res -> Option Res) -> Option Res
 | [.st 73 [.st 45 [.sc (.int .i64 y0), .sc (.int .i64 y1)], .sc (.int .i64 d_Id), .sc (.int .i64 y2), .ar 37 y3, .sc (.int .i64 y4), .ro 99 y5 y6 d_Op, .st 45 [.sc (.int .i64 y7), .sc (.int .i64 y8)]]], [], k => JqP 0 y0 y1 d_Id y2 y3 y4 y5 y6 d_Op y7 y8 k
 | _, _, _ => none
def JFE : Sig := { own := [], run := JiG }
theorem JBZ : Jf tau Try.prog 107 JFE := JP Jq JqO Jr JtF JtG Jkz [.ro] 0 [] JiG (JBX 0) fun xs es k res hr => by
 unfold JiG at hr
 split at hr
 · exact ⟨rfl, 0, (JFD 0 _ _ _ _ _ _ _ _ _ _ _  _).trans hr⟩
 · cases hr
-- FN delta.Check | ref8.Check
def JiH (d : DV) : Int :=
 bif inZ d.ad 2 && (inZ d.au 7 && (inZ d.id 1073741824 && inZ d.ve 1048576)) then
  (bif d.kd == 1 then (bif ckO d.o == 0 then (bif d.wd == 0 && d.wu == 0 then 0 else 1) else ckO d.o)
  else bif d.kd == 2 || d.kd == 3 then (bif d.o.isEmpty && (inZ d.wd 2 && inZ d.wu 7) then 0 else 1)
  else 3)
 else 1
def dCk : DV -> Int := hid JiH
theorem Jaz (d : DV) : dCk d = JiH d := by rw [dCk, hid_eq]
theorem Ve (x m : Int) : inZ x m = (decide (x >= 0) && decide (x <= m)) := rfl
theorem JFF (x : Int) : decide (x < 0) = !decide (x >= 0) := by rw [← decide_not]; apply decide_eq_decide.2; omega
theorem JFG (x m : Int) : decide (x > m) = !decide (x <= m) := by rw [← decide_not]; apply decide_eq_decide.2; omega
theorem JgJ (l : List PV) : decide (zi l.length > 0) = !l.isEmpty := by
 cases l with
 | nil => rfl
 | cons p ps => exact decide_eq_true (by simp only [zi, List.length_cons]; omega)
theorem JqQ (ad au id1 ve : Int) (h : List PV) (kd : Int) (oz of : Bool) (o : List PV) (wd wu : Int) (hc : cOk o = true) (k : Res -> Option Res) : JqL 0 ad au id1 ve h kd oz of o wd wu k = k ⟨.sc (.int .i64 (dCk ⟨ad, au, id1, ve, h, kd, o, wd, wu⟩)), [], []⟩ := by
 rw [Jaz]
 unfold JqL JiH
 simp only [hc, Ve, JgJ, cond_true, bne]
 have h2 : (kd == 2) = true -> (kd == 1) = false := fun h => by
     have : kd = 2 := by simpa using h
     rw [this]; decide
 generalize o.isEmpty = e0
 generalize (kd == 1) = d1 at *
 generalize (kd == 2) = d2 at *
 generalize (kd == 3) = d3
 generalize (wd == 0) = w0
 generalize (wu == 0) = w1
 generalize hck : ckO o = ck
 cases decide (ad >= 0)
 · rfl
 cases decide (ad <= 2)
 · rfl
 cases decide (au >= 0)
 · rfl
 cases decide (au <= 7)
 · rfl
 cases decide (id1 >= 0)
 · rfl
 cases decide (id1 <= 1073741824)
 · rfl
 cases decide (ve >= 0)
 · rfl
 cases decide (ve <= 1048576)
 · rfl
 cases d1
 · cases d2
   · cases d3
     · rfl
     · cases e0 <;> cases decide (wd >= 0) <;> cases decide (wd <= 2) <;> cases decide (wu >= 0) <;> cases decide (wu <= 7) <;> rfl
   · cases e0 <;> cases decide (wd >= 0) <;> cases decide (wd <= 2) <;> cases decide (wu >= 0) <;> cases decide (wu <= 7) <;> rfl
 · cases ck == 0 <;> cases w0 <;> cases w1 <;> rfl
def Jfg : List PV -> List Ent -> (Res -> Option Res) -> Option Res
 | [.st 73 [.st 45 [.sc (.int .i64 ad), .sc (.int .i64 au)], .sc (.int .i64 id1), .sc (.int .i64 ve), .ar 37 h, .sc (.int .i64 kd), .ro 99 oz of o, .st 45 [.sc (.int .i64 wd), .sc (.int .i64 wu)]]], [], k => bif cOk o then k ⟨.sc (.int .i64 (dCk ⟨ad, au, id1, ve, h, kd, o, wd, wu⟩)), [], []⟩ else none
 | _, _, _ => none
def JtH : Sig := { own := [], run := Jfg }
theorem Jwp : Jf tau Try.prog 144 JtH := JBQ.of fun xs es k res hr => by
 change Jfg xs es k = some res at hr
 unfold Jfg at hr
 split at hr
 · rename_i ad au id1 ve h kd oz of o wd wu
   obtain ⟨hc, hr⟩ := JG hr
   exact (JqQ ad au id1 ve h kd oz of o wd wu hc k).trans hr
 · cases hr
theorem JqR (ad au id1 ve : Int) (h : List PV) (kd : Int) (oz of : Bool) (o : List PV) (wd wu : Int) (hc : cOk o = true) (k : Res -> Option Res) : JqP 0 ad au id1 ve h kd oz of o wd wu k = k ⟨.sc (.int .i64 (dCk ⟨ad, au, id1, ve, h, kd, o, wd, wu⟩)), [], []⟩ := by
 rw [Jaz]
 unfold JqP JiH
 simp only [hc, JgJ, cond_true, bne]
 simp only [Ve, JtE, JFF, JFG]
 have h2 : (kd == 2) = true -> (kd == 1) = false := fun h => by
     have : kd = 2 := by simpa using h
     rw [this]; decide
 generalize o.isEmpty = e0
 generalize (kd == 1) = d1 at *
 generalize (kd == 2) = d2 at *
 generalize (kd == 3) = d3
 generalize (wd == 0) = w0
 generalize (wu == 0) = w1
 generalize hck : ckO o = ck
 cases decide (ad >= 0)
 · rfl
 cases decide (ad <= 2)
 · rfl
 cases decide (au >= 0)
 · rfl
 cases decide (au <= 7)
 · rfl
 cases decide (id1 >= 0)
 · rfl
 cases decide (id1 <= 1073741824)
 · rfl
 cases decide (ve >= 0)
 · rfl
 cases decide (ve <= 1048576)
 · rfl
 cases d1
 · cases d2
   · cases d3
     · rfl
     · cases e0 <;> cases decide (wd >= 0) <;> cases decide (wd <= 2) <;> cases decide (wu >= 0) <;> cases decide (wu <= 7) <;> rfl
   · cases e0 <;> cases decide (wd >= 0) <;> cases decide (wd <= 2) <;> cases decide (wu >= 0) <;> cases decide (wu <= 7) <;> rfl
 · cases ck == 0 <;> cases w0 <;> cases w1 <;> rfl
def Jfh : List PV -> List Ent -> (Res -> Option Res) -> Option Res
 | [.st 73 [.st 45 [.sc (.int .i64 ad), .sc (.int .i64 au)], .sc (.int .i64 id1), .sc (.int .i64 ve), .ar 37 h, .sc (.int .i64 kd), .ro 99 oz of o, .st 45 [.sc (.int .i64 wd), .sc (.int .i64 wu)]]], [], k => bif cOk o then k ⟨.sc (.int .i64 (dCk ⟨ad, au, id1, ve, h, kd, o, wd, wu⟩)), [], []⟩ else none
 | _, _, _ => none
def JtI : Sig := { own := [], run := Jfh }
theorem Jwq : Jf tau Try.prog 107 JtI := JBZ.of fun xs es k res hr => by
 change Jfh xs es k = some res at hr
 unfold Jfh at hr
 split at hr
 · rename_i ad au id1 ve h kd oz of o wd wu
   obtain ⟨hc, hr⟩ := JG hr
   exact (JqR ad au id1 ve h kd oz of o wd wu hc k).trans hr
 · cases hr
def JcX : Nat := 62
def JnT : Fns := JC 144 JtH (JC 143 Jtu (JC 135 Jmn (JC 133 Juv (JC 132 Juu (JC 78 s78 (JC 76 s76 (F0)))))))
theorem JkA : Ju tau Try.prog JnT := (((((((JB).add JxE JxD).add JyH JyG).add JrW JrV).add Jr0 JrZ).add Jmo Jr3).add Jwk JBn).add Jwp JBP
def JaA : Code := Qu (Try.f103.body.get!) [1, 1, 1, 0, 1, 0, 0]
def W8 : Nm := [(2, .any), (4, .any), (5, .any), (21, .any)]
def XK : Nm := [(2, .any), (4, .any), (5, .any)]
def Jct : An := (.seq .leaf (.seq (.cond .leaf .leaf) (.seq (.block none (.seq .leaf .leaf)) .leaf)))
def JkB (r0 : QJ) : An := (.seq .leaf (.seq .leaf (.seq .leaf (.seq (.seq .leaf (.block none (.sum W8 JcX r0))) (.seq .leaf (.seq .leaf (.seq .leaf (.seq .leaf (.seq (.seq .leaf (.cond .leaf .leaf)) (.seq (.seq .leaf (.cond .leaf .leaf)) (.seq (.seq .leaf (.cond (.seq .leaf .leaf) .leaf)) (.seq .leaf .leaf))))))))))))
def ZM (f : Nat) (rc : Int -> Int -> Int -> Int -> Int -> List PV -> Int -> List PV -> Int -> Int -> Bool -> Bool -> List PV -> Int -> Int -> Int -> Int -> Int -> List PV -> Int -> List PV -> Int -> Int -> Option Res) (k0 : Int -> Int -> Int -> Int -> List PV -> Int -> List PV -> Int -> Int -> Bool -> Bool -> List PV -> Int -> Int -> Int -> Int -> Int -> List PV -> Int -> List PV -> Int -> Int -> Option Res) (v0 v1 v2 v3 v4 : Int) (v5 : List PV) (v6 : Int) (v7 : List PV) (v8 v9 : Int) (v10 v11 : Bool) (v12 : List PV) (v13 v14 v15 v16 v17 : Int) (v18 : List PV) (v19 : Int) (v20 : List PV) (v21 v22 : Int) : Option Res := bif decide (v0 < 32) then bif (!v10 || v11) && true && byB v12 then bif decide (0 <= v0) && decide (v0 < zi 32) && true then rc (IntKind.i64.wrap (v0 + 1)) v1 v2 v3 v4 v5 v6 v7 v8 v9 v10 v11 ((Jc 1 (RS.mk v12 v13)).b) ((Jc 1 (RS.mk v12 v13)).e) v14 v15 v16 v17 (v18.set v0.toNat (.sc (.int .u8 (IntKind.u8.wrap (Jw 1 (RS.mk v12 v13)))))) v19 v20 v21 v22 else none else none else k0 v1 v2 v3 v4 v5 v6 v7 v8 v9 v10 v11 v12 v13 v14 v15 v16 v17 v18 v19 v20 v21 v22
def YF (f : Nat) (k0 : Int -> Int -> Int -> Int -> List
 PV -> Int -> List
 PV -> Int -> Int -> Bool -> Bool -> List
 PV -> Int -> Int -> Int -> Int -> Int -> List
 PV -> Int -> List
 PV -> Int -> Int -> Option Res) : Nat -> Int -> Int -> Int -> Int -> Int -> List
 PV -> Int -> List PV -> Int -> Int -> Bool -> Bool -> List PV -> Int -> Int -> Int -> Int -> Int -> List PV -> Int -> List PV -> Int -> Int -> Option Res
 | 0, _, _, _, _, _, _, _, _, _, _, _, _, _, _, _, _, _, _, _, _, _, _, _ => none
 | n + 1, v0, v1, v2, v3, v4, v5, v6, v7, v8, v9, v10, v11, v12, v13, v14, v15, v16, v17, v18, v19, v20, v21, v22 => ZM f (YF f k0 n) k0 v0 v1 v2 v3 v4 v5 v6 v7 v8 v9 v10 v11 v12 v13 v14 v15 v16 v17 v18 v19 v20 v21 v22
theorem JnU (f : Nat) (k : Kont) (n : Nat) (v0 v1 v2 v3 v4 : Int) (v5 : List PV) (v6 : Int) (v7 : List PV) (v8 v9 : Int) (v10 v11 : Bool) (v12 : List PV) (v13 v14 v15 v16 v17 : Int) (v18 : List PV) (v19 : Int) (v20 : List PV) (v21 v22 : Int) : Jn tau 0 W8 (fun s k => ev tau JnT 0 0 JaA (Jct ) s k) (n + 1) (Jd W8 JcX [.ptr 1008 [], .ptr 1009 [], .ptr 1010 [], .sc (.int .i64 v0)] [(1008, .box false 73 (PV.st 73 [.st 45 [.sc (.int .i64 v1), .sc (.int .i64 v2)], .sc (.int .i64 v3), .sc (.int .i64 v4), .ar 37 v5, .sc (.int .i64 v6), .ro 99 true true v7, .st 45 [.sc (.int .i64 v8), .sc (.int .i64 v9)]])), (1009, .box false 186 (PV.st 186 [.ro 5 v10 v11 v12, .sc (.int .i64 v13)])), (1010, .box false 73 (PV.st 73 [.st 45 [.sc (.int .i64 v14), .sc (.int .i64 v15)], .sc (.int .i64 v16), .sc (.int .i64 v17), .ar 37 v18, .sc (.int .i64 v19), .ro 99 true true v20, .st 45 [.sc (.int .i64 v21), .sc (.int .i64 v22)]]))]) (Jt tau 0 XK k) = ZM f (fun v0 v1 v2 v3 v4 v5 v6 v7 v8 v9 v10 v11 v12 v13 v14 v15 v16 v17 v18 v19 v20 v21 v22 => Jn tau 0 W8 (fun s k => ev tau JnT 0 0 JaA (Jct ) s k) n (Jd W8 JcX [.ptr 1008 [], .ptr 1009 [], .ptr 1010 [], .sc (.int .i64 v0)] [(1008, .box false 73 (PV.st 73 [.st 45 [.sc (.int .i64 v1), .sc (.int .i64 v2)], .sc (.int .i64 v3), .sc (.int .i64 v4), .ar 37 v5, .sc (.int .i64 v6), .ro 99 true true v7, .st 45 [.sc (.int .i64 v8), .sc (.int .i64 v9)]])), (1009, .box false 186 (PV.st 186 [.ro 5 v10 v11 v12, .sc (.int .i64 v13)])), (1010, .box false 73 (PV.st 73 [.st 45 [.sc (.int .i64 v14), .sc (.int .i64 v15)], .sc (.int .i64 v16), .sc (.int .i64 v17), .ar 37 v18, .sc (.int .i64 v19), .ro 99 true true v20, .st 45 [.sc (.int .i64 v21), .sc (.int .i64 v22)]]))]) (Jt tau 0 XK k)) (fun x0 x1 x2 x3 x4 x5 x6 x7 x8 x9 x10 x11 x12 x13 x14 x15 x16 x17 x18 x19 x20 x21 => k (Ex.exit 0) (Jd XK JcX [.ptr 1008 [], .ptr 1009 [], .ptr 1010 []] [(1008, .box false 73 (PV.st 73 [.st 45 [.sc (.int .i64 x0), .sc (.int .i64 x1)], .sc (.int .i64 x2), .sc (.int .i64 x3), .ar 37 x4, .sc (.int .i64 x5), .ro 99 true true x6, .st 45 [.sc (.int .i64 x7), .sc (.int .i64 x8)]])), (1009, .box false 186 (PV.st 186 [.ro 5 x9 x10 x11, .sc (.int .i64 x12)])), (1010, .box false 73 (PV.st 73 [.st 45 [.sc (.int .i64 x13), .sc (.int .i64 x14)], .sc (.int .i64 x15), .sc (.int .i64 x16), .ar 37 x17, .sc (.int .i64 x18), .ro 99 true true x19, .st 45 [.sc (.int .i64 x20), .sc (.int .i64 x21)]]))])) v0 v1 v2 v3 v4 v5 v6 v7 v8 v9 v10 v11 v12 v13 v14 v15 v16 v17 v18 v19 v20 v21 v22 := by kernel_rfl
theorem JgK (f : Nat) (k : Kont) : ∀ (n : Nat) (v0 v1 v2 v3 v4 : Int) (v5 : List PV) (v6 : Int) (v7 : List PV) (v8 v9 : Int) (v10 v11 : Bool) (v12 : List PV) (v13 v14 v15 v16 v17 : Int) (v18 : List PV) (v19 : Int) (v20 : List PV) (v21 v22 : Int), Jn tau 0 W8 (fun s k => ev tau JnT 0 0 JaA (Jct ) s k) n (Jd W8 JcX [.ptr 1008 [], .ptr 1009 [], .ptr 1010 [], .sc (.int .i64 v0)] [(1008, .box false 73 (PV.st 73 [.st 45 [.sc (.int .i64 v1), .sc (.int .i64 v2)], .sc (.int .i64 v3), .sc (.int .i64 v4), .ar 37 v5, .sc (.int .i64 v6), .ro 99 true true v7, .st 45 [.sc (.int .i64 v8), .sc (.int .i64 v9)]])), (1009, .box false 186 (PV.st 186 [.ro 5 v10 v11 v12, .sc (.int .i64 v13)])), (1010, .box false 73 (PV.st 73 [.st 45 [.sc (.int .i64 v14), .sc (.int .i64 v15)], .sc (.int .i64 v16), .sc (.int .i64 v17), .ar 37 v18, .sc (.int .i64 v19), .ro 99 true true v20, .st 45 [.sc (.int .i64 v21), .sc (.int .i64 v22)]]))]) (Jt tau 0 XK k) = YF f (fun x0 x1 x2 x3 x4 x5 x6 x7 x8 x9 x10 x11 x12 x13 x14 x15 x16 x17 x18 x19 x20 x21 => k (Ex.exit 0) (Jd XK JcX [.ptr 1008 [], .ptr 1009 [], .ptr 1010 []] [(1008, .box false 73 (PV.st 73 [.st 45 [.sc (.int .i64 x0), .sc (.int .i64 x1)], .sc (.int .i64 x2), .sc (.int .i64 x3), .ar 37 x4, .sc (.int .i64 x5), .ro 99 true true x6, .st 45 [.sc (.int .i64 x7), .sc (.int .i64 x8)]])), (1009, .box false 186 (PV.st 186 [.ro 5 x9 x10 x11, .sc (.int .i64 x12)])), (1010, .box false 73 (PV.st 73 [.st 45 [.sc (.int .i64 x13), .sc (.int .i64 x14)], .sc (.int .i64 x15), .sc (.int .i64 x16), .ar 37 x17, .sc (.int .i64 x18), .ro 99 true true x19, .st 45 [.sc (.int .i64 x20), .sc (.int .i64 x21)]]))])) n v0 v1 v2 v3 v4 v5 v6 v7 v8 v9 v10 v11 v12 v13 v14 v15 v16 v17 v18 v19 v20 v21 v22 | 0, _, _, _, _, _, _, _, _, _, _, _, _, _, _, _, _, _, _, _, _, _, _, _ => rfl | n + 1, v0, v1, v2, v3, v4, v5, v6, v7, v8, v9, v10, v11, v12, v13, v14, v15, v16, v17, v18, v19, v20, v21, v22 => (JnU f k n v0 v1 v2 v3 v4 v5 v6 v7 v8 v9 v10 v11 v12 v13 v14 v15 v16 v17 v18 v19 v20 v21 v22).trans (congrArg (fun r => ZM f r (fun x0 x1 x2 x3 x4 x5 x6 x7 x8 x9 x10 x11 x12 x13 x14 x15 x16 x17 x18 x19 x20 x21 => k (Ex.exit 0) (Jd XK JcX [.ptr 1008 [], .ptr 1009 [], .ptr 1010 []] [(1008, .box false 73 (PV.st 73 [.st 45 [.sc (.int .i64 x0), .sc (.int .i64 x1)], .sc (.int .i64 x2), .sc (.int .i64 x3), .ar 37 x4, .sc (.int .i64 x5), .ro 99 true true x6, .st 45 [.sc (.int .i64 x7), .sc (.int .i64 x8)]])), (1009, .box false 186 (PV.st 186 [.ro 5 x9 x10 x11, .sc (.int .i64 x12)])), (1010, .box false 73 (PV.st 73 [.st 45 [.sc (.int .i64 x13), .sc (.int .i64 x14)], .sc (.int .i64 x15), .sc (.int .i64 x16), .ar 37 x17, .sc (.int .i64 x18), .ro 99 true true x19, .st 45 [.sc (.int .i64 x20), .sc (.int .i64 x21)]]))])) v0 v1 v2 v3 v4 v5 v6 v7 v8 v9 v10 v11 v12 v13 v14 v15 v16 v17 v18 v19 v20 v21 v22) (by funext v0 v1 v2 v3 v4 v5 v6 v7 v8 v9 v10 v11 v12 v13 v14 v15 v16 v17 v18 v19 v20 v21 v22; exact JgK f k n v0 v1 v2 v3 v4 v5 v6 v7 v8 v9 v10 v11 v12 v13 v14 v15 v16 v17 v18 v19 v20 v21 v22))
def VS (f : Nat) : List PV -> List (Nat × Ent) -> Kont -> Option Res
 | [.ptr 1008 [], .ptr 1009 [], .ptr 1010 [],
 PV.sc
  (Value.int IntKind.i64
   v0)], [(1008,
  Ent.box false 73
   (PV.st 73
    [.st 45 [.sc (.int .i64 v1), .sc (.int .i64 v2)], .sc (.int .i64 v3), .sc (.int .i64 v4), .ar 37 v5,
     .sc (.int .i64 v6), .ro 99 true true v7, .st 45 [.sc (.int .i64 v8), .sc (.int .i64 v9)]])),
 (1009, .box false 186 (PV.st 186 [.ro 5 v10 v11 v12, .sc (.int .i64 v13)])),
 (1010,
  Ent.box false 73
   (PV.st 73
    [.st 45 [.sc (.int .i64 v14), .sc (.int .i64 v15)], .sc (.int .i64 v16), .sc (.int .i64 v17), .ar 37 v18,
     .sc (.int .i64 v19), .ro 99 true true v20,
     PV.st 45
      [.sc (.int .i64 v21),
       PV.sc
        (Value.int IntKind.i64
         v22)]]))], k => YF f (fun x0 x1 x2 x3 x4 x5 x6 x7 x8 x9 x10 x11 x12 x13 x14 x15 x16 x17 x18 x19 x20 x21 => k (Ex.exit
 0) (Jd XK JcX [.ptr 1008 [], .ptr 1009 [],
 PV.ptr 1010
  []] [(1008,
  Ent.box false 73
   (PV.st 73
    [.st 45 [.sc (.int .i64 x0), .sc (.int .i64 x1)], .sc (.int .i64 x2), .sc (.int .i64 x3), .ar 37 x4,
     .sc (.int .i64 x5), .ro 99 true true x6, .st 45 [.sc (.int .i64 x7), .sc (.int .i64 x8)]])),
 (1009, .box false 186 (PV.st 186 [.ro 5 x9 x10 x11, .sc (.int .i64 x12)])),
 (1010,
  Ent.box false 73
   (PV.st 73
    [.st 45 [.sc (.int .i64 x13), .sc (.int .i64 x14)], .sc (.int .i64 x15), .sc (.int .i64 x16), .ar 37 x17,
     .sc (.int .i64 x18), .ro 99 true true x19,
     PV.st 45 [.sc (.int .i64 x20), .sc (.int .i64 x21)]]))])) f v0 v1 v2 v3 v4 v5 v6 v7 v8 v9 v10 v11 v12 v13 v14 v15 v16 v17 v18 v19 v20 v21 v22
 | _, _, _ => none
theorem JqS (f : Nat) : Je JaA Jct = [] := by kernel_rfl
theorem Jwr (f : Nat) : (Item.l JaA W8 JcX (VS f)).Ok tau Try.prog 0 := JI Jq JkA Jr (x := Jct) (nm2 := XK) (Js _ _ (by rw [JqS f]; intro q hq; cases hq)) fun vs hp k res hr => by
 unfold VS at hr
 split at hr
 · exact ⟨f, 0, (JgK f _ f _ _ _ _ _ _ _ _ _ _ _ _ _ _ _ _ _ _ _ _ _ _ _ ).trans hr⟩
 · cases hr
def Jws (f : Nat) (b_z b_f : Bool) (b : List PV) (k : Res -> Option Res) : Option Res := bif slB b_z b then bif (!b_z || b_z) && true && byB b then bif (!b_z || b_z) && true && byB (Jc 8 (RS.mk b 0)).b then bif (!b_z || b_z) && true && byB (Jc 8 (Jc 8 (RS.mk b 0))).b then bif (!b_z || b_z) && true && byB (Jc 8 (Jc 8 (Jc 8 (RS.mk b 0)))).b then YF f (fun x0_0 x1_0 x2_0 x3_0 x4_0 x5_0 x6_0 x7_0 x8_0 x9_0 x10_0 x11_0 x12_0 QL x14_0 x15_0 x16_0 x17_0 x18_0 x19_0 x20_0 x21_0 => bif (!x9_0 || x10_0) && true && byB x11_0 then bif (!x9_0 || x10_0) && byB (Jc 1 (RS.mk x11_0 x12_0)).b then bif (!x9_0 || x10_0) && true && byB (J9 (Jc 1 (RS.mk x11_0 x12_0))).b then bif (!x9_0 || x10_0) && true && byB (Jc 8 (J9 (Jc 1 (RS.mk x11_0 x12_0)))).b then bif (Jc 8 (Jc 8 (J9 (Jc 1 (RS.mk x11_0 x12_0))))).e == 0 then bif decide (zi (Jc 8 (Jc 8 (J9 (Jc 1 (RS.mk x11_0 x12_0))))).b.length > 0) then k (Res.mk (.tup [.st 73 [.st 45 [.sc (.int .i64 0), .sc (.int .i64 0)], .sc (.int .i64 0), .sc (.int .i64 0), .ar 37 [.sc (.int .u8 0), .sc (.int .u8 0), .sc (.int .u8 0), .sc (.int .u8 0), .sc (.int .u8 0), .sc (.int .u8 0), .sc (.int .u8 0), .sc (.int .u8 0), .sc (.int .u8 0), .sc (.int .u8 0), .sc (.int .u8 0), .sc (.int .u8 0), .sc (.int .u8 0), .sc (.int .u8 0), .sc (.int .u8 0), .sc (.int .u8 0), .sc (.int .u8 0), .sc (.int .u8 0), .sc (.int .u8 0), .sc (.int .u8 0), .sc (.int .u8 0), .sc (.int .u8 0), .sc (.int .u8 0), .sc (.int .u8 0), .sc (.int .u8 0), .sc (.int .u8 0), .sc (.int .u8 0), .sc (.int .u8 0), .sc (.int .u8 0), .sc (.int .u8 0), .sc (.int .u8 0), .sc (.int .u8 0)], .sc (.int .i64 0), .ro 99 true true [], .st 45 [.sc (.int .i64 0), .sc (.int .i64 0)]], .sc (.int .i64 9)]) [] []) else bif (Jc 8 (Jc 8 (J9 (Jc 1 (RS.mk x11_0 x12_0))))).e == 0 then bif Jl (JS (Jc 1 (RS.mk x11_0 x12_0))).size 1 && true then bif slB (Ent.vec false 5 false (Jj (JS (Jc 1 (RS.mk x11_0 x12_0))))).nil (List.take (JS (Jc 1 (RS.mk x11_0 x12_0))).size (List.drop 0 (Jj (JS (Jc 1 (RS.mk x11_0 x12_0)))))) && byB (List.take (JS (Jc 1 (RS.mk x11_0 x12_0))).size (Jj (JS (Jc 1 (RS.mk x11_0 x12_0))))) then bif opE (List.take (JS (Jc 1 (RS.mk x11_0 x12_0))).size (Jj (JS (Jc 1 (RS.mk x11_0 x12_0))))) == 0 then bif cOk (opL (List.take (JS (Jc 1 (RS.mk x11_0 x12_0))).size (Jj (JS (Jc 1 (RS.mk x11_0 x12_0)))))) then bif dCk (DV.mk QL x14_0 x15_0 x16_0 x17_0 (Jw 1 (RS.mk x11_0 x12_0)) (opL (List.take (JS (Jc 1 (RS.mk x11_0 x12_0))).size (Jj (JS (Jc 1 (RS.mk x11_0 x12_0)))))) (Jw 8 (J9 (Jc 1 (RS.mk x11_0 x12_0)))) (Jw 8 (Jc 8 (J9 (Jc 1 (RS.mk x11_0 x12_0)))))) != 0 then k (Res.mk (.tup [.st 73 [.st 45 [.sc (.int .i64 0), .sc (.int .i64 0)], .sc (.int .i64 0), .sc (.int .i64 0), .ar 37 [.sc (.int .u8 0), .sc (.int .u8 0), .sc (.int .u8 0), .sc (.int .u8 0), .sc (.int .u8 0), .sc (.int .u8 0), .sc (.int .u8 0), .sc (.int .u8 0), .sc (.int .u8 0), .sc (.int .u8 0), .sc (.int .u8 0), .sc (.int .u8 0), .sc (.int .u8 0), .sc (.int .u8 0), .sc (.int .u8 0), .sc (.int .u8 0), .sc (.int .u8 0), .sc (.int .u8 0), .sc (.int .u8 0), .sc (.int .u8 0), .sc (.int .u8 0), .sc (.int .u8 0), .sc (.int .u8 0), .sc (.int .u8 0), .sc (.int .u8 0), .sc (.int .u8 0), .sc (.int .u8 0), .sc (.int .u8 0), .sc (.int .u8 0), .sc (.int .u8 0), .sc (.int .u8 0), .sc (.int .u8 0)], .sc (.int .i64 0), .ro 99 true true [], .st 45 [.sc (.int .i64 0), .sc (.int .i64 0)]], .sc (.int .i64 (dCk (DV.mk QL x14_0 x15_0 x16_0 x17_0 (Jw 1 (RS.mk x11_0 x12_0)) (opL (List.take (JS (Jc 1 (RS.mk x11_0 x12_0))).size (Jj (JS (Jc 1 (RS.mk x11_0 x12_0)))))) (Jw 8 (J9 (Jc 1 (RS.mk x11_0 x12_0)))) (Jw 8 (Jc 8 (J9 (Jc 1 (RS.mk x11_0 x12_0))))))))]) [] []) else k (Res.mk (.tup [.st 73 [.st 45 [.sc (.int .i64 QL), .sc (.int .i64 x14_0)], .sc (.int .i64 x15_0), .sc (.int .i64 x16_0), .ar 37 x17_0, .sc (.int .i64 (Jw 1 (RS.mk x11_0 x12_0))), .ro 99 (opL (List.take (JS (Jc 1 (RS.mk x11_0 x12_0))).size (Jj (JS (Jc 1 (RS.mk x11_0 x12_0)))))).isEmpty (opL (List.take (JS (Jc 1 (RS.mk x11_0 x12_0))).size (Jj (JS (Jc 1 (RS.mk x11_0 x12_0)))))).isEmpty (opL (List.take (JS (Jc 1 (RS.mk x11_0 x12_0))).size (Jj (JS (Jc 1 (RS.mk x11_0 x12_0)))))), .st 45 [.sc (.int .i64 (Jw 8 (J9 (Jc 1 (RS.mk x11_0 x12_0))))), .sc (.int .i64 (Jw 8 (Jc 8 (J9 (Jc 1 (RS.mk x11_0 x12_0))))))]], .sc (.int .i64 0)]) [] []) else none else bif opE (List.take (JS (Jc 1 (RS.mk x11_0 x12_0))).size (Jj (JS (Jc 1 (RS.mk x11_0 x12_0))))) != 0 then k (Res.mk (.tup [.st 73 [.st 45 [.sc (.int .i64 0), .sc (.int .i64 0)], .sc (.int .i64 0), .sc (.int .i64 0), .ar 37 [.sc (.int .u8 0), .sc (.int .u8 0), .sc (.int .u8 0), .sc (.int .u8 0), .sc (.int .u8 0), .sc (.int .u8 0), .sc (.int .u8 0), .sc (.int .u8 0), .sc (.int .u8 0), .sc (.int .u8 0), .sc (.int .u8 0), .sc (.int .u8 0), .sc (.int .u8 0), .sc (.int .u8 0), .sc (.int .u8 0), .sc (.int .u8 0), .sc (.int .u8 0), .sc (.int .u8 0), .sc (.int .u8 0), .sc (.int .u8 0), .sc (.int .u8 0), .sc (.int .u8 0), .sc (.int .u8 0), .sc (.int .u8 0), .sc (.int .u8 0), .sc (.int .u8 0), .sc (.int .u8 0), .sc (.int .u8 0), .sc (.int .u8 0), .sc (.int .u8 0), .sc (.int .u8 0), .sc (.int .u8 0)], .sc (.int .i64 0), .ro 99 true true [], .st 45 [.sc (.int .i64 0), .sc (.int .i64 0)]], .sc (.int .i64 (opE (List.take (JS (Jc 1 (RS.mk x11_0 x12_0))).size (Jj (JS (Jc 1 (RS.mk x11_0 x12_0)))))))]) [] []) else k (Res.mk (.tup [.st 73 [.st 45 [.sc (.int .i64 QL), .sc (.int .i64 x14_0)], .sc (.int .i64 x15_0), .sc (.int .i64 x16_0), .ar 37 x17_0, .sc (.int .i64 (Jw 1 (RS.mk x11_0 x12_0))), .ro 99 (opL (List.take (JS (Jc 1 (RS.mk x11_0 x12_0))).size (Jj (JS (Jc 1 (RS.mk x11_0 x12_0)))))).isEmpty (opL (List.take (JS (Jc 1 (RS.mk x11_0 x12_0))).size (Jj (JS (Jc 1 (RS.mk x11_0 x12_0)))))).isEmpty (opL (List.take (JS (Jc 1 (RS.mk x11_0 x12_0))).size (Jj (JS (Jc 1 (RS.mk x11_0 x12_0)))))), .st 45 [.sc (.int .i64 (Jw 8 (J9 (Jc 1 (RS.mk x11_0 x12_0))))), .sc (.int .i64 (Jw 8 (Jc 8 (J9 (Jc 1 (RS.mk x11_0 x12_0))))))]], .sc (.int .i64 0)]) [] []) else none else none else bif (Jc 8 (Jc 8 (J9 (Jc 1 (RS.mk x11_0 x12_0))))).e == 0 then bif cOk x19_0 then bif dCk (DV.mk QL x14_0 x15_0 x16_0 x17_0 (Jw 1 (RS.mk x11_0 x12_0)) x19_0 (Jw 8 (J9 (Jc 1 (RS.mk x11_0 x12_0)))) (Jw 8 (Jc 8 (J9 (Jc 1 (RS.mk x11_0 x12_0)))))) != 0 then k (Res.mk (.tup [.st 73 [.st 45 [.sc (.int .i64 0), .sc (.int .i64 0)], .sc (.int .i64 0), .sc (.int .i64 0), .ar 37 [.sc (.int .u8 0), .sc (.int .u8 0), .sc (.int .u8 0), .sc (.int .u8 0), .sc (.int .u8 0), .sc (.int .u8 0), .sc (.int .u8 0), .sc (.int .u8 0), .sc (.int .u8 0), .sc (.int .u8 0), .sc (.int .u8 0), .sc (.int .u8 0), .sc (.int .u8 0), .sc (.int .u8 0), .sc (.int .u8 0), .sc (.int .u8 0), .sc (.int .u8 0), .sc (.int .u8 0), .sc (.int .u8 0), .sc (.int .u8 0), .sc (.int .u8 0), .sc (.int .u8 0), .sc (.int .u8 0), .sc (.int .u8 0), .sc (.int .u8 0), .sc (.int .u8 0), .sc (.int .u8 0), .sc (.int .u8 0), .sc (.int .u8 0), .sc (.int .u8 0), .sc (.int .u8 0), .sc (.int .u8 0)], .sc (.int .i64 0), .ro 99 true true [], .st 45 [.sc (.int .i64 0), .sc (.int .i64 0)]], .sc (.int .i64 (dCk (DV.mk QL x14_0 x15_0 x16_0 x17_0 (Jw 1 (RS.mk x11_0 x12_0)) x19_0 (Jw 8 (J9 (Jc 1 (RS.mk x11_0 x12_0)))) (Jw 8 (Jc 8 (J9 (Jc 1 (RS.mk x11_0 x12_0))))))))]) [] []) else k (Res.mk (.tup [.st 73 [.st 45 [.sc (.int .i64 QL), .sc (.int .i64 x14_0)], .sc (.int .i64 x15_0), .sc (.int .i64 x16_0), .ar 37 x17_0, .sc (.int .i64 (Jw 1 (RS.mk x11_0 x12_0))), .ro 99 true true x19_0, .st 45 [.sc (.int .i64 (Jw 8 (J9 (Jc 1 (RS.mk x11_0 x12_0))))), .sc (.int .i64 (Jw 8 (Jc 8 (J9 (Jc 1 (RS.mk x11_0 x12_0))))))]], .sc (.int .i64 0)]) [] []) else none else bif (Jc 8 (Jc 8 (J9 (Jc 1 (RS.mk x11_0 x12_0))))).e != 0 then k (Res.mk (.tup [.st 73 [.st 45 [.sc (.int .i64 0), .sc (.int .i64 0)], .sc (.int .i64 0), .sc (.int .i64 0), .ar 37 [.sc (.int .u8 0), .sc (.int .u8 0), .sc (.int .u8 0), .sc (.int .u8 0), .sc (.int .u8 0), .sc (.int .u8 0), .sc (.int .u8 0), .sc (.int .u8 0), .sc (.int .u8 0), .sc (.int .u8 0), .sc (.int .u8 0), .sc (.int .u8 0), .sc (.int .u8 0), .sc (.int .u8 0), .sc (.int .u8 0), .sc (.int .u8 0), .sc (.int .u8 0), .sc (.int .u8 0), .sc (.int .u8 0), .sc (.int .u8 0), .sc (.int .u8 0), .sc (.int .u8 0), .sc (.int .u8 0), .sc (.int .u8 0), .sc (.int .u8 0), .sc (.int .u8 0), .sc (.int .u8 0), .sc (.int .u8 0), .sc (.int .u8 0), .sc (.int .u8 0), .sc (.int .u8 0), .sc (.int .u8 0)], .sc (.int .i64 0), .ro 99 true true [], .st 45 [.sc (.int .i64 0), .sc (.int .i64 0)]], .sc (.int .i64 (Jc 8 (Jc 8 (J9 (Jc 1 (RS.mk x11_0 x12_0))))).e)]) [] []) else k (Res.mk (.tup [.st 73 [.st 45 [.sc (.int .i64 QL), .sc (.int .i64 x14_0)], .sc (.int .i64 x15_0), .sc (.int .i64 x16_0), .ar 37 x17_0, .sc (.int .i64 (Jw 1 (RS.mk x11_0 x12_0))), .ro 99 true true x19_0, .st 45 [.sc (.int .i64 (Jw 8 (J9 (Jc 1 (RS.mk x11_0 x12_0))))), .sc (.int .i64 (Jw 8 (Jc 8 (J9 (Jc 1 (RS.mk x11_0 x12_0))))))]], .sc (.int .i64 0)]) [] []) else bif (Jc 8 (Jc 8 (J9 (Jc 1 (RS.mk x11_0 x12_0))))).e == 0 then bif Jl (JS (Jc 1 (RS.mk x11_0 x12_0))).size 1 && true then bif slB (Ent.vec false 5 false (Jj (JS (Jc 1 (RS.mk x11_0 x12_0))))).nil (List.take (JS (Jc 1 (RS.mk x11_0 x12_0))).size (List.drop 0 (Jj (JS (Jc 1 (RS.mk x11_0 x12_0)))))) && byB (List.take (JS (Jc 1 (RS.mk x11_0 x12_0))).size (Jj (JS (Jc 1 (RS.mk x11_0 x12_0))))) then bif opE (List.take (JS (Jc 1 (RS.mk x11_0 x12_0))).size (Jj (JS (Jc 1 (RS.mk x11_0 x12_0))))) == 0 then bif cOk (opL (List.take (JS (Jc 1 (RS.mk x11_0 x12_0))).size (Jj (JS (Jc 1 (RS.mk x11_0 x12_0)))))) then bif dCk (DV.mk QL x14_0 x15_0 x16_0 x17_0 (Jw 1 (RS.mk x11_0 x12_0)) (opL (List.take (JS (Jc 1 (RS.mk x11_0 x12_0))).size (Jj (JS (Jc 1 (RS.mk x11_0 x12_0)))))) (Jw 8 (J9 (Jc 1 (RS.mk x11_0 x12_0)))) (Jw 8 (Jc 8 (J9 (Jc 1 (RS.mk x11_0 x12_0)))))) != 0 then k (Res.mk (.tup [.st 73 [.st 45 [.sc (.int .i64 0), .sc (.int .i64 0)], .sc (.int .i64 0), .sc (.int .i64 0), .ar 37 [.sc (.int .u8 0), .sc (.int .u8 0), .sc (.int .u8 0), .sc (.int .u8 0), .sc (.int .u8 0), .sc (.int .u8 0), .sc (.int .u8 0), .sc (.int .u8 0), .sc (.int .u8 0), .sc (.int .u8 0), .sc (.int .u8 0), .sc (.int .u8 0), .sc (.int .u8 0), .sc (.int .u8 0), .sc (.int .u8 0), .sc (.int .u8 0), .sc (.int .u8 0), .sc (.int .u8 0), .sc (.int .u8 0), .sc (.int .u8 0), .sc (.int .u8 0), .sc (.int .u8 0), .sc (.int .u8 0), .sc (.int .u8 0), .sc (.int .u8 0), .sc (.int .u8 0), .sc (.int .u8 0), .sc (.int .u8 0), .sc (.int .u8 0), .sc (.int .u8 0), .sc (.int .u8 0), .sc (.int .u8 0)], .sc (.int .i64 0), .ro 99 true true [], .st 45 [.sc (.int .i64 0), .sc (.int .i64 0)]], .sc (.int .i64 (dCk (DV.mk QL x14_0 x15_0 x16_0 x17_0 (Jw 1 (RS.mk x11_0 x12_0)) (opL (List.take (JS (Jc 1 (RS.mk x11_0 x12_0))).size (Jj (JS (Jc 1 (RS.mk x11_0 x12_0)))))) (Jw 8 (J9 (Jc 1 (RS.mk x11_0 x12_0)))) (Jw 8 (Jc 8 (J9 (Jc 1 (RS.mk x11_0 x12_0))))))))]) [] []) else k (Res.mk (.tup [.st 73 [.st 45 [.sc (.int .i64 QL), .sc (.int .i64 x14_0)], .sc (.int .i64 x15_0), .sc (.int .i64 x16_0), .ar 37 x17_0, .sc (.int .i64 (Jw 1 (RS.mk x11_0 x12_0))), .ro 99 (opL (List.take (JS (Jc 1 (RS.mk x11_0 x12_0))).size (Jj (JS (Jc 1 (RS.mk x11_0 x12_0)))))).isEmpty (opL (List.take (JS (Jc 1 (RS.mk x11_0 x12_0))).size (Jj (JS (Jc 1 (RS.mk x11_0 x12_0)))))).isEmpty (opL (List.take (JS (Jc 1 (RS.mk x11_0 x12_0))).size (Jj (JS (Jc 1 (RS.mk x11_0 x12_0)))))), .st 45 [.sc (.int .i64 (Jw 8 (J9 (Jc 1 (RS.mk x11_0 x12_0))))), .sc (.int .i64 (Jw 8 (Jc 8 (J9 (Jc 1 (RS.mk x11_0 x12_0))))))]], .sc (.int .i64 0)]) [] []) else none else bif opE (List.take (JS (Jc 1 (RS.mk x11_0 x12_0))).size (Jj (JS (Jc 1 (RS.mk x11_0 x12_0))))) != 0 then k (Res.mk (.tup [.st 73 [.st 45 [.sc (.int .i64 0), .sc (.int .i64 0)], .sc (.int .i64 0), .sc (.int .i64 0), .ar 37 [.sc (.int .u8 0), .sc (.int .u8 0), .sc (.int .u8 0), .sc (.int .u8 0), .sc (.int .u8 0), .sc (.int .u8 0), .sc (.int .u8 0), .sc (.int .u8 0), .sc (.int .u8 0), .sc (.int .u8 0), .sc (.int .u8 0), .sc (.int .u8 0), .sc (.int .u8 0), .sc (.int .u8 0), .sc (.int .u8 0), .sc (.int .u8 0), .sc (.int .u8 0), .sc (.int .u8 0), .sc (.int .u8 0), .sc (.int .u8 0), .sc (.int .u8 0), .sc (.int .u8 0), .sc (.int .u8 0), .sc (.int .u8 0), .sc (.int .u8 0), .sc (.int .u8 0), .sc (.int .u8 0), .sc (.int .u8 0), .sc (.int .u8 0), .sc (.int .u8 0), .sc (.int .u8 0), .sc (.int .u8 0)], .sc (.int .i64 0), .ro 99 true true [], .st 45 [.sc (.int .i64 0), .sc (.int .i64 0)]], .sc (.int .i64 (opE (List.take (JS (Jc 1 (RS.mk x11_0 x12_0))).size (Jj (JS (Jc 1 (RS.mk x11_0 x12_0)))))))]) [] []) else k (Res.mk (.tup [.st 73 [.st 45 [.sc (.int .i64 QL), .sc (.int .i64 x14_0)], .sc (.int .i64 x15_0), .sc (.int .i64 x16_0), .ar 37 x17_0, .sc (.int .i64 (Jw 1 (RS.mk x11_0 x12_0))), .ro 99 (opL (List.take (JS (Jc 1 (RS.mk x11_0 x12_0))).size (Jj (JS (Jc 1 (RS.mk x11_0 x12_0)))))).isEmpty (opL (List.take (JS (Jc 1 (RS.mk x11_0 x12_0))).size (Jj (JS (Jc 1 (RS.mk x11_0 x12_0)))))).isEmpty (opL (List.take (JS (Jc 1 (RS.mk x11_0 x12_0))).size (Jj (JS (Jc 1 (RS.mk x11_0 x12_0)))))), .st 45 [.sc (.int .i64 (Jw 8 (J9 (Jc 1 (RS.mk x11_0 x12_0))))), .sc (.int .i64 (Jw 8 (Jc 8 (J9 (Jc 1 (RS.mk x11_0 x12_0))))))]], .sc (.int .i64 0)]) [] []) else none else none else bif (Jc 8 (Jc 8 (J9 (Jc 1 (RS.mk x11_0 x12_0))))).e == 0 then bif cOk x19_0 then bif dCk (DV.mk QL x14_0 x15_0 x16_0 x17_0 (Jw 1 (RS.mk x11_0 x12_0)) x19_0 (Jw 8 (J9 (Jc 1 (RS.mk x11_0 x12_0)))) (Jw 8 (Jc 8 (J9 (Jc 1 (RS.mk x11_0 x12_0)))))) != 0 then k (Res.mk (.tup [.st 73 [.st 45 [.sc (.int .i64 0), .sc (.int .i64 0)], .sc (.int .i64 0), .sc (.int .i64 0), .ar 37 [.sc (.int .u8 0), .sc (.int .u8 0), .sc (.int .u8 0), .sc (.int .u8 0), .sc (.int .u8 0), .sc (.int .u8 0), .sc (.int .u8 0), .sc (.int .u8 0), .sc (.int .u8 0), .sc (.int .u8 0), .sc (.int .u8 0), .sc (.int .u8 0), .sc (.int .u8 0), .sc (.int .u8 0), .sc (.int .u8 0), .sc (.int .u8 0), .sc (.int .u8 0), .sc (.int .u8 0), .sc (.int .u8 0), .sc (.int .u8 0), .sc (.int .u8 0), .sc (.int .u8 0), .sc (.int .u8 0), .sc (.int .u8 0), .sc (.int .u8 0), .sc (.int .u8 0), .sc (.int .u8 0), .sc (.int .u8 0), .sc (.int .u8 0), .sc (.int .u8 0), .sc (.int .u8 0), .sc (.int .u8 0)], .sc (.int .i64 0), .ro 99 true true [], .st 45 [.sc (.int .i64 0), .sc (.int .i64 0)]], .sc (.int .i64 (dCk (DV.mk QL x14_0 x15_0 x16_0 x17_0 (Jw 1 (RS.mk x11_0 x12_0)) x19_0 (Jw 8 (J9 (Jc 1 (RS.mk x11_0 x12_0)))) (Jw 8 (Jc 8 (J9 (Jc 1 (RS.mk x11_0 x12_0))))))))]) [] []) else k (Res.mk (.tup [.st 73 [.st 45 [.sc (.int .i64 QL), .sc (.int .i64 x14_0)], .sc (.int .i64 x15_0), .sc (.int .i64 x16_0), .ar 37 x17_0, .sc (.int .i64 (Jw 1 (RS.mk x11_0 x12_0))), .ro 99 true true x19_0, .st 45 [.sc (.int .i64 (Jw 8 (J9 (Jc 1 (RS.mk x11_0 x12_0))))), .sc (.int .i64 (Jw 8 (Jc 8 (J9 (Jc 1 (RS.mk x11_0 x12_0))))))]], .sc (.int .i64 0)]) [] []) else none else bif (Jc 8 (Jc 8 (J9 (Jc 1 (RS.mk x11_0 x12_0))))).e != 0 then k (Res.mk (.tup [.st 73 [.st 45 [.sc (.int .i64 0), .sc (.int .i64 0)], .sc (.int .i64 0), .sc (.int .i64 0), .ar 37 [.sc (.int .u8 0), .sc (.int .u8 0), .sc (.int .u8 0), .sc (.int .u8 0), .sc (.int .u8 0), .sc (.int .u8 0), .sc (.int .u8 0), .sc (.int .u8 0), .sc (.int .u8 0), .sc (.int .u8 0), .sc (.int .u8 0), .sc (.int .u8 0), .sc (.int .u8 0), .sc (.int .u8 0), .sc (.int .u8 0), .sc (.int .u8 0), .sc (.int .u8 0), .sc (.int .u8 0), .sc (.int .u8 0), .sc (.int .u8 0), .sc (.int .u8 0), .sc (.int .u8 0), .sc (.int .u8 0), .sc (.int .u8 0), .sc (.int .u8 0), .sc (.int .u8 0), .sc (.int .u8 0), .sc (.int .u8 0), .sc (.int .u8 0), .sc (.int .u8 0), .sc (.int .u8 0), .sc (.int .u8 0)], .sc (.int .i64 0), .ro 99 true true [], .st 45 [.sc (.int .i64 0), .sc (.int .i64 0)]], .sc (.int .i64 (Jc 8 (Jc 8 (J9 (Jc 1 (RS.mk x11_0 x12_0))))).e)]) [] []) else k (Res.mk (.tup [.st 73 [.st 45 [.sc (.int .i64 QL), .sc (.int .i64 x14_0)], .sc (.int .i64 x15_0), .sc (.int .i64 x16_0), .ar 37 x17_0, .sc (.int .i64 (Jw 1 (RS.mk x11_0 x12_0))), .ro 99 true true x19_0, .st 45 [.sc (.int .i64 (Jw 8 (J9 (Jc 1 (RS.mk x11_0 x12_0))))), .sc (.int .i64 (Jw 8 (Jc 8 (J9 (Jc 1 (RS.mk x11_0 x12_0))))))]], .sc (.int .i64 0)]) [] []) else none else none else none else none) f (0) (0) (0) (0) (0) ([.sc (.int .u8 0), .sc (.int .u8 0), .sc (.int .u8 0), .sc (.int .u8 0), .sc (.int .u8 0), .sc (.int .u8 0), .sc (.int .u8 0), .sc (.int .u8 0), .sc (.int .u8 0), .sc (.int .u8 0), .sc (.int .u8 0), .sc (.int .u8 0), .sc (.int .u8 0), .sc (.int .u8 0), .sc (.int .u8 0), .sc (.int .u8 0), .sc (.int .u8 0), .sc (.int .u8 0), .sc (.int .u8 0), .sc (.int .u8 0), .sc (.int .u8 0), .sc (.int .u8 0), .sc (.int .u8 0), .sc (.int .u8 0), .sc (.int .u8 0), .sc (.int .u8 0), .sc (.int .u8 0), .sc (.int .u8 0), .sc (.int .u8 0), .sc (.int .u8 0), .sc (.int .u8 0), .sc (.int .u8 0)]) (0) ([]) (0) (0) b_z b_z ((Jc 8 (Jc 8 (Jc 8 (Jc 8 (RS.mk b 0))))).b) ((Jc 8 (Jc 8 (Jc 8 (Jc 8 (RS.mk b 0))))).e) (Jw 8 (RS.mk b 0)) (Jw 8 (Jc 8 (RS.mk b 0))) (Jw 8 (Jc 8 (Jc 8 (RS.mk b 0)))) (Jw 8 (Jc 8 (Jc 8 (Jc 8 (RS.mk b 0))))) ([.sc (.int .u8 0), .sc (.int .u8 0), .sc (.int .u8 0), .sc (.int .u8 0), .sc (.int .u8 0), .sc (.int .u8 0), .sc (.int .u8 0), .sc (.int .u8 0), .sc (.int .u8 0), .sc (.int .u8 0), .sc (.int .u8 0), .sc (.int .u8 0), .sc (.int .u8 0), .sc (.int .u8 0), .sc (.int .u8 0), .sc (.int .u8 0), .sc (.int .u8 0), .sc (.int .u8 0), .sc (.int .u8 0), .sc (.int .u8 0), .sc (.int .u8 0), .sc (.int .u8 0), .sc (.int .u8 0), .sc (.int .u8 0), .sc (.int .u8 0), .sc (.int .u8 0), .sc (.int .u8 0), .sc (.int .u8 0), .sc (.int .u8 0), .sc (.int .u8 0), .sc (.int .u8 0), .sc (.int .u8 0)]) (0) ([]) (0) (0) else none else none else none else none else none
theorem JFH (f : Nat) (b_z b_f : Bool) (b : List PV) (k : Res -> Option Res) : JN tau JnT Try.f103 (Try.f103.body.get!) (JkB (VS f)) [.ro, .ro] 0 [.ro 5 b_z b_f b] [] k = Jws f b_z b_f b k := by kernel_rfl
theorem JB0 (f : Nat) : Je (Try.f103.body.get!) (JkB (VS f)) = [.l JaA W8 JcX (VS f)] := by kernel_rfl
theorem JB1 (f : Nat) : ∀ q ∈ Je (Try.f103.body.get!) (JkB (VS f)), q.Ok tau Try.prog 0 := by
 rw [JB0 f]; simp only [List.forall_mem_cons, List.not_mem_nil, false_implies, implies_true, and_true]; exact Jwr f
theorem JtJ : Try.prog.funcs[103]? = some Try.f103 := by kernel_rfl
theorem JtK : Try.f103.body = some (Try.f103.body.get!) := by kernel_rfl
theorem JB2 : Enters Try.prog 103 := enters_of JtJ (by kernel_rfl) JtK
def JB3 : Fns := JC 84 Jpe (F0)
theorem JqT : Ju tau Try.prog JB3 := (JB).add Jmt Jux
def JkC : An := (.seq .leaf (.seq .leaf (.seq .leaf (.seq .leaf .leaf))))
def JB4 (f : Nat) (y0 y1 : Bool) (r_B : List PV) (r_P y2 : Int) (k : Res -> Option Res) : Option Res := bif okT (RT.mk r_B r_P y2) then bif okT (Ja 8 (RT.mk r_B r_P y2)) then k (Res.mk (.st 45 [.sc (.int .i64 (Jy 8 (RT.mk r_B r_P y2))), .sc (.int .i64 (Jy 8 (Ja 8 (RT.mk r_B r_P y2))))]) [.box false 138 (PV.st 138 [.ro 5 y0 y1 (Ja 8 (Ja 8 (RT.mk r_B r_P y2))).B, .sc (.int .i64 (Ja 8 (Ja 8 (RT.mk r_B r_P y2))).P), .sc (.int .i64 (Ja 8 (Ja 8 (RT.mk r_B r_P y2))).e)])] []) else none else none
theorem JFI (f : Nat) (y0 y1 : Bool) (r_B : List PV) (r_P y2 : Int) (k : Res -> Option Res) : JN tau JB3 Try.f105 (Try.f105.body.get!) JkC [.ro] 0 [.ptr 0 []] [.box false 138 (.st 138 [.ro 5 y0 y1 r_B, .sc (.int .i64 r_P), .sc (.int .i64 y2)])] k = JB4 f y0 y1 r_B r_P y2 k := by kernel_rfl
theorem JB5 (f : Nat) : Je (Try.f105.body.get!) JkC = [] := by kernel_rfl
theorem JB6 (f : Nat) : ∀ q ∈ Je (Try.f105.body.get!) JkC, q.Ok tau Try.prog 1 := by
 rw [JB5 f]; intro q hq; cases hq
theorem JtL : Try.prog.funcs[105]? = some Try.f105 := by kernel_rfl
theorem JtM : Try.f105.body = some (Try.f105.body.get!) := by kernel_rfl
theorem JB7 : Enters Try.prog 105 := enters_of JtL (by kernel_rfl) JtM
def JiI : List PV -> List Ent -> (Res -> Option Res) -> Option Res
 | [.ptr 0 []], [.box false 138 (.st 138 [.ro 5 y0 y1 r_B, .sc (.int .i64 r_P), .sc (.int .i64 y2)])], k => JB4 0 y0 y1 r_B r_P y2 k
 | _, _, _ => none
def JB8 : Sig := { own := [], run := JiI }
theorem JB9 : Jf tau Try.prog 105 JB8 := JP Jq JqT Jr JtL JtM JkC [.ro] 1 [] JiI (JB6 0) fun xs es k res hr => by
 unfold JiI at hr
 split at hr
 · exact ⟨rfl, 0, (JFI 0 _ _ _ _ _  _).trans hr⟩
 · cases hr
end
end Go.Proofs.Ytcklhipdldpkhaa.Rx
