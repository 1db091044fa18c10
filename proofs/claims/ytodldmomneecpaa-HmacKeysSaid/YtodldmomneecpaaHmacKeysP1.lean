/- What the functions of this law compute, and their plain laws. Conditions: none. -/
import Derived.Test.YtodldmomneecpaaProg
import Derived.KernelRfl
import Derived.Test.YtodldmomneecpaaZ4
/- The types of this program: what the evaluator is told of them. Printed by a program of the worker's own. -/
namespace Go.Proofs.Ytodldmomneecpaa.Rx
open Go
set_option linter.unusedVariables false
set_option maxRecDepth 100000
def tys : List TypeId := [1, 2, 3, 4, 5, 9, 12, 21, 22, 23, 24, 25, 26, 27, 28, 29, 30, 31, 32, 33, 34, 35, 36, 37, 38, 39, 40, 41, 42, 43, 44, 45, 46, 47, 48, 49, 50, 51, 52, 53, 54, 55, 56, 57, 58, 59, 60, 61, 62, 63, 64, 65, 66, 67, 68, 70, 71, 75, 79, 80, 81, 83, 85, 86, 87, 90]
def zerT : TypeId → Option PV := fun t =>
  bif t == 1 then some (.sc .nilFunc) else
  bif t == 2 then some (.sc (.int .i64 0)) else
  bif t == 3 then some (.sc (.int .i64 0)) else
  bif t == 4 then some (.sc (.bool false)) else
  bif t == 5 then some (.sc (.int .u8 0)) else
  bif t == 9 then some (.sc (.string ByteArray.empty)) else
  bif t == 12 then some (.sc (.int .u64 0)) else
  bif t == 21 then some (.sc (.int .i32 0)) else
  bif t == 22 then some (.ro 5 true true []) else
  bif t == 23 then some (.ro 22 true true []) else
  bif t == 24 then some (.sc .nilFunc) else
  bif t == 25 then some (.ar 25 (List.replicate 32 (.sc (.int .u8 0)))) else
  bif t == 26 then some (.ar 26 (List.replicate 32 (.sc (.int .u8 0)))) else
  bif t == 27 then some (.sc .nilFunc) else
  bif t == 28 then some (.sc .nilFunc) else
  bif t == 29 then some (.sc .nilFunc) else
  bif t == 30 then some (.sc .nilFunc) else
  bif t == 31 then some (.sc .nilFunc) else
  bif t == 32 then some (.sc .nilFunc) else
  bif t == 33 then some (.sc .nilFunc) else
  bif t == 34 then some (.sc .nilFunc) else
  bif t == 35 then some (.sc .nilFunc) else
  bif t == 36 then some (.sc .nilFunc) else
  bif t == 37 then some (.sc .nilFunc) else
  bif t == 38 then some (.sc .nilFunc) else
  bif t == 39 then some (.sc .nilFunc) else
  bif t == 40 then some (.ro 26 true true []) else
  bif t == 41 then some (.sc .nilFunc) else
  bif t == 42 then some (.sc .nilFunc) else
  bif t == 43 then some (.ro 3 true true []) else
  bif t == 44 then some (.sc .nilFunc) else
  bif t == 45 then some (.ar 45 (List.replicate 64 (.sc (.int .u8 0)))) else
  bif t == 46 then some (.ar 46 (List.replicate 64 (.sc (.int .u8 0)))) else
  bif t == 47 then some (.sc .nilFunc) else
  bif t == 48 then some (.sc .nilFunc) else
  bif t == 49 then some (.sc .nilFunc) else
  bif t == 50 then some (.sc (.int .u32 0)) else
  bif t == 51 then some (.ar 51 (List.replicate 64 (.sc (.int .u32 0)))) else
  bif t == 52 then some (.sc .nilFunc) else
  bif t == 53 then some (.ar 53 (List.replicate 8 (.sc (.int .u32 0)))) else
  bif t == 54 then some (.sc (.int .u64 0)) else
  bif t == 55 then some (.sc (.int .u64 0)) else
  bif t == 56 then some (.sc .nilFunc) else
  bif t == 57 then some (.ar 57 (List.replicate 8 (.sc (.int .u32 0)))) else
  bif t == 58 then some (.sc .nilFunc) else
  bif t == 59 then some (.sc .nilFunc) else
  bif t == 60 then some (.sc .nilFunc) else
  bif t == 61 then some (.sc .nilFunc) else
  bif t == 62 then some (.sc .nilFunc) else
  bif t == 63 then some (.sc .nilFunc) else
  bif t == 64 then some (.sc .nilFunc) else
  bif t == 65 then some (.sc .nilFunc) else
  bif t == 66 then some (.sc .nilFunc) else
  bif t == 67 then some (.sc .nilFunc) else
  bif t == 68 then some (.sc .nilFunc) else
  bif t == 70 then some (.sc .nilFunc) else
  bif t == 71 then some (.sc .nilFunc) else
  bif t == 75 then some (.sc .nilFunc) else
  bif t == 79 then some (.sc .nilFunc) else
  bif t == 80 then some (.sc .nilFunc) else
  bif t == 81 then some (.sc .nilFunc) else
  bif t == 83 then some (.sc .nilFunc) else
  bif t == 85 then some (.sc .nilFunc) else
  bif t == 86 then some (.sc (.pointer none)) else
  bif t == 87 then some (.sc .nilFunc) else
  bif t == 90 then some (.sc .nilFunc) else
  none
noncomputable def tau : Tab := tabOf Try.prog tys zerT
theorem tabOk : TabOk tau Try.prog := tabOk_of (by kernel_rfl)
theorem mixed : Try.prog.follows .mixedOrders = true := by kernel_rfl
def F0 : Fns := fun _ => none
theorem F0_ok : FnsOk tau Try.prog F0 := fun g sg h => by cases h
end Go.Proofs.Ytodldmomneecpaa.Rx

/- What math/bits.RotateLeft32 computes. Own work, printed by a program of the worker's own. -/
namespace Go.Proofs.Ytodldmomneecpaa.Rx
open Go
set_option linter.unusedVariables false
set_option maxRecDepth 100000
set_option maxHeartbeats 0
def N47 : Nat := 17
noncomputable def F47 : Fns := F0
theorem F47_ok : FnsOk tau Try.prog F47 := F0_ok
def an47 : An := (.seq .leaf (.seq .leaf (.seq .leaf .leaf)))
def g47 (f : Nat) (x : Int) (k1 : Int) (k : Res → Option Res) : Option Res :=
  bif decide (0 ≤ IntKind.u64.wrap (32 - bitI BinOp.and IntKind.u64 (IntKind.u64.wrap k1) 31)) && true then
    k (Res.mk
      (PV.sc
        (Value.int IntKind.u32
          (bitI BinOp.or IntKind.u32 (shlI IntKind.u32 x (bitI BinOp.and IntKind.u64 (IntKind.u64.wrap k1) 31))
            (shrI IntKind.u32 x (IntKind.u64.wrap (32 - bitI BinOp.and IntKind.u64 (IntKind.u64.wrap k1) 31))))))
      [] [])
  else none
theorem e47 (f : Nat) (x : Int) (k1 : Int) (k : Res → Option Res) : evFn tau F47 Try.f47 (Try.f47.body.get!) an47 [.ro] 0 [.sc (.int .u32 x), .sc (.int .i64 k1)] [] k = g47 f x k1 k := by kernel_rfl
theorem it47 (f : Nat) : items (Try.f47.body.get!) an47 = [] := by kernel_rfl
theorem ia47 (f : Nat) : ∀ q ∈ items (Try.f47.body.get!) an47, q.Ok tau Try.prog 0 := by
  rw [it47 f]; intro q hq; cases hq
theorem fo47 : Try.prog.funcs[47]? = some Try.f47 := by kernel_rfl
theorem bo47 : Try.f47.body = some (Try.f47.body.get!) := by kernel_rfl
theorem en47 : Enters Try.prog 47 := enters_of fo47 (by kernel_rfl) bo47
def run47 : List PV → List Ent → (Res → Option Res) → Option Res
  | [.sc (.int .u32 x), .sc (.int .i64 k1)], [], k => g47 0 x k1 k
  | _, _, _ => none
def s47 : Sig := { own := [], run := run47 }
theorem ok47 : CallOk tau Try.prog 47 s47 := fn_ok tabOk F47_ok mixed fo47 bo47 an47 [.ro] 0 [] run47 (ia47 0) fun xs es k res hr => by
  unfold run47 at hr
  split at hr
  · exact ⟨rfl, 0, (e47 0 _ _  _).trans hr⟩
  · cases hr
end Go.Proofs.Ytodldmomneecpaa.Rx

/- What comitia/sha.right computes. Own work, printed by a program of the worker's own. -/
namespace Go.Proofs.Ytodldmomneecpaa.Rx
open Go
set_option linter.unusedVariables false
set_option maxRecDepth 100000
set_option maxHeartbeats 0
def N39 : Nat := 9
noncomputable def F39 : Fns := addF 47 s47 (F0)
theorem F39_ok : FnsOk tau Try.prog F39 := (F0_ok).add ok47 en47
def an39 : An := (.seq .leaf (.seq .leaf .leaf))
def g39 (f : Nat) (x : Int) (n : Int) (k : Res → Option Res) : Option Res :=
  bif decide (0 ≤ IntKind.u64.wrap (32 - bitI BinOp.and IntKind.u64 (IntKind.u64.wrap (IntKind.i64.wrap (0 - n))) 31)) && true then
    k (Res.mk
      (PV.sc
        (Value.int IntKind.u32
          (bitI BinOp.or IntKind.u32 (shlI IntKind.u32 x (bitI BinOp.and IntKind.u64 (IntKind.u64.wrap (IntKind.i64.wrap (0 - n))) 31))
            (shrI IntKind.u32 x (IntKind.u64.wrap (32 - bitI BinOp.and IntKind.u64 (IntKind.u64.wrap (IntKind.i64.wrap (0 - n))) 31))))))
      [] [])
  else none
theorem e39 (f : Nat) (x : Int) (n : Int) (k : Res → Option Res) : evFn tau F39 Try.f39 (Try.f39.body.get!) an39 [.ro] 0 [.sc (.int .u32 x), .sc (.int .i64 n)] [] k = g39 f x n k := by kernel_rfl
theorem it39 (f : Nat) : items (Try.f39.body.get!) an39 = [] := by kernel_rfl
theorem ia39 (f : Nat) : ∀ q ∈ items (Try.f39.body.get!) an39, q.Ok tau Try.prog 0 := by
  rw [it39 f]; intro q hq; cases hq
theorem fo39 : Try.prog.funcs[39]? = some Try.f39 := by kernel_rfl
theorem bo39 : Try.f39.body = some (Try.f39.body.get!) := by kernel_rfl
theorem en39 : Enters Try.prog 39 := enters_of fo39 (by kernel_rfl) bo39
def run39 : List PV → List Ent → (Res → Option Res) → Option Res
  | [.sc (.int .u32 x), .sc (.int .i64 n)], [], k => g39 0 x n k
  | _, _, _ => none
def s39 : Sig := { own := [], run := run39 }
theorem ok39 : CallOk tau Try.prog 39 s39 := fn_ok tabOk F39_ok mixed fo39 bo39 an39 [.ro] 0 [] run39 (ia39 0) fun xs es k res hr => by
  unfold run39 at hr
  split at hr
  · exact ⟨rfl, 0, (e39 0 _ _  _).trans hr⟩
  · cases hr
end Go.Proofs.Ytodldmomneecpaa.Rx

/- What comitia/comitiaref2.rot computes. Own work, printed by a program of the worker's own. -/
namespace Go.Proofs.Ytodldmomneecpaa.Rx
open Go
set_option linter.unusedVariables false
set_option maxRecDepth 100000
set_option maxHeartbeats 0
def N27 : Nat := 13
noncomputable def F27 : Fns := F0
theorem F27_ok : FnsOk tau Try.prog F27 := F0_ok
def an27 : An := (.seq .leaf (.seq .leaf .leaf))
def g27 (f : Nat) (x : Int) (n : Int) (k : Res → Option Res) : Option Res :=
  bif decide (0 ≤ n) && true then
    bif decide (0 ≤ IntKind.u64.wrap (32 - n)) && true then
      k (Res.mk (PV.sc (Value.int IntKind.u32 (bitI BinOp.or IntKind.u32 (shrI IntKind.u32 x n) (shlI IntKind.u32 x (IntKind.u64.wrap (32 - n)))))) [] [])
    else none
  else none
theorem e27 (f : Nat) (x : Int) (n : Int) (k : Res → Option Res) : evFn tau F27 Try.f27 (Try.f27.body.get!) an27 [.ro] 0 [.sc (.int .u32 x), .sc (.int .u64 n)] [] k = g27 f x n k := by kernel_rfl
theorem it27 (f : Nat) : items (Try.f27.body.get!) an27 = [] := by kernel_rfl
theorem ia27 (f : Nat) : ∀ q ∈ items (Try.f27.body.get!) an27, q.Ok tau Try.prog 0 := by
  rw [it27 f]; intro q hq; cases hq
theorem fo27 : Try.prog.funcs[27]? = some Try.f27 := by kernel_rfl
theorem bo27 : Try.f27.body = some (Try.f27.body.get!) := by kernel_rfl
theorem en27 : Enters Try.prog 27 := enters_of fo27 (by kernel_rfl) bo27
def run27 : List PV → List Ent → (Res → Option Res) → Option Res
  | [.sc (.int .u32 x), .sc (.int .u64 n)], [], k => g27 0 x n k
  | _, _, _ => none
def s27 : Sig := { own := [], run := run27 }
theorem ok27 : CallOk tau Try.prog 27 s27 := fn_ok tabOk F27_ok mixed fo27 bo27 an27 [.ro] 0 [] run27 (ia27 0) fun xs es k res hr => by
  unfold run27 at hr
  split at hr
  · exact ⟨rfl, 0, (e27 0 _ _  _).trans hr⟩
  · cases hr
end Go.Proofs.Ytodldmomneecpaa.Rx

-- FN sha.right | ref2.rot
/- Words that are turned. Own work. -/
namespace Go.Proofs.Ytodldmomneecpaa.Rx
open Go
set_option linter.unusedVariables false
set_option maxRecDepth 100000
set_option maxHeartbeats 4000000
/-- a word turned to the right -/
def rr (x n : Int) : Int := bitI .or .u32 (shlI .u32 x (32 - n)) (shrI .u32 x n)
theorem bitI_or_comm (x y : Int) : bitI .or .u32 x y = bitI .or .u32 y x := by
  simp only [bitI]; rw [BitVec.or_comm]
theorem small {P : Int → Prop} (h : ∀ m : Nat, m < 31 → P ((m : Int) + 1)) (n : Int) (h1 : 1 ≤ n) (h2 : n ≤ 31) : P n := by
  have := h (n - 1).toNat (by omega)
  have he : (((n - 1).toNat : Nat) : Int) + 1 = n := by omega
  rwa [he] at this
def run39' : List PV → List Ent → (Res → Option Res) → Option Res
  | [.sc (.int .u32 x), .sc (.int .i64 n)], [], k => bif decide (1 ≤ n) && decide (n ≤ 31) then k ⟨.sc (.int .u32 (rr x n)), [], []⟩ else none
  | _, _, _ => none
def s39' : Sig := { own := [], run := run39' }
theorem g39_small (x : Int) (k : Res → Option Res) (n : Int) (h1 : 1 ≤ n) (h2 : n ≤ 31) : g39 0 x n k = k ⟨.sc (.int .u32 (rr x n)), [], []⟩ := by
  refine small (P := fun n => g39 0 x n k = k ⟨.sc (.int .u32 (rr x n)), [], []⟩) ?_ n h1 h2
  intro m hm
  iterate 31 (rcases m with _ | m; · kernel_rfl)
  omega
theorem ok39' : CallOk tau Try.prog 39 s39' := ok39.of fun xs es k res hr => by
  change run39' xs es k = some res at hr
  unfold run39' at hr
  split at hr
  · obtain ⟨hc, hr⟩ := of_bif hr
    simp only [Bool.and_eq_true, decide_eq_true_eq] at hc
    exact (g39_small _ _ _ hc.1 hc.2).trans hr
  · cases hr
def run27' : List PV → List Ent → (Res → Option Res) → Option Res
  | [.sc (.int .u32 x), .sc (.int .u64 n)], [], k => bif decide (1 ≤ n) && decide (n ≤ 31) then k ⟨.sc (.int .u32 (rr x n)), [], []⟩ else none
  | _, _, _ => none
def s27' : Sig := { own := [], run := run27' }
theorem g27_small (x : Int) (k : Res → Option Res) (n : Int) (h1 : 1 ≤ n) (h2 : n ≤ 31) : g27 0 x n k = k ⟨.sc (.int .u32 (rr x n)), [], []⟩ := by
  have hc : ∀ n, rr x n = bitI .or .u32 (shrI .u32 x n) (shlI .u32 x (32 - n)) := fun n => bitI_or_comm _ _
  rw [hc]
  refine small (P := fun n => g27 0 x n k = k ⟨.sc (.int .u32 (bitI .or .u32 (shrI .u32 x n) (shlI .u32 x (32 - n)))), [], []⟩) ?_ n h1 h2
  intro m hm
  iterate 31 (rcases m with _ | m; · kernel_rfl)
  omega
theorem ok27' : CallOk tau Try.prog 27 s27' := ok27.of fun xs es k res hr => by
  change run27' xs es k = some res at hr
  unfold run27' at hr
  split at hr
  · obtain ⟨hc, hr⟩ := of_bif hr
    simp only [Bool.and_eq_true, decide_eq_true_eq] at hc
    exact (g27_small _ _ _ hc.1 hc.2).trans hr
  · cases hr
end Go.Proofs.Ytodldmomneecpaa.Rx

/- What comitia/sha.spread computes. Own work, printed by a program of the worker's own. -/
namespace Go.Proofs.Ytodldmomneecpaa.Rx
open Go
set_option linter.unusedVariables false
set_option maxRecDepth 100000
set_option maxHeartbeats 0
def N37 : Nat := 89
noncomputable def F37 : Fns := addF 39 s39' (F0)
theorem F37_ok : FnsOk tau Try.prog F37 := (F0_ok).add ok39' en39
noncomputable def c37_0 : Code := subC (Try.f37.body.get!) [1, 1, 0, 1, 0, 0]
def nm37_0 : Nm := [(0, .any), (2, .any), (3, .any), (8, .any)]
def nx37_0 : Nm := [(2, .any), (3, .any)]
def x37_0 : An := (.seq .leaf (.seq (.cond .leaf .leaf) (.seq (.block none (.seq .leaf .leaf)) .leaf)))
noncomputable def c37_1 : Code := subC (Try.f37.body.get!) [1, 1, 1, 0, 1, 0, 0]
def nm37_1 : Nm := [(2, .any), (3, .any), (5, .any)]
def nx37_1 : Nm := [(2, .any), (3, .any)]
def x37_1 : An := (.seq (.seq .leaf (.cond .leaf .leaf)) (.seq (.block none (.seq .leaf .leaf)) .leaf))
def an37 (r0 : RunL) (r1 : RunL) : An := (.seq .leaf (.seq .leaf (.seq (.seq .leaf (.block none (.sum nm37_0 N37 r0))) (.seq (.seq .leaf (.block none (.sum nm37_1 N37 r1))) (.seq .leaf .leaf)))))
def lpS37_0 (f : Nat) (rc : Bool → Bool → List
  PV → Int → List PV → List PV → Option Res) (k0 : List PV → List PV → Option Res) (v0 : Bool) (v1 : Bool) (v2 : List PV) (v3 : Int) (v4 : List PV) (v5 : List PV) : Option Res :=
  bif decide (v3 < 16) then
    bif decide (0 ≤ IntKind.i64.wrap (4 * v3)) && decide (IntKind.i64.wrap (4 * v3) < zi v2.length) && PV.isInt IntKind.u8 (v2.getD (IntKind.i64.wrap (4 * v3)).toNat PV.top) && true then
      bif decide (0 ≤ IntKind.i64.wrap (IntKind.i64.wrap (4 * v3) + 1)) && decide (IntKind.i64.wrap (IntKind.i64.wrap (4 * v3) + 1) < zi v2.length) &&
          PV.isInt IntKind.u8 (v2.getD (IntKind.i64.wrap (IntKind.i64.wrap (4 * v3) + 1)).toNat PV.top) &&
        true then
        bif decide (0 ≤ IntKind.i64.wrap (IntKind.i64.wrap (4 * v3) + 2)) && decide (IntKind.i64.wrap (IntKind.i64.wrap (4 * v3) + 2) < zi v2.length) &&
            PV.isInt IntKind.u8 (v2.getD (IntKind.i64.wrap (IntKind.i64.wrap (4 * v3) + 2)).toNat PV.top) &&
          true then
          bif decide (0 ≤ IntKind.i64.wrap (IntKind.i64.wrap (4 * v3) + 3)) && decide (IntKind.i64.wrap (IntKind.i64.wrap (4 * v3) + 3) < zi v2.length) &&
              PV.isInt IntKind.u8 (v2.getD (IntKind.i64.wrap (IntKind.i64.wrap (4 * v3) + 3)).toNat PV.top) &&
            true then
            bif decide (0 ≤ v3) && decide (v3 < zi 64) && true then
              rc v0 v1 v2 (IntKind.i64.wrap
                (v3 +
                  1)) v4 (v5.set v3.toNat
                (PV.sc
                  (Value.int IntKind.u32
                    (bitI BinOp.or IntKind.u32
                      (bitI BinOp.or IntKind.u32
                        (bitI BinOp.or IntKind.u32 (shlI IntKind.u32 (IntKind.u32.wrap (v2.getD (IntKind.i64.wrap (4 * v3)).toNat PV.top).int) 24)
                          (shlI IntKind.u32 (IntKind.u32.wrap (v2.getD (IntKind.i64.wrap (IntKind.i64.wrap (4 * v3) + 1)).toNat PV.top).int) 16))
                        (shlI IntKind.u32 (IntKind.u32.wrap (v2.getD (IntKind.i64.wrap (IntKind.i64.wrap (4 * v3) + 2)).toNat PV.top).int) 8))
                      (IntKind.u32.wrap (v2.getD (IntKind.i64.wrap (IntKind.i64.wrap (4 * v3) + 3)).toNat PV.top).int)))))
            else none
          else none
        else none
      else none
    else none
  else k0 v4 v5
def lp37_0 (f : Nat) (k0 : List PV → List PV → Option Res) : Nat → Bool → Bool → List PV → Int → List PV → List PV → Option Res
  | 0, _, _, _, _, _, _ => none
  | n + 1, v0, v1, v2, v3, v4, v5 => lpS37_0 f (lp37_0 f k0 n) k0 v0 v1 v2 v3 v4 v5
theorem lpR37_0 (f : Nat) (k : Kont) (n : Nat) (v0 : Bool) (v1 : Bool) (v2 : List
  PV) (v3 : Int) (v4 : List
  PV) (v5 : List
  PV) : evLoop tau 0 nm37_0 (fun s k => ev tau F37 0 0 c37_0 (x37_0 ) s k) (n + 1) (fillS nm37_0 N37 [PV.ro 5 v0 v1 v2, PV.ptr 1440 [], PV.ptr 1441 [],
  PV.sc
    (Value.int IntKind.i64
      v3)] [(1440, Ent.box false 51 (PV.ar 51 v4)),
  (1441,
    Ent.box false 51
      (PV.ar 51
        v5))]) (kNorm tau 0 nx37_0 k) = lpS37_0 f (fun v0 v1 v2 v3 v4 v5 => evLoop tau 0 nm37_0 (fun s k => ev tau F37 0 0 c37_0 (x37_0 ) s k) n (fillS nm37_0 N37 [PV.ro 5 v0 v1 v2,
  PV.ptr 1440 [], PV.ptr 1441 [],
  PV.sc
    (Value.int IntKind.i64
      v3)] [(1440, Ent.box false 51 (PV.ar 51 v4)),
  (1441,
    Ent.box false 51
      (PV.ar 51
        v5))]) (kNorm tau 0 nx37_0 k)) (fun x0 x1 => k (Ex.exit
  0) (fillS nx37_0 N37 [PV.ptr 1440 [], PV.ptr 1441 []] [(1440, Ent.box false 51 (PV.ar 51 x0)), (1441, Ent.box false 51 (PV.ar 51 x1))])) v0 v1 v2 v3 v4 v5 := by kernel_rfl
theorem lpE37_0 (f : Nat) (k : Kont) : ∀ (n : Nat) (v0 : Bool) (v1 : Bool) (v2 : List
  PV) (v3 : Int) (v4 : List
  PV) (v5 : List
  PV), evLoop tau 0 nm37_0 (fun s k => ev tau F37 0 0 c37_0 (x37_0 ) s k) n (fillS nm37_0 N37 [PV.ro 5 v0 v1 v2, PV.ptr 1440 [], PV.ptr 1441 [],
  PV.sc
    (Value.int IntKind.i64
      v3)] [(1440, Ent.box false 51 (PV.ar 51 v4)),
  (1441,
    Ent.box false 51
      (PV.ar 51
        v5))]) (kNorm tau 0 nx37_0 k) = lp37_0 f (fun x0 x1 => k (Ex.exit
  0) (fillS nx37_0 N37 [PV.ptr 1440 [], PV.ptr 1441 []] [(1440, Ent.box false 51 (PV.ar 51 x0)), (1441, Ent.box false 51 (PV.ar 51 x1))])) n v0 v1 v2 v3 v4 v5
  | 0, _, _, _, _, _, _ => rfl
  | n + 1, v0, v1, v2, v3, v4, v5 => (lpR37_0 f k n v0 v1 v2 v3 v4 v5).trans (congrArg (fun r => lpS37_0 f r (fun x0 x1 => k (Ex.exit
  0) (fillS nx37_0 N37 [PV.ptr 1440 [],
  PV.ptr 1441 []] [(1440, Ent.box false 51 (PV.ar 51 x0)), (1441, Ent.box false 51 (PV.ar 51 x1))])) v0 v1 v2 v3 v4 v5) (by funext v0 v1 v2 v3 v4 v5; exact lpE37_0 f k n v0 v1 v2 v3 v4 v5))
def r37_0 (f : Nat) : List PV → List (Nat × Ent) → Kont → Option Res
  | [PV.ro 5 v0 v1 v2, PV.ptr 1440 [], PV.ptr 1441 [],
  PV.sc
    (Value.int IntKind.i64
      v3)], [(1440, Ent.box false 51 (PV.ar 51 v4)),
  (1441,
    Ent.box false 51
      (PV.ar 51
        v5))], k => lp37_0 f (fun x0 x1 => k (Ex.exit
  0) (fillS nx37_0 N37 [PV.ptr 1440 [], PV.ptr 1441 []] [(1440, Ent.box false 51 (PV.ar 51 x0)), (1441, Ent.box false 51 (PV.ar 51 x1))])) f v0 v1 v2 v3 v4 v5
  | _, _, _ => none
theorem it37_0 (f : Nat) : items c37_0 x37_0 = [] := by kernel_rfl
theorem i37_0 (f : Nat) : (Item.l c37_0 nm37_0 N37 (r37_0 f)).Ok tau Try.prog 0 := loop_item tabOk F37_ok mixed (x := x37_0) (nm2 := nx37_0) (anOk_items _ _ (by rw [it37_0 f]; intro q hq; cases hq)) fun vs hp k res hr => by
  unfold r37_0 at hr
  split at hr
  · exact ⟨f, 0, (lpE37_0 f _ f _ _ _ _ _ _ ).trans hr⟩
  · cases hr
def lpS37_1 (f : Nat) (rc : Int → List PV → List PV → Option Res) (k0 : List PV → List PV → Option Res) (v0 : Int) (v1 : List PV) (v2 : List PV) : Option Res :=
  bif decide (v0 < 64) then
    bif decide (0 ≤ IntKind.i64.wrap (v0 - 15)) && decide (IntKind.i64.wrap (v0 - 15) < zi 64) && true then
      bif PV.isInt IntKind.u32 (getP (PV.ar 51 v2) [(IntKind.i64.wrap (v0 - 15)).toNat]) && true then
        bif decide (0 ≤ IntKind.i64.wrap (v0 - 2)) && decide (IntKind.i64.wrap (v0 - 2) < zi 64) && true then
          bif PV.isInt IntKind.u32 (getP (PV.ar 51 v2) [(IntKind.i64.wrap (v0 - 2)).toNat]) && true then
            bif decide (0 ≤ IntKind.i64.wrap (v0 - 16)) && decide (IntKind.i64.wrap (v0 - 16) < zi 64) && true then
              bif PV.isInt IntKind.u32 (getP (PV.ar 51 v2) [(IntKind.i64.wrap (v0 - 16)).toNat]) && true then
                bif decide (0 ≤ IntKind.i64.wrap (v0 - 7)) && decide (IntKind.i64.wrap (v0 - 7) < zi 64) && true then
                  bif PV.isInt IntKind.u32 (getP (PV.ar 51 v2) [(IntKind.i64.wrap (v0 - 7)).toNat]) && true then
                    bif decide (0 ≤ v0) && decide (v0 < zi 64) && true then
                      rc (IntKind.i64.wrap
                        (v0 +
                          1)) v1 (v2.set v0.toNat
                        (PV.sc
                          (Value.int IntKind.u32
                            (IntKind.u32.wrap
                              (IntKind.u32.wrap
                                  (IntKind.u32.wrap
                                      ((getP (PV.ar 51 v2) [(IntKind.i64.wrap (v0 - 16)).toNat]).int +
                                        bitI BinOp.xor IntKind.u32
                                          (bitI BinOp.xor IntKind.u32 (rr (getP (PV.ar 51 v2) [(IntKind.i64.wrap (v0 - 15)).toNat]).int 7)
                                            (rr (getP (PV.ar 51 v2) [(IntKind.i64.wrap (v0 - 15)).toNat]).int 18))
                                          (shrI IntKind.u32 (getP (PV.ar 51 v2) [(IntKind.i64.wrap (v0 - 15)).toNat]).int 3)) +
                                    (getP (PV.ar 51 v2) [(IntKind.i64.wrap (v0 - 7)).toNat]).int) +
                                bitI BinOp.xor IntKind.u32
                                  (bitI BinOp.xor IntKind.u32 (rr (getP (PV.ar 51 v2) [(IntKind.i64.wrap (v0 - 2)).toNat]).int 17) (rr (getP (PV.ar 51 v2) [(IntKind.i64.wrap (v0 - 2)).toNat]).int 19))
                                  (shrI IntKind.u32 (getP (PV.ar 51 v2) [(IntKind.i64.wrap (v0 - 2)).toNat]).int 10))))))
                    else none
                  else none
                else none
              else none
            else none
          else none
        else none
      else none
    else none
  else k0 v1 v2
def lp37_1 (f : Nat) (k0 : List PV → List PV → Option Res) : Nat → Int → List PV → List PV → Option Res
  | 0, _, _, _ => none
  | n + 1, v0, v1, v2 => lpS37_1 f (lp37_1 f k0 n) k0 v0 v1 v2
theorem lpR37_1 (f : Nat) (k : Kont) (n : Nat) (v0 : Int) (v1 : List
  PV) (v2 : List
  PV) : evLoop tau 0 nm37_1 (fun s k => ev tau F37 0 0 c37_1 (x37_1 ) s k) (n + 1) (fillS nm37_1 N37 [PV.ptr 1440 [], PV.ptr 1441 [],
  PV.sc
    (Value.int IntKind.i64
      v0)] [(1440, Ent.box false 51 (PV.ar 51 v1)),
  (1441,
    Ent.box false 51
      (PV.ar 51
        v2))]) (kNorm tau 0 nx37_1 k) = lpS37_1 f (fun v0 v1 v2 => evLoop tau 0 nm37_1 (fun s k => ev tau F37 0 0 c37_1 (x37_1 ) s k) n (fillS nm37_1 N37 [PV.ptr 1440 [], PV.ptr 1441 [],
  PV.sc
    (Value.int IntKind.i64
      v0)] [(1440, Ent.box false 51 (PV.ar 51 v1)),
  (1441,
    Ent.box false 51
      (PV.ar 51
        v2))]) (kNorm tau 0 nx37_1 k)) (fun x0 x1 => k (Ex.exit
  2) (fillS nx37_1 N37 [PV.ptr 1440 [], PV.ptr 1441 []] [(1440, Ent.box false 51 (PV.ar 51 x0)), (1441, Ent.box false 51 (PV.ar 51 x1))])) v0 v1 v2 := by kernel_rfl
theorem lpE37_1 (f : Nat) (k : Kont) : ∀ (n : Nat) (v0 : Int) (v1 : List
  PV) (v2 : List
  PV), evLoop tau 0 nm37_1 (fun s k => ev tau F37 0 0 c37_1 (x37_1 ) s k) n (fillS nm37_1 N37 [PV.ptr 1440 [], PV.ptr 1441 [],
  PV.sc
    (Value.int IntKind.i64
      v0)] [(1440, Ent.box false 51 (PV.ar 51 v1)),
  (1441,
    Ent.box false 51
      (PV.ar 51
        v2))]) (kNorm tau 0 nx37_1 k) = lp37_1 f (fun x0 x1 => k (Ex.exit
  2) (fillS nx37_1 N37 [PV.ptr 1440 [], PV.ptr 1441 []] [(1440, Ent.box false 51 (PV.ar 51 x0)), (1441, Ent.box false 51 (PV.ar 51 x1))])) n v0 v1 v2
  | 0, _, _, _ => rfl
  | n + 1, v0, v1, v2 => (lpR37_1 f k n v0 v1 v2).trans (congrArg (fun r => lpS37_1 f r (fun x0 x1 => k (Ex.exit
  2) (fillS nx37_1 N37 [PV.ptr 1440 [], PV.ptr 1441 []] [(1440, Ent.box false 51 (PV.ar 51 x0)), (1441, Ent.box false 51 (PV.ar 51 x1))])) v0 v1 v2) (by funext v0 v1 v2; exact lpE37_1 f k n v0 v1 v2))
def r37_1 (f : Nat) : List PV → List (Nat × Ent) → Kont → Option Res
  | [PV.ptr 1440 [], PV.ptr 1441 [],
  PV.sc
    (Value.int IntKind.i64
      v0)], [(1440, Ent.box false 51 (PV.ar 51 v1)),
  (1441,
    Ent.box false 51
      (PV.ar 51
        v2))], k => lp37_1 f (fun x0 x1 => k (Ex.exit
  2) (fillS nx37_1 N37 [PV.ptr 1440 [], PV.ptr 1441 []] [(1440, Ent.box false 51 (PV.ar 51 x0)), (1441, Ent.box false 51 (PV.ar 51 x1))])) f v0 v1 v2
  | _, _, _ => none
theorem it37_1 (f : Nat) : items c37_1 x37_1 = [] := by kernel_rfl
theorem i37_1 (f : Nat) : (Item.l c37_1 nm37_1 N37 (r37_1 f)).Ok tau Try.prog 0 := loop_item tabOk F37_ok mixed (x := x37_1) (nm2 := nx37_1) (anOk_items _ _ (by rw [it37_1 f]; intro q hq; cases hq)) fun vs hp k res hr => by
  unfold r37_1 at hr
  split at hr
  · exact ⟨f, 0, (lpE37_1 f _ f _ _ _ ).trans hr⟩
  · cases hr
def g37 (f : Nat) (b_z : Bool) (b_f : Bool) (b : List PV) (k : Res → Option Res) : Option Res :=
  lp37_0 f (fun x0_0 x1_0 =>
    lp37_1 f (fun x0_1 x1_1 =>
      k (Res.mk (PV.ar 51 x1_1) []
        [])) f (16) x0_0 x1_0) f b_z b_f b (0) ([PV.sc (Value.int IntKind.u32 0), PV.sc (Value.int IntKind.u32 0), PV.sc (Value.int IntKind.u32 0), PV.sc (Value.int IntKind.u32 0),
    PV.sc (Value.int IntKind.u32 0), PV.sc (Value.int IntKind.u32 0), PV.sc (Value.int IntKind.u32 0), PV.sc (Value.int IntKind.u32 0), PV.sc (Value.int IntKind.u32 0),
    PV.sc (Value.int IntKind.u32 0), PV.sc (Value.int IntKind.u32 0), PV.sc (Value.int IntKind.u32 0), PV.sc (Value.int IntKind.u32 0), PV.sc (Value.int IntKind.u32 0),
    PV.sc (Value.int IntKind.u32 0), PV.sc (Value.int IntKind.u32 0), PV.sc (Value.int IntKind.u32 0), PV.sc (Value.int IntKind.u32 0), PV.sc (Value.int IntKind.u32 0),
    PV.sc (Value.int IntKind.u32 0), PV.sc (Value.int IntKind.u32 0), PV.sc (Value.int IntKind.u32 0), PV.sc (Value.int IntKind.u32 0), PV.sc (Value.int IntKind.u32 0),
    PV.sc (Value.int IntKind.u32 0), PV.sc (Value.int IntKind.u32 0), PV.sc (Value.int IntKind.u32 0), PV.sc (Value.int IntKind.u32 0), PV.sc (Value.int IntKind.u32 0),
    PV.sc (Value.int IntKind.u32 0), PV.sc (Value.int IntKind.u32 0), PV.sc (Value.int IntKind.u32 0), PV.sc (Value.int IntKind.u32 0), PV.sc (Value.int IntKind.u32 0),
    PV.sc (Value.int IntKind.u32 0), PV.sc (Value.int IntKind.u32 0), PV.sc (Value.int IntKind.u32 0), PV.sc (Value.int IntKind.u32 0), PV.sc (Value.int IntKind.u32 0),
    PV.sc (Value.int IntKind.u32 0), PV.sc (Value.int IntKind.u32 0), PV.sc (Value.int IntKind.u32 0), PV.sc (Value.int IntKind.u32 0), PV.sc (Value.int IntKind.u32 0),
    PV.sc (Value.int IntKind.u32 0), PV.sc (Value.int IntKind.u32 0), PV.sc (Value.int IntKind.u32 0), PV.sc (Value.int IntKind.u32 0), PV.sc (Value.int IntKind.u32 0),
    PV.sc (Value.int IntKind.u32 0), PV.sc (Value.int IntKind.u32 0), PV.sc (Value.int IntKind.u32 0), PV.sc (Value.int IntKind.u32 0), PV.sc (Value.int IntKind.u32 0),
    PV.sc (Value.int IntKind.u32 0), PV.sc (Value.int IntKind.u32 0), PV.sc (Value.int IntKind.u32 0), PV.sc (Value.int IntKind.u32 0), PV.sc (Value.int IntKind.u32 0),
    PV.sc (Value.int IntKind.u32 0), PV.sc (Value.int IntKind.u32 0), PV.sc (Value.int IntKind.u32 0), PV.sc (Value.int IntKind.u32 0),
    PV.sc
      (Value.int IntKind.u32
        0)]) ([PV.sc (Value.int IntKind.u32 0), PV.sc (Value.int IntKind.u32 0), PV.sc (Value.int IntKind.u32 0), PV.sc (Value.int IntKind.u32 0), PV.sc (Value.int IntKind.u32 0),
    PV.sc (Value.int IntKind.u32 0), PV.sc (Value.int IntKind.u32 0), PV.sc (Value.int IntKind.u32 0), PV.sc (Value.int IntKind.u32 0), PV.sc (Value.int IntKind.u32 0),
    PV.sc (Value.int IntKind.u32 0), PV.sc (Value.int IntKind.u32 0), PV.sc (Value.int IntKind.u32 0), PV.sc (Value.int IntKind.u32 0), PV.sc (Value.int IntKind.u32 0),
    PV.sc (Value.int IntKind.u32 0), PV.sc (Value.int IntKind.u32 0), PV.sc (Value.int IntKind.u32 0), PV.sc (Value.int IntKind.u32 0), PV.sc (Value.int IntKind.u32 0),
    PV.sc (Value.int IntKind.u32 0), PV.sc (Value.int IntKind.u32 0), PV.sc (Value.int IntKind.u32 0), PV.sc (Value.int IntKind.u32 0), PV.sc (Value.int IntKind.u32 0),
    PV.sc (Value.int IntKind.u32 0), PV.sc (Value.int IntKind.u32 0), PV.sc (Value.int IntKind.u32 0), PV.sc (Value.int IntKind.u32 0), PV.sc (Value.int IntKind.u32 0),
    PV.sc (Value.int IntKind.u32 0), PV.sc (Value.int IntKind.u32 0), PV.sc (Value.int IntKind.u32 0), PV.sc (Value.int IntKind.u32 0), PV.sc (Value.int IntKind.u32 0),
    PV.sc (Value.int IntKind.u32 0), PV.sc (Value.int IntKind.u32 0), PV.sc (Value.int IntKind.u32 0), PV.sc (Value.int IntKind.u32 0), PV.sc (Value.int IntKind.u32 0),
    PV.sc (Value.int IntKind.u32 0), PV.sc (Value.int IntKind.u32 0), PV.sc (Value.int IntKind.u32 0), PV.sc (Value.int IntKind.u32 0), PV.sc (Value.int IntKind.u32 0),
    PV.sc (Value.int IntKind.u32 0), PV.sc (Value.int IntKind.u32 0), PV.sc (Value.int IntKind.u32 0), PV.sc (Value.int IntKind.u32 0), PV.sc (Value.int IntKind.u32 0),
    PV.sc (Value.int IntKind.u32 0), PV.sc (Value.int IntKind.u32 0), PV.sc (Value.int IntKind.u32 0), PV.sc (Value.int IntKind.u32 0), PV.sc (Value.int IntKind.u32 0),
    PV.sc (Value.int IntKind.u32 0), PV.sc (Value.int IntKind.u32 0), PV.sc (Value.int IntKind.u32 0), PV.sc (Value.int IntKind.u32 0), PV.sc (Value.int IntKind.u32 0),
    PV.sc (Value.int IntKind.u32 0), PV.sc (Value.int IntKind.u32 0), PV.sc (Value.int IntKind.u32 0), PV.sc (Value.int IntKind.u32 0)])
theorem e37 (f : Nat) (b_z : Bool) (b_f : Bool) (b : List PV) (k : Res → Option Res) : evFn tau F37 Try.f37 (Try.f37.body.get!) (an37 (r37_0 f) (r37_1 f)) [] 0 [.ro 5 b_z b_f b] [] k = g37 f b_z b_f b k := by kernel_rfl
theorem it37 (f : Nat) : items (Try.f37.body.get!) (an37 (r37_0 f) (r37_1 f)) = [.l c37_0 nm37_0 N37 (r37_0 f), .l c37_1 nm37_1 N37 (r37_1 f)] := by kernel_rfl
theorem ia37 (f : Nat) : ∀ q ∈ items (Try.f37.body.get!) (an37 (r37_0 f) (r37_1 f)), q.Ok tau Try.prog 0 := by
  rw [it37 f]; simp only [List.forall_mem_cons, List.not_mem_nil, false_implies, implies_true, and_true]; exact ⟨i37_0 f, i37_1 f⟩
theorem fo37 : Try.prog.funcs[37]? = some Try.f37 := by kernel_rfl
theorem bo37 : Try.f37.body = some (Try.f37.body.get!) := by kernel_rfl
theorem en37 : Enters Try.prog 37 := enters_of fo37 (by kernel_rfl) bo37
end Go.Proofs.Ytodldmomneecpaa.Rx

-- FN sha.spread
/- The words of a piece, one for each round. Own work. -/
namespace Go.Proofs.Ytodldmomneecpaa.Rx
open Go
set_option linter.unusedVariables false
set_option maxRecDepth 100000
set_option maxHeartbeats 4000000
abbrev ww (x : Int) : Int := IntKind.u32.wrap x
def word4 (a b c d : Int) : Int := bitI .or .u32 (bitI .or .u32 (bitI .or .u32 (shlI .u32 (ww a) 24) (shlI .u32 (ww b) 16)) (shlI .u32 (ww c) 8)) (ww d)
def sg0 (x : Int) : Int := bitI .xor .u32 (bitI .xor .u32 (rr x 7) (rr x 18)) (shrI .u32 x 3)
def sg1 (x : Int) : Int := bitI .xor .u32 (bitI .xor .u32 (rr x 17) (rr x 19)) (shrI .u32 x 10)
def nxtW (w16 w15 w7 w2 : Int) : Int := ww (ww (ww (w16 + sg0 w15) + w7) + sg1 w2)
def word (bs : List Int) (j : Nat) : Int := word4 (bs.getD (4 * j) 0) (bs.getD (4 * j + 1) 0) (bs.getD (4 * j + 2) 0) (bs.getD (4 * j + 3) 0)
def sched (bs : List Int) : Nat → List Int
  | 0 => (List.range 16).map (word bs)
  | i + 1 => sched bs i ++ [nxtW ((sched bs i).getD i 0) ((sched bs i).getD (i + 1) 0) ((sched bs i).getD (i + 9) 0) ((sched bs i).getD (i + 14) 0)]
def spreadP (bs : List Int) : List Int := sched bs 48
theorem sched_length (bs : List Int) : ∀ i, (sched bs i).length = 16 + i
  | 0 => by simp [sched]
  | i + 1 => by simp [sched, sched_length bs i]; omega
def fill0 (bs : List Int) (i : Nat) : List Int := (List.range i).map (word bs) ++ List.replicate (64 - i) 0
def fill1 (bs : List Int) (i : Nat) : List Int := sched bs i ++ List.replicate (48 - i) 0
theorem fill0_length (bs : List Int) (i : Nat) (h : i ≤ 64) : (fill0 bs i).length = 64 := by simp [fill0]; omega
theorem fill1_length (bs : List Int) (i : Nat) (h : i ≤ 48) : (fill1 bs i).length = 64 := by simp [fill1, sched_length]; omega
theorem set_fill (L : List Int) (m : Nat) (x : Int) : (L ++ List.replicate (m + 1) 0).set L.length x = (L ++ [x]) ++ List.replicate m 0 := by
  simp [List.replicate_succ]
theorem fill0_set (bs : List Int) (i : Nat) (h : i < 64) : (fill0 bs i).set i (word bs i) = fill0 bs (i + 1) := by
  have := set_fill ((List.range i).map (word bs)) (63 - i) (word bs i)
  simp only [List.length_map, List.length_range] at this
  simp only [fill0, show 64 - i = 63 - i + 1 from by omega, this, show 64 - (i + 1) = 63 - i from by omega, List.range_succ, List.map_append, List.map_cons, List.map_nil]
theorem fill1_get (bs : List Int) (i j : Nat) (h : j < 16 + i) : (fill1 bs i).getD j 0 = (sched bs i).getD j 0 := by
  simp only [fill1, List.getD_eq_getElem?_getD]
  rw [List.getElem?_append_left (by rw [sched_length]; exact h)]
theorem fill1_set (bs : List Int) (i : Nat) (h : i < 48) (x : Int) : (fill1 bs i).set (i + 16) x = (sched bs i ++ [x]) ++ List.replicate (48 - (i + 1)) 0 := by
  have := set_fill (sched bs i) (47 - i) x
  rw [sched_length] at this
  rw [fill1, show 48 - i = 47 - i + 1 from by omega, show i + 16 = 16 + i from by omega, this, show 48 - (i + 1) = 47 - i from by omega]
theorem l37_0 (bs : List Int) (hb : bs.length = 64) (f : Nat) (k0 : List PV → List PV → Option Res) (nl fl : Bool) (w : List PV) : ∀ (d i n : Nat), i + d = 16 → d < n →
    lp37_0 f k0 n nl fl (pu .u8 bs) (i : Int) w (pu .u32 (fill0 bs i)) = k0 w (pu .u32 (fill0 bs 16))
  | 0, i, n + 1, h, hn => by
      obtain rfl : i = 16 := by omega
      simp only [lp37_0, lpS37_0]
      exact bif_f (by decide)
  | d + 1, i, n + 1, h, hn => by
      have h4 : IntKind.i64.wrap (4 * (i : Int)) = ((4 * i : Nat) : Int) := by rw [wrap_i64 (by omega) (by omega)]; omega
      have h41 : IntKind.i64.wrap (((4 * i : Nat) : Int) + 1) = ((4 * i + 1 : Nat) : Int) := by rw [wrap_i64 (by omega) (by omega)]; omega
      have h42 : IntKind.i64.wrap (((4 * i : Nat) : Int) + 2) = ((4 * i + 2 : Nat) : Int) := by rw [wrap_i64 (by omega) (by omega)]; omega
      have h43 : IntKind.i64.wrap (((4 * i : Nat) : Int) + 3) = ((4 * i + 3 : Nat) : Int) := by rw [wrap_i64 (by omega) (by omega)]; omega
      have h5 : IntKind.i64.wrap ((i : Int) + 1) = ((i + 1 : Nat) : Int) := by rw [wrap_i64 (by omega) (by omega)]; omega
      simp only [lp37_0, lpS37_0, h4, h41, h42, h43, h5, Int.toNat_natCast, zi]
      rw [pu_isInt (by omega), pu_isInt (by omega), pu_isInt (by omega), pu_isInt (by omega), pu_int (by omega), pu_int (by omega), pu_int (by omega), pu_int (by omega), pu_length, pu_set]
      refine (bif_t (by simp; omega)).trans ?_
      refine (bif_t (by simp; omega)).trans ?_
      refine (bif_t (by simp; omega)).trans ?_
      refine (bif_t (by simp; omega)).trans ?_
      refine (bif_t (by simp; omega)).trans ?_
      refine (bif_t (by simp; omega)).trans ?_
      have := l37_0 bs hb f k0 nl fl w d (i + 1) n (by omega) (by omega)
      rw [← fill0_set bs i (by omega)] at this
      exact this
theorem l37_1 (bs : List Int) (f : Nat) (k0 : List PV → List PV → Option Res) (w : List PV) : ∀ (d i n : Nat), i + d = 48 → d < n →
    lp37_1 f k0 n ((i + 16 : Nat) : Int) w (pu .u32 (fill1 bs i)) = k0 w (pu .u32 (sched bs 48))
  | 0, i, n + 1, h, hn => by
      obtain rfl : i = 48 := by omega
      simp only [lp37_1, lpS37_1]
      exact (bif_f (by decide)).trans (by simp [fill1])
  | d + 1, i, n + 1, h, hn => by
      have h15 : IntKind.i64.wrap (((i + 16 : Nat) : Int) - 15) = ((i + 1 : Nat) : Int) := by rw [wrap_i64 (by omega) (by omega)]; omega
      have h2 : IntKind.i64.wrap (((i + 16 : Nat) : Int) - 2) = ((i + 14 : Nat) : Int) := by rw [wrap_i64 (by omega) (by omega)]; omega
      have h16 : IntKind.i64.wrap (((i + 16 : Nat) : Int) - 16) = ((i : Nat) : Int) := by rw [wrap_i64 (by omega) (by omega)]; omega
      have h7 : IntKind.i64.wrap (((i + 16 : Nat) : Int) - 7) = ((i + 9 : Nat) : Int) := by rw [wrap_i64 (by omega) (by omega)]; omega
      have h1 : IntKind.i64.wrap (((i + 16 : Nat) : Int) + 1) = ((i + 1 + 16 : Nat) : Int) := by rw [wrap_i64 (by omega) (by omega)]; omega
      have hl := fill1_length bs i (by omega)
      simp only [lp37_1, lpS37_1, h15, h2, h16, h7, h1, Int.toNat_natCast, zi, getP_ar]
      rw [pu_isInt (by omega), pu_isInt (by omega), pu_isInt (by omega), pu_isInt (by omega), pu_int (by omega), pu_int (by omega), pu_int (by omega), pu_int (by omega), pu_set]
      refine (bif_t (by simp; omega)).trans ?_
      refine (bif_t (by simp; omega)).trans ?_
      refine (bif_t (by simp)).trans ?_
      refine (bif_t (by simp; omega)).trans ?_
      refine (bif_t (by simp)).trans ?_
      refine (bif_t (by simp; omega)).trans ?_
      refine (bif_t (by simp)).trans ?_
      refine (bif_t (by simp; omega)).trans ?_
      refine (bif_t (by simp)).trans ?_
      refine (bif_t (by simp; omega)).trans ?_
      have := l37_1 bs f k0 w d (i + 1) n (by omega) (by omega)
      rw [fill1_get bs i i (by omega), fill1_get bs i (i + 1) (by omega), fill1_get bs i (i + 9) (by omega), fill1_get bs i (i + 14) (by omega), fill1_set bs i (by omega)]
      exact this
theorem g37_eq (bs : List Int) (hb : bs.length = 64) (nl fl : Bool) (k : Res → Option Res) : g37 100 nl fl (pu .u8 bs) k = k ⟨.ar 51 (pu .u32 (spreadP bs)), [], []⟩ := by
  have h0 : ∀ k0 w, lp37_0 100 k0 100 nl fl (pu .u8 bs) 0 w (pu .u32 (List.replicate 64 0)) = k0 w (pu .u32 (fill0 bs 16)) := fun k0 w => l37_0 bs hb 100 k0 nl fl w 16 0 100 (by omega) (by omega)
  have h1 : ∀ k0 w, lp37_1 100 k0 100 16 w (pu .u32 (fill0 bs 16)) = k0 w (pu .u32 (sched bs 48)) := fun k0 w => l37_1 bs 100 k0 w 48 0 100 (by omega) (by omega)
  exact (h0 _ _).trans (h1 _ _)
def run37' : List PV → List Ent → (Res → Option Res) → Option Res
  | [.ro 5 nl fl b], [], k => bif allInt .u8 b && decide (b.length = 64) then k ⟨.ar 51 (pu .u32 (spreadP (ints b))), [], []⟩ else none
  | _, _, _ => none
def s37' : Sig := { own := [], run := run37' }
theorem ok37' : CallOk tau Try.prog 37 s37' := fn_ok tabOk F37_ok mixed fo37 bo37 _ [] 0 [] run37' (ia37 100) fun xs es k res hr => by
  unfold run37' at hr
  split at hr
  · obtain ⟨hc, hr⟩ := of_bif hr
    simp only [Bool.and_eq_true, decide_eq_true_eq] at hc
    refine ⟨rfl, 0, (e37 100 _ _ _ _).trans ?_⟩
    rw [pu_ints hc.1, g37_eq _ (by simpa using hc.2)]
    exact hr
  · cases hr
end Go.Proofs.Ytodldmomneecpaa.Rx

/- What comitia/sha.keys computes. Own work, printed by a program of the worker's own. -/
namespace Go.Proofs.Ytodldmomneecpaa.Rx
open Go
set_option linter.unusedVariables false
set_option maxRecDepth 100000
set_option maxHeartbeats 0
def N38 : Nat := 2
noncomputable def F38 : Fns := F0
theorem F38_ok : FnsOk tau Try.prog F38 := F0_ok
def an38 : An := (.seq .leaf (.seq .leaf .leaf))
def g38 (f : Nat)  (k : Res → Option Res) : Option Res :=
  k (Res.mk
    (PV.ar 51
      [PV.sc (Value.int IntKind.u32 1116352408), PV.sc (Value.int IntKind.u32 1899447441), PV.sc (Value.int IntKind.u32 3049323471), PV.sc (Value.int IntKind.u32 3921009573),
        PV.sc (Value.int IntKind.u32 961987163), PV.sc (Value.int IntKind.u32 1508970993), PV.sc (Value.int IntKind.u32 2453635748), PV.sc (Value.int IntKind.u32 2870763221),
        PV.sc (Value.int IntKind.u32 3624381080), PV.sc (Value.int IntKind.u32 310598401), PV.sc (Value.int IntKind.u32 607225278), PV.sc (Value.int IntKind.u32 1426881987),
        PV.sc (Value.int IntKind.u32 1925078388), PV.sc (Value.int IntKind.u32 2162078206), PV.sc (Value.int IntKind.u32 2614888103), PV.sc (Value.int IntKind.u32 3248222580),
        PV.sc (Value.int IntKind.u32 3835390401), PV.sc (Value.int IntKind.u32 4022224774), PV.sc (Value.int IntKind.u32 264347078), PV.sc (Value.int IntKind.u32 604807628),
        PV.sc (Value.int IntKind.u32 770255983), PV.sc (Value.int IntKind.u32 1249150122), PV.sc (Value.int IntKind.u32 1555081692), PV.sc (Value.int IntKind.u32 1996064986),
        PV.sc (Value.int IntKind.u32 2554220882), PV.sc (Value.int IntKind.u32 2821834349), PV.sc (Value.int IntKind.u32 2952996808), PV.sc (Value.int IntKind.u32 3210313671),
        PV.sc (Value.int IntKind.u32 3336571891), PV.sc (Value.int IntKind.u32 3584528711), PV.sc (Value.int IntKind.u32 113926993), PV.sc (Value.int IntKind.u32 338241895),
        PV.sc (Value.int IntKind.u32 666307205), PV.sc (Value.int IntKind.u32 773529912), PV.sc (Value.int IntKind.u32 1294757372), PV.sc (Value.int IntKind.u32 1396182291),
        PV.sc (Value.int IntKind.u32 1695183700), PV.sc (Value.int IntKind.u32 1986661051), PV.sc (Value.int IntKind.u32 2177026350), PV.sc (Value.int IntKind.u32 2456956037),
        PV.sc (Value.int IntKind.u32 2730485921), PV.sc (Value.int IntKind.u32 2820302411), PV.sc (Value.int IntKind.u32 3259730800), PV.sc (Value.int IntKind.u32 3345764771),
        PV.sc (Value.int IntKind.u32 3516065817), PV.sc (Value.int IntKind.u32 3600352804), PV.sc (Value.int IntKind.u32 4094571909), PV.sc (Value.int IntKind.u32 275423344),
        PV.sc (Value.int IntKind.u32 430227734), PV.sc (Value.int IntKind.u32 506948616), PV.sc (Value.int IntKind.u32 659060556), PV.sc (Value.int IntKind.u32 883997877),
        PV.sc (Value.int IntKind.u32 958139571), PV.sc (Value.int IntKind.u32 1322822218), PV.sc (Value.int IntKind.u32 1537002063), PV.sc (Value.int IntKind.u32 1747873779),
        PV.sc (Value.int IntKind.u32 1955562222), PV.sc (Value.int IntKind.u32 2024104815), PV.sc (Value.int IntKind.u32 2227730452), PV.sc (Value.int IntKind.u32 2361852424),
        PV.sc (Value.int IntKind.u32 2428436474), PV.sc (Value.int IntKind.u32 2756734187), PV.sc (Value.int IntKind.u32 3204031479), PV.sc (Value.int IntKind.u32 3329325298)])
    [] [])
theorem e38 (f : Nat)  (k : Res → Option Res) : evFn tau F38 Try.f38 (Try.f38.body.get!) an38 [.ro] 0 [] [] k = g38 f  k := by kernel_rfl
theorem it38 (f : Nat) : items (Try.f38.body.get!) an38 = [] := by kernel_rfl
theorem ia38 (f : Nat) : ∀ q ∈ items (Try.f38.body.get!) an38, q.Ok tau Try.prog 0 := by
  rw [it38 f]; intro q hq; cases hq
theorem fo38 : Try.prog.funcs[38]? = some Try.f38 := by kernel_rfl
theorem bo38 : Try.f38.body = some (Try.f38.body.get!) := by kernel_rfl
theorem en38 : Enters Try.prog 38 := enters_of fo38 (by kernel_rfl) bo38
def run38 : List PV → List Ent → (Res → Option Res) → Option Res
  | [], [], k => g38 0  k
  | _, _, _ => none
def s38 : Sig := { own := [], run := run38 }
theorem ok38 : CallOk tau Try.prog 38 s38 := fn_ok tabOk F38_ok mixed fo38 bo38 an38 [.ro] 0 [] run38 (ia38 0) fun xs es k res hr => by
  unfold run38 at hr
  split at hr
  · exact ⟨rfl, 0, (e38 0  _).trans hr⟩
  · cases hr
end Go.Proofs.Ytodldmomneecpaa.Rx

/- What (comitia/sha.state).add computes. Own work, printed by a program of the worker's own. -/
namespace Go.Proofs.Ytodldmomneecpaa.Rx
open Go
set_option linter.unusedVariables false
set_option maxRecDepth 100000
set_option maxHeartbeats 0
def N31 : Nat := 113
noncomputable def F31 : Fns := addF 38 s38 (addF 37 s37' (addF 39 s39' F0))
theorem F31_ok : FnsOk tau Try.prog F31 := ((F0_ok.add ok39' en39).add ok37' en37).add ok38 en38
noncomputable def c31_0 : Code := subC (Try.f31.body.get!) [1, 1, 1, 0, 1, 0, 0]
def nm31_0 : Nm := [(2, .any), (4, .any), (5, .any), (6, .any), (7, .any), (18, .any)]
def nx31_0 : Nm := [(2, .any), (4, .any), (7, .any)]
def x31_0 : An := (.seq .leaf (.seq (.cond .leaf .leaf) (.seq (.block none (.seq .leaf (.seq .leaf (.seq .leaf (.seq .leaf .leaf))))) .leaf)))
noncomputable def c31_1 : Code := subC (Try.f31.body.get!) [1, 1, 1, 1, 0, 1, 0, 0]
def nm31_1 : Nm := [(2, .any), (4, .any), (7, .any), (100, .any)]
def nx31_1 : Nm := [(4, .any), (7, .any)]
def x31_1 : An := (.seq .leaf (.seq (.cond .leaf .leaf) (.seq (.block none (.seq .leaf .leaf)) .leaf)))
def an31 (r0 : RunL) (r1 : RunL) : An := (.seq .leaf (.seq .leaf (.seq .leaf (.seq (.seq .leaf (.block none (.sum nm31_0 N31 r0))) (.seq (.seq .leaf (.block none (.sum nm31_1 N31 r1))) (.seq .leaf .leaf))))))
def lpS31_0 (f : Nat) (rc : Int → List
  PV → List
  PV → List PV → List PV → List PV → Option Res) (k0 : List PV → List PV → List PV → Option Res) (v0 : Int) (v1 : List PV) (v2 : List PV) (v3 : List PV) (v4 : List PV) (v5 : List PV) : Option Res :=
  bif decide (v0 < 64) then
    bif PV.isInt IntKind.u32 (getP (PV.ar 57 v5) [4]) && true then
      bif PV.isInt IntKind.u32 (getP (PV.ar 57 v5) [0]) && true then
        bif PV.isInt IntKind.u32 (getP (PV.ar 57 v5) [7]) && true then
          bif PV.isInt IntKind.u32 (getP (PV.ar 57 v5) [5]) && true then
            bif PV.isInt IntKind.u32 (getP (PV.ar 57 v5) [6]) && true then
              bif decide (0 ≤ v0) && decide (v0 < zi 64) && true then
                bif PV.isInt IntKind.u32 (getP (PV.ar 51 v4) [v0.toNat]) && true then
                  bif decide (0 ≤ v0) && decide (v0 < zi 64) && true then
                    bif PV.isInt IntKind.u32 (getP (PV.ar 51 v3) [v0.toNat]) && true then
                      bif PV.isInt IntKind.u32 (getP (PV.ar 57 v5) [1]) && true then
                        bif PV.isInt IntKind.u32 (getP (PV.ar 57 v5) [2]) && true then
                          bif PV.isInt IntKind.u32 (getP (PV.ar 57 v5) [1]) && true then
                            bif PV.isInt IntKind.u32 (getP (PV.ar 57 v5) [2]) && true then
                              bif PV.isInt IntKind.u32 (getP (PV.ar 57 v5) [0]) && true then
                                bif PV.isInt IntKind.u32 (getP (PV.ar 57 v5) [1]) && true then
                                  bif PV.isInt IntKind.u32 (getP (PV.ar 57 v5) [2]) && true then
                                    bif PV.isInt IntKind.u32 (getP (PV.ar 57 v5) [3]) && true then
                                      bif PV.isInt IntKind.u32 (getP (PV.ar 57 v5) [4]) && true then
                                        bif PV.isInt IntKind.u32 (getP (PV.ar 57 v5) [5]) && true then
                                          bif PV.isInt IntKind.u32 (getP (PV.ar 57 v5) [6]) && true then
                                            rc (IntKind.i64.wrap
                                              (v0 +
                                                1)) v1 v2 v3 v4 ([PV.sc
                                                (Value.int IntKind.u32
                                                  (IntKind.u32.wrap
                                                    (IntKind.u32.wrap
                                                        (IntKind.u32.wrap
                                                            (IntKind.u32.wrap
                                                                (IntKind.u32.wrap
                                                                    ((getP (PV.ar 57 v5) [7]).int +
                                                                      bitI BinOp.xor IntKind.u32 (bitI BinOp.xor IntKind.u32 (rr (getP (PV.ar 57 v5) [4]).int 6) (rr (getP (PV.ar 57 v5) [4]).int 11))
                                                                        (rr (getP (PV.ar 57 v5) [4]).int 25)) +
                                                                  bitI BinOp.xor IntKind.u32 (bitI BinOp.and IntKind.u32 (getP (PV.ar 57 v5) [4]).int (getP (PV.ar 57 v5) [5]).int)
                                                                    (bitI BinOp.and IntKind.u32
                                                                      (bitI BinOp.xor IntKind.u32 (Int.ofNat (2 ^ IntKind.u32.bits - Nat.succ 0)) (getP (PV.ar 57 v5) [4]).int)
                                                                      (getP (PV.ar 57 v5) [6]).int)) +
                                                              (getP (PV.ar 51 v4) [v0.toNat]).int) +
                                                          (getP (PV.ar 51 v3) [v0.toNat]).int) +
                                                      IntKind.u32.wrap
                                                        (bitI BinOp.xor IntKind.u32 (bitI BinOp.xor IntKind.u32 (rr (getP (PV.ar 57 v5) [0]).int 2) (rr (getP (PV.ar 57 v5) [0]).int 13))
                                                            (rr (getP (PV.ar 57 v5) [0]).int 22) +
                                                          bitI BinOp.xor IntKind.u32
                                                            (bitI BinOp.xor IntKind.u32 (bitI BinOp.and IntKind.u32 (getP (PV.ar 57 v5) [0]).int (getP (PV.ar 57 v5) [1]).int)
                                                              (bitI BinOp.and IntKind.u32 (getP (PV.ar 57 v5) [0]).int (getP (PV.ar 57 v5) [2]).int))
                                                            (bitI BinOp.and IntKind.u32 (getP (PV.ar 57 v5) [1]).int (getP (PV.ar 57 v5) [2]).int))))),
                                              PV.sc (Value.int IntKind.u32 (getP (PV.ar 57 v5) [0]).int), PV.sc (Value.int IntKind.u32 (getP (PV.ar 57 v5) [1]).int),
                                              PV.sc (Value.int IntKind.u32 (getP (PV.ar 57 v5) [2]).int),
                                              PV.sc
                                                (Value.int IntKind.u32
                                                  (IntKind.u32.wrap
                                                    ((getP (PV.ar 57 v5) [3]).int +
                                                      IntKind.u32.wrap
                                                        (IntKind.u32.wrap
                                                            (IntKind.u32.wrap
                                                                (IntKind.u32.wrap
                                                                    ((getP (PV.ar 57 v5) [7]).int +
                                                                      bitI BinOp.xor IntKind.u32 (bitI BinOp.xor IntKind.u32 (rr (getP (PV.ar 57 v5) [4]).int 6) (rr (getP (PV.ar 57 v5) [4]).int 11))
                                                                        (rr (getP (PV.ar 57 v5) [4]).int 25)) +
                                                                  bitI BinOp.xor IntKind.u32 (bitI BinOp.and IntKind.u32 (getP (PV.ar 57 v5) [4]).int (getP (PV.ar 57 v5) [5]).int)
                                                                    (bitI BinOp.and IntKind.u32
                                                                      (bitI BinOp.xor IntKind.u32 (Int.ofNat (2 ^ IntKind.u32.bits - Nat.succ 0)) (getP (PV.ar 57 v5) [4]).int)
                                                                      (getP (PV.ar 57 v5) [6]).int)) +
                                                              (getP (PV.ar 51 v4) [v0.toNat]).int) +
                                                          (getP (PV.ar 51 v3) [v0.toNat]).int)))),
                                              PV.sc (Value.int IntKind.u32 (getP (PV.ar 57 v5) [4]).int), PV.sc (Value.int IntKind.u32 (getP (PV.ar 57 v5) [5]).int),
                                              PV.sc (Value.int IntKind.u32 (getP (PV.ar 57 v5) [6]).int)])
                                          else none
                                        else none
                                      else none
                                    else none
                                  else none
                                else none
                              else none
                            else none
                          else none
                        else none
                      else none
                    else none
                  else none
                else none
              else none
            else none
          else none
        else none
      else none
    else none
  else k0 v1 v2 v5
def lp31_0 (f : Nat) (k0 : List PV → List PV → List PV → Option Res) : Nat → Int → List PV → List PV → List PV → List PV → List PV → Option Res
  | 0, _, _, _, _, _, _ => none
  | n + 1, v0, v1, v2, v3, v4, v5 => lpS31_0 f (lp31_0 f k0 n) k0 v0 v1 v2 v3 v4 v5
theorem lpR31_0 (f : Nat) (k : Kont) (n : Nat) (v0 : Int) (v1 : List
  PV) (v2 : List
  PV) (v3 : List
  PV) (v4 : List
  PV) (v5 : List
  PV) : evLoop tau 0 nm31_0 (fun s k => ev tau F31 0 0 c31_0 (x31_0 ) s k) (n + 1) (fillS nm31_0 N31 [PV.ptr 1824 [], PV.ptr 1825 [], PV.ptr 1826 [], PV.ptr 1827 [], PV.ptr 1828 [],
  PV.sc
    (Value.int IntKind.i64
      v0)] [(1824, Ent.box false 57 (PV.ar 57 v1)), (1825, Ent.box false 57 (PV.ar 57 v2)), (1826, Ent.box false 51 (PV.ar 51 v3)), (1827, Ent.box false 51 (PV.ar 51 v4)),
  (1828,
    Ent.box false 57
      (PV.ar 57
        v5))]) (kNorm tau 0 nx31_0 k) = lpS31_0 f (fun v0 v1 v2 v3 v4 v5 => evLoop tau 0 nm31_0 (fun s k => ev tau F31 0 0 c31_0 (x31_0 ) s k) n (fillS nm31_0 N31 [PV.ptr 1824 [], PV.ptr 1825 [],
  PV.ptr 1826 [], PV.ptr 1827 [], PV.ptr 1828 [],
  PV.sc
    (Value.int IntKind.i64
      v0)] [(1824, Ent.box false 57 (PV.ar 57 v1)), (1825, Ent.box false 57 (PV.ar 57 v2)), (1826, Ent.box false 51 (PV.ar 51 v3)), (1827, Ent.box false 51 (PV.ar 51 v4)),
  (1828,
    Ent.box false 57
      (PV.ar 57
        v5))]) (kNorm tau 0 nx31_0 k)) (fun x0 x1 x2 => k (Ex.exit
  0) (fillS nx31_0 N31 [PV.ptr 1824 [], PV.ptr 1825 [],
  PV.ptr 1826 []] [(1824, Ent.box false 57 (PV.ar 57 x0)), (1825, Ent.box false 57 (PV.ar 57 x1)), (1826, Ent.box false 57 (PV.ar 57 x2))])) v0 v1 v2 v3 v4 v5 := by kernel_rfl
theorem lpE31_0 (f : Nat) (k : Kont) : ∀ (n : Nat) (v0 : Int) (v1 : List
  PV) (v2 : List
  PV) (v3 : List
  PV) (v4 : List
  PV) (v5 : List
  PV), evLoop tau 0 nm31_0 (fun s k => ev tau F31 0 0 c31_0 (x31_0 ) s k) n (fillS nm31_0 N31 [PV.ptr 1824 [], PV.ptr 1825 [], PV.ptr 1826 [], PV.ptr 1827 [], PV.ptr 1828 [],
  PV.sc
    (Value.int IntKind.i64
      v0)] [(1824, Ent.box false 57 (PV.ar 57 v1)), (1825, Ent.box false 57 (PV.ar 57 v2)), (1826, Ent.box false 51 (PV.ar 51 v3)), (1827, Ent.box false 51 (PV.ar 51 v4)),
  (1828,
    Ent.box false 57
      (PV.ar 57
        v5))]) (kNorm tau 0 nx31_0 k) = lp31_0 f (fun x0 x1 x2 => k (Ex.exit
  0) (fillS nx31_0 N31 [PV.ptr 1824 [], PV.ptr 1825 [],
  PV.ptr 1826 []] [(1824, Ent.box false 57 (PV.ar 57 x0)), (1825, Ent.box false 57 (PV.ar 57 x1)), (1826, Ent.box false 57 (PV.ar 57 x2))])) n v0 v1 v2 v3 v4 v5
  | 0, _, _, _, _, _, _ => rfl
  | n + 1, v0, v1, v2, v3, v4, v5 => (lpR31_0 f k n v0 v1 v2 v3 v4 v5).trans (congrArg (fun r => lpS31_0 f r (fun x0 x1 x2 => k (Ex.exit
  0) (fillS nx31_0 N31 [PV.ptr 1824 [], PV.ptr 1825 [],
  PV.ptr 1826
    []] [(1824, Ent.box false 57 (PV.ar 57 x0)), (1825, Ent.box false 57 (PV.ar 57 x1)),
  (1826, Ent.box false 57 (PV.ar 57 x2))])) v0 v1 v2 v3 v4 v5) (by funext v0 v1 v2 v3 v4 v5; exact lpE31_0 f k n v0 v1 v2 v3 v4 v5))
def r31_0 (f : Nat) : List PV → List (Nat × Ent) → Kont → Option Res
  | [PV.ptr 1824 [], PV.ptr 1825 [], PV.ptr 1826 [], PV.ptr 1827 [], PV.ptr 1828 [],
  PV.sc
    (Value.int IntKind.i64
      v0)], [(1824, Ent.box false 57 (PV.ar 57 v1)), (1825, Ent.box false 57 (PV.ar 57 v2)), (1826, Ent.box false 51 (PV.ar 51 v3)), (1827, Ent.box false 51 (PV.ar 51 v4)),
  (1828,
    Ent.box false 57
      (PV.ar 57
        v5))], k => lp31_0 f (fun x0 x1 x2 => k (Ex.exit
  0) (fillS nx31_0 N31 [PV.ptr 1824 [], PV.ptr 1825 [],
  PV.ptr 1826 []] [(1824, Ent.box false 57 (PV.ar 57 x0)), (1825, Ent.box false 57 (PV.ar 57 x1)), (1826, Ent.box false 57 (PV.ar 57 x2))])) f v0 v1 v2 v3 v4 v5
  | _, _, _ => none
theorem it31_0 (f : Nat) : items c31_0 x31_0 = [] := by kernel_rfl
theorem i31_0 (f : Nat) : (Item.l c31_0 nm31_0 N31 (r31_0 f)).Ok tau Try.prog 0 := loop_item tabOk F31_ok mixed (x := x31_0) (nm2 := nx31_0) (anOk_items _ _ (by rw [it31_0 f]; intro q hq; cases hq)) fun vs hp k res hr => by
  unfold r31_0 at hr
  split at hr
  · exact ⟨f, 0, (lpE31_0 f _ f _ _ _ _ _ _ ).trans hr⟩
  · cases hr
def lpS31_1 (f : Nat) (rc : Int → List PV → List PV → List PV → Option Res) (k0 : List PV → List PV → Option Res) (v0 : Int) (v1 : List PV) (v2 : List PV) (v3 : List PV) : Option Res :=
  bif decide (v0 < 8) then
    bif decide (0 ≤ v0) && decide (v0 < zi 8) && true then
      bif PV.isInt IntKind.u32 (getP (PV.ar 57 v3) [v0.toNat]) && true then
        bif decide (0 ≤ v0) && decide (v0 < zi 8) && true then
          bif PV.isInt IntKind.u32 (getP (PV.ar 57 v1) [v0.toNat]) && true then
            bif decide (0 ≤ v0) && decide (v0 < zi 8) && true then
              rc (IntKind.i64.wrap (v0 + 1)) v1 v2 (v3.set v0.toNat (PV.sc (Value.int IntKind.u32 (IntKind.u32.wrap ((getP (PV.ar 57 v3) [v0.toNat]).int + (getP (PV.ar 57 v1) [v0.toNat]).int)))))
            else none
          else none
        else none
      else none
    else none
  else k0 v2 v3
def lp31_1 (f : Nat) (k0 : List PV → List PV → Option Res) : Nat → Int → List PV → List PV → List PV → Option Res
  | 0, _, _, _, _ => none
  | n + 1, v0, v1, v2, v3 => lpS31_1 f (lp31_1 f k0 n) k0 v0 v1 v2 v3
theorem lpR31_1 (f : Nat) (k : Kont) (n : Nat) (v0 : Int) (v1 : List
  PV) (v2 : List
  PV) (v3 : List
  PV) : evLoop tau 0 nm31_1 (fun s k => ev tau F31 0 0 c31_1 (x31_1 ) s k) (n + 1) (fillS nm31_1 N31 [PV.ptr 1824 [], PV.ptr 1825 [], PV.ptr 1826 [],
  PV.sc
    (Value.int IntKind.i64
      v0)] [(1824, Ent.box false 57 (PV.ar 57 v1)), (1825, Ent.box false 57 (PV.ar 57 v2)),
  (1826,
    Ent.box false 57
      (PV.ar 57
        v3))]) (kNorm tau 0 nx31_1 k) = lpS31_1 f (fun v0 v1 v2 v3 => evLoop tau 0 nm31_1 (fun s k => ev tau F31 0 0 c31_1 (x31_1 ) s k) n (fillS nm31_1 N31 [PV.ptr 1824 [], PV.ptr 1825 [],
  PV.ptr 1826 [],
  PV.sc
    (Value.int IntKind.i64
      v0)] [(1824, Ent.box false 57 (PV.ar 57 v1)), (1825, Ent.box false 57 (PV.ar 57 v2)),
  (1826,
    Ent.box false 57
      (PV.ar 57
        v3))]) (kNorm tau 0 nx31_1 k)) (fun x0 x1 => k (Ex.exit
  2) (fillS nx31_1 N31 [PV.ptr 1824 [], PV.ptr 1825 []] [(1824, Ent.box false 57 (PV.ar 57 x0)), (1825, Ent.box false 57 (PV.ar 57 x1))])) v0 v1 v2 v3 := by kernel_rfl
theorem lpE31_1 (f : Nat) (k : Kont) : ∀ (n : Nat) (v0 : Int) (v1 : List
  PV) (v2 : List
  PV) (v3 : List
  PV), evLoop tau 0 nm31_1 (fun s k => ev tau F31 0 0 c31_1 (x31_1 ) s k) n (fillS nm31_1 N31 [PV.ptr 1824 [], PV.ptr 1825 [], PV.ptr 1826 [],
  PV.sc
    (Value.int IntKind.i64
      v0)] [(1824, Ent.box false 57 (PV.ar 57 v1)), (1825, Ent.box false 57 (PV.ar 57 v2)),
  (1826,
    Ent.box false 57
      (PV.ar 57
        v3))]) (kNorm tau 0 nx31_1 k) = lp31_1 f (fun x0 x1 => k (Ex.exit
  2) (fillS nx31_1 N31 [PV.ptr 1824 [], PV.ptr 1825 []] [(1824, Ent.box false 57 (PV.ar 57 x0)), (1825, Ent.box false 57 (PV.ar 57 x1))])) n v0 v1 v2 v3
  | 0, _, _, _, _ => rfl
  | n + 1, v0, v1, v2, v3 => (lpR31_1 f k n v0 v1 v2 v3).trans (congrArg (fun r => lpS31_1 f r (fun x0 x1 => k (Ex.exit
  2) (fillS nx31_1 N31 [PV.ptr 1824 [],
  PV.ptr 1825 []] [(1824, Ent.box false 57 (PV.ar 57 x0)), (1825, Ent.box false 57 (PV.ar 57 x1))])) v0 v1 v2 v3) (by funext v0 v1 v2 v3; exact lpE31_1 f k n v0 v1 v2 v3))
def r31_1 (f : Nat) : List PV → List (Nat × Ent) → Kont → Option Res
  | [PV.ptr 1824 [], PV.ptr 1825 [], PV.ptr 1826 [],
  PV.sc
    (Value.int IntKind.i64
      v0)], [(1824, Ent.box false 57 (PV.ar 57 v1)), (1825, Ent.box false 57 (PV.ar 57 v2)),
  (1826,
    Ent.box false 57
      (PV.ar 57
        v3))], k => lp31_1 f (fun x0 x1 => k (Ex.exit
  2) (fillS nx31_1 N31 [PV.ptr 1824 [], PV.ptr 1825 []] [(1824, Ent.box false 57 (PV.ar 57 x0)), (1825, Ent.box false 57 (PV.ar 57 x1))])) f v0 v1 v2 v3
  | _, _, _ => none
theorem it31_1 (f : Nat) : items c31_1 x31_1 = [] := by kernel_rfl
theorem i31_1 (f : Nat) : (Item.l c31_1 nm31_1 N31 (r31_1 f)).Ok tau Try.prog 0 := loop_item tabOk F31_ok mixed (x := x31_1) (nm2 := nx31_1) (anOk_items _ _ (by rw [it31_1 f]; intro q hq; cases hq)) fun vs hp k res hr => by
  unfold r31_1 at hr
  split at hr
  · exact ⟨f, 0, (lpE31_1 f _ f _ _ _ _ ).trans hr⟩
  · cases hr
def g31 (f : Nat) (s : List PV) (nl : Bool) (fl : Bool) (b : List PV) (k : Res → Option Res) : Option Res :=
  bif allInt IntKind.u8 b && decide (b.length = 64) then
    lp31_0 f (fun x0_0 x1_0 x2_0 =>
      lp31_1 f (fun x0_1 x1_1 =>
        k (Res.mk (PV.ar 57 x1_1) []
          [])) f (0) x0_0 x1_0 x2_0) f (0) s ([PV.sc (Value.int IntKind.u32 0), PV.sc (Value.int IntKind.u32 0), PV.sc (Value.int IntKind.u32 0), PV.sc (Value.int IntKind.u32 0),
      PV.sc (Value.int IntKind.u32 0), PV.sc (Value.int IntKind.u32 0), PV.sc (Value.int IntKind.u32 0),
      PV.sc
        (Value.int IntKind.u32
          0)]) (pu IntKind.u32
      (spreadP
        (ints
          b))) ([PV.sc (Value.int IntKind.u32 1116352408), PV.sc (Value.int IntKind.u32 1899447441), PV.sc (Value.int IntKind.u32 3049323471), PV.sc (Value.int IntKind.u32 3921009573),
      PV.sc (Value.int IntKind.u32 961987163), PV.sc (Value.int IntKind.u32 1508970993), PV.sc (Value.int IntKind.u32 2453635748), PV.sc (Value.int IntKind.u32 2870763221),
      PV.sc (Value.int IntKind.u32 3624381080), PV.sc (Value.int IntKind.u32 310598401), PV.sc (Value.int IntKind.u32 607225278), PV.sc (Value.int IntKind.u32 1426881987),
      PV.sc (Value.int IntKind.u32 1925078388), PV.sc (Value.int IntKind.u32 2162078206), PV.sc (Value.int IntKind.u32 2614888103), PV.sc (Value.int IntKind.u32 3248222580),
      PV.sc (Value.int IntKind.u32 3835390401), PV.sc (Value.int IntKind.u32 4022224774), PV.sc (Value.int IntKind.u32 264347078), PV.sc (Value.int IntKind.u32 604807628),
      PV.sc (Value.int IntKind.u32 770255983), PV.sc (Value.int IntKind.u32 1249150122), PV.sc (Value.int IntKind.u32 1555081692), PV.sc (Value.int IntKind.u32 1996064986),
      PV.sc (Value.int IntKind.u32 2554220882), PV.sc (Value.int IntKind.u32 2821834349), PV.sc (Value.int IntKind.u32 2952996808), PV.sc (Value.int IntKind.u32 3210313671),
      PV.sc (Value.int IntKind.u32 3336571891), PV.sc (Value.int IntKind.u32 3584528711), PV.sc (Value.int IntKind.u32 113926993), PV.sc (Value.int IntKind.u32 338241895),
      PV.sc (Value.int IntKind.u32 666307205), PV.sc (Value.int IntKind.u32 773529912), PV.sc (Value.int IntKind.u32 1294757372), PV.sc (Value.int IntKind.u32 1396182291),
      PV.sc (Value.int IntKind.u32 1695183700), PV.sc (Value.int IntKind.u32 1986661051), PV.sc (Value.int IntKind.u32 2177026350), PV.sc (Value.int IntKind.u32 2456956037),
      PV.sc (Value.int IntKind.u32 2730485921), PV.sc (Value.int IntKind.u32 2820302411), PV.sc (Value.int IntKind.u32 3259730800), PV.sc (Value.int IntKind.u32 3345764771),
      PV.sc (Value.int IntKind.u32 3516065817), PV.sc (Value.int IntKind.u32 3600352804), PV.sc (Value.int IntKind.u32 4094571909), PV.sc (Value.int IntKind.u32 275423344),
      PV.sc (Value.int IntKind.u32 430227734), PV.sc (Value.int IntKind.u32 506948616), PV.sc (Value.int IntKind.u32 659060556), PV.sc (Value.int IntKind.u32 883997877),
      PV.sc (Value.int IntKind.u32 958139571), PV.sc (Value.int IntKind.u32 1322822218), PV.sc (Value.int IntKind.u32 1537002063), PV.sc (Value.int IntKind.u32 1747873779),
      PV.sc (Value.int IntKind.u32 1955562222), PV.sc (Value.int IntKind.u32 2024104815), PV.sc (Value.int IntKind.u32 2227730452), PV.sc (Value.int IntKind.u32 2361852424),
      PV.sc (Value.int IntKind.u32 2428436474), PV.sc (Value.int IntKind.u32 2756734187), PV.sc (Value.int IntKind.u32 3204031479), PV.sc (Value.int IntKind.u32 3329325298)]) s
  else none
theorem e31 (f : Nat) (s : List PV) (nl : Bool) (fl : Bool) (b : List PV) (k : Res → Option Res) : evFn tau F31 Try.f31 (Try.f31.body.get!) (an31 (r31_0 f) (r31_1 f)) [] 0 [.ar 57 s, .ro 5 nl fl b] [] k = g31 f s nl fl b k := by kernel_rfl
theorem it31 (f : Nat) : items (Try.f31.body.get!) (an31 (r31_0 f) (r31_1 f)) = [.l c31_0 nm31_0 N31 (r31_0 f), .l c31_1 nm31_1 N31 (r31_1 f)] := by kernel_rfl
theorem ia31 (f : Nat) : ∀ q ∈ items (Try.f31.body.get!) (an31 (r31_0 f) (r31_1 f)), q.Ok tau Try.prog 0 := by
  rw [it31 f]; simp only [List.forall_mem_cons, List.not_mem_nil, false_implies, implies_true, and_true]; exact ⟨i31_0 f, i31_1 f⟩
theorem fo31 : Try.prog.funcs[31]? = some Try.f31 := by kernel_rfl
theorem bo31 : Try.f31.body = some (Try.f31.body.get!) := by kernel_rfl
theorem en31 : Enters Try.prog 31 := enters_of fo31 (by kernel_rfl) bo31
end Go.Proofs.Ytodldmomneecpaa.Rx

/- The sum, as plain arithmetic on rows of numbers. Own work. -/
namespace Go.Proofs.Ytodldmomneecpaa.Rx
open Go
set_option linter.unusedVariables false
set_option maxRecDepth 100000
set_option maxHeartbeats 4000000
/-- a row that is filled from its beginning on -/
def fillM (g : Nat → Int) (t : List Int) (i : Nat) : List Int := (List.range i).map g ++ t.drop i
theorem fillM_zero (g : Nat → Int) (t : List Int) : fillM g t 0 = t := by simp [fillM]
theorem fillM_full (g : Nat → Int) (t : List Int) : fillM g t t.length = (List.range t.length).map g := by simp [fillM]
theorem fillM_length (g : Nat → Int) (t : List Int) (i : Nat) (h : i ≤ t.length) : (fillM g t i).length = t.length := by simp [fillM]; omega
theorem fillM_set (g : Nat → Int) (t : List Int) (i : Nat) (h : i < t.length) : (fillM g t i).set i (g i) = fillM g t (i + 1) := by
  rw [fillM, List.set_append_right _ _ (by simp), List.drop_eq_getElem_cons h, List.length_map, List.length_range, Nat.sub_self, List.set_cons_zero]
  simp [fillM, List.range_succ]
theorem fillM_get (g : Nat → Int) (t : List Int) (i : Nat) (h : i < t.length) : (fillM g t i).getD i 0 = t.getD i 0 := by
  simp only [fillM, List.getD_eq_getElem?_getD]
  rw [List.getElem?_append_right (by simp)]
  simp
def kks : List Int := [1116352408, 1899447441, 3049323471, 3921009573, 961987163, 1508970993, 2453635748, 2870763221, 3624381080, 310598401, 607225278, 1426881987, 1925078388, 2162078206, 2614888103, 3248222580, 3835390401, 4022224774, 264347078, 604807628, 770255983, 1249150122, 1555081692, 1996064986, 2554220882, 2821834349, 2952996808, 3210313671, 3336571891, 3584528711, 113926993, 338241895, 666307205, 773529912, 1294757372, 1396182291, 1695183700, 1986661051, 2177026350, 2456956037, 2730485921, 2820302411, 3259730800, 3345764771, 3516065817, 3600352804, 4094571909, 275423344, 430227734, 506948616, 659060556, 883997877, 958139571, 1322822218, 1537002063, 1747873779, 1955562222, 2024104815, 2227730452, 2361852424, 2428436474, 2756734187, 3204031479, 3329325298]
def iv : List Int := [1779033703, 3144134277, 1013904242, 2773480762, 1359893119, 2600822924, 528734635, 1541459225]
def xW (k w h e f g : Int) : Int := ww (ww (ww (ww (h + bitI .xor .u32 (bitI .xor .u32 (rr e 6) (rr e 11)) (rr e 25)) + bitI .xor .u32 (bitI .and .u32 e f) (bitI .and .u32 (bitI .xor .u32 (Int.ofNat (2 ^ IntKind.u32.bits - Nat.succ 0)) e) g)) + k) + w)
def yW (a b c : Int) : Int := ww (bitI .xor .u32 (bitI .xor .u32 (rr a 2) (rr a 13)) (rr a 22) + bitI .xor .u32 (bitI .xor .u32 (bitI .and .u32 a b) (bitI .and .u32 a c)) (bitI .and .u32 b c))
def rnd (k w : Int) (t : List Int) : List Int :=
  [ww (xW k w (t.getD 7 0) (t.getD 4 0) (t.getD 5 0) (t.getD 6 0) + yW (t.getD 0 0) (t.getD 1 0) (t.getD 2 0)), t.getD 0 0, t.getD 1 0, t.getD 2 0,
    ww (t.getD 3 0 + xW k w (t.getD 7 0) (t.getD 4 0) (t.getD 5 0) (t.getD 6 0)), t.getD 4 0, t.getD 5 0, t.getD 6 0]
def rnds (W s : List Int) : Nat → List Int
  | 0 => s
  | i + 1 => rnd (kks.getD i 0) (W.getD i 0) (rnds W s i)
theorem rnds_length (W s : List Int) (h : s.length = 8) : ∀ i, (rnds W s i).length = 8
  | 0 => h
  | i + 1 => rfl
/-- a piece is taken -/
def addP (s bs : List Int) : List Int := (List.range 8).map fun i => ww ((rnds (spreadP bs) s 64).getD i 0 + s.getD i 0)
theorem addP_length (s bs : List Int) : (addP s bs).length = 8 := by simp [addP]
/-- so many pieces are taken -/
def foldB (s b : List Int) : Nat → List Int
  | 0 => s
  | n + 1 => addP (foldB s b n) ((b.drop (64 * n)).take 64)
theorem foldB_length (s b : List Int) (h : s.length = 8) : ∀ n, (foldB s b n).length = 8
  | 0 => h
  | n + 1 => addP_length _ _
def zs (m : Nat) : Nat := (120 - m % 64) % 64
def lenB (n : Nat) : List Int := (List.range 8).map fun (i : Nat) => IntKind.u8.wrap (shrI .u64 (IntKind.u64.wrap (IntKind.u64.wrap (n : Int) * 8)) (56 - 8 * (i : Int)))
def padP (bs : List Int) : List Int := (bs ++ [128] ++ List.replicate (zs (bs.length + 1)) 0) ++ lenB bs.length
theorem padP_length (bs : List Int) : (padP bs).length = 64 * ((padP bs).length / 64) := by
  have : (padP bs).length = bs.length + 1 + zs (bs.length + 1) + 8 := by simp [padP, lenB]; omega
  rw [this]; unfold zs; omega
def outB (s : List Int) (i : Nat) : Int := IntKind.u8.wrap (shrI .u32 (s.getD (i / 4) 0) (24 - 8 * ((i % 4 : Nat) : Int)))
def outP (s : List Int) : List Int := (List.range 32).map (outB s)
/-- the sum -/
def sumP0 (bs : List Int) : List Int := outP (foldB iv (padP bs) ((padP bs).length / 64))
/-- the same, said so that nothing is reckoned while the bytes aren't known -/
def sumP (bs : List Int) : List Int := bif Nat.ble bs.length bs.length then sumP0 bs else []
theorem sumP_eq (bs : List Int) : sumP bs = sumP0 bs := by
  have : Nat.ble bs.length bs.length = true := by rw [Nat.ble_eq]; exact Nat.le_refl _
  rw [sumP, this]; rfl
theorem sumP_length (bs : List Int) : (sumP bs).length = 32 := by simp [sumP_eq, sumP0, outP]
theorem tmod64 (n : Nat) : (zi n).tmod 64 = ((n % 64 : Nat) : Int) := by
  show (n : Int).tmod 64 = _
  rw [Int.tmod_eq_emod_of_nonneg (by omega)]; omega
end Go.Proofs.Ytodldmomneecpaa.Rx

-- FN (sha.state).add
/- A piece is taken: what it makes of a sum on its way. Own work. -/
namespace Go.Proofs.Ytodldmomneecpaa.Rx
open Go
set_option linter.unusedVariables false
set_option maxRecDepth 100000
set_option maxHeartbeats 1000000
theorem getD8 {R : List Int} (h : R.length = 8) (j : Nat) (hj : j < 8) : (pu .u32 R).getD j .top = .sc (.int .u32 (R.getD j 0)) := pu_get (by omega)
theorem l31_0 (W s : List Int) (hW : W.length = 64) (hs : s.length = 8) (f : Nat) (k0 : List PV → List PV → List PV → Option Res) (a b : List PV) : ∀ (d i n : Nat), i + d = 64 → d < n →
    lp31_0 f k0 n (i : Int) a b (pu .u32 W) (pu .u32 kks) (pu .u32 (rnds W s i)) = k0 a b (pu .u32 (rnds W s 64))
  | 0, i, n + 1, h, hn => by
      obtain rfl : i = 64 := by omega
      simp only [lp31_0, lpS31_0]
      exact bif_f (by decide)
  | d + 1, i, n + 1, h, hn => by
      have hl := rnds_length W s hs i
      have h1 : IntKind.i64.wrap ((i : Int) + 1) = ((i + 1 : Nat) : Int) := by rw [wrap_i64 (by omega) (by omega)]; omega
      have hk : (pu .u32 kks).getD i .top = .sc (.int .u32 (kks.getD i 0)) := pu_get (by show i < 64; omega)
      have hw : (pu .u32 W).getD i .top = .sc (.int .u32 (W.getD i 0)) := pu_get (by omega)
      have c1 : decide ((i : Int) < 64) = true := by simp; omega
      have c2 : decide (0 ≤ (i : Int)) = true := by simp
      have c3 : decide ((i : Int) < zi 64) = true := by simp; omega
      simp only [lp31_0, lpS31_0, getP_ar, Int.toNat_natCast, h1, hk, hw, c1, c2, c3, getD8 hl 0 (by omega), getD8 hl 1 (by omega), getD8 hl 2 (by omega), getD8 hl 3 (by omega), getD8 hl 4 (by omega), getD8 hl 5 (by omega), getD8 hl 6 (by omega), getD8 hl 7 (by omega), PV.isInt, PV.int, decide_true, Bool.and_true, cond_true]
      exact l31_0 W s hW hs f k0 a b d (i + 1) n (by omega) (by omega)
theorem l31_1 (t s : List Int) (ht : t.length = 8) (hs : s.length = 8) (f : Nat) (k0 : List PV → List PV → Option Res) (a : List PV) : ∀ (d i n : Nat), i + d = 8 → d < n →
    lp31_1 f k0 n (i : Int) (pu .u32 s) a (pu .u32 (fillM (fun j => ww (t.getD j 0 + s.getD j 0)) t i)) = k0 a (pu .u32 (fillM (fun j => ww (t.getD j 0 + s.getD j 0)) t 8))
  | 0, i, n + 1, h, hn => by
      obtain rfl : i = 8 := by omega
      simp only [lp31_1, lpS31_1]
      exact bif_f (by decide)
  | d + 1, i, n + 1, h, hn => by
      have hl : (fillM (fun j => ww (t.getD j 0 + s.getD j 0)) t i).length = 8 := by rw [fillM_length _ _ _ (by omega), ht]
      have h1 : IntKind.i64.wrap ((i : Int) + 1) = ((i + 1 : Nat) : Int) := by rw [wrap_i64 (by omega) (by omega)]; omega
      have c1 : decide ((i : Int) < 8) = true := by simp; omega
      have c2 : decide (0 ≤ (i : Int)) = true := by simp
      have c3 : decide ((i : Int) < zi 8) = true := by simp; omega
      have g1 : ((i : Int)).toNat = i := by omega
      simp only [lp31_1, lpS31_1, getP_ar, g1, h1, c1, c2, c3, getD8 hl i (by omega), getD8 hs i (by omega), fillM_get _ t i (by omega), PV.isInt, PV.int, decide_true, Bool.and_true, cond_true, pu_set]
      have := l31_1 t s ht hs f k0 a d (i + 1) n (by omega) (by omega)
      rw [← fillM_set _ t i (by omega)] at this
      exact this
theorem g31_eq (s bs : List Int) (hs : s.length = 8) (hb : bs.length = 64) (nl fl : Bool) (k : Res → Option Res) : g31 100 (pu .u32 s) nl fl (pu .u8 bs) k = k ⟨.ar 57 (pu .u32 (addP s bs)), [], []⟩ := by
  have hW : (spreadP bs).length = 64 := sched_length bs 48
  have hc : (allInt .u8 (pu .u8 bs) && decide ((pu .u8 bs).length = 64)) = true := by simp [hb]
  refine (bif_t hc).trans ?_
  rw [ints_pu]
  have h0 : ∀ k0 a b, lp31_0 100 k0 100 0 a b (pu .u32 (spreadP bs)) (pu .u32 kks) (pu .u32 s) = k0 a b (pu .u32 (rnds (spreadP bs) s 64)) := fun k0 a b => l31_0 (spreadP bs) s hW hs 100 k0 a b 64 0 100 (by omega) (by omega)
  have ht := rnds_length (spreadP bs) s hs 64
  have h1 : ∀ k0 a, lp31_1 100 k0 100 0 (pu .u32 s) a (pu .u32 (rnds (spreadP bs) s 64)) = k0 a (pu .u32 (addP s bs)) := by
    intro k0 a
    have := l31_1 (rnds (spreadP bs) s 64) s ht hs 100 k0 a 8 0 100 (by omega) (by omega)
    rw [fillM_zero] at this
    refine this.trans ?_
    have h2 := fillM_full (fun j => ww ((rnds (spreadP bs) s 64).getD j 0 + s.getD j 0)) (rnds (spreadP bs) s 64)
    rw [ht] at h2; rw [h2]; rfl
  exact (h0 _ _ _).trans (h1 _ _)
def run31' : List PV → List Ent → (Res → Option Res) → Option Res
  | [.ar 57 s, .ro 5 nl fl b], [], k => bif (allInt .u32 s && decide (s.length = 8)) && (allInt .u8 b && decide (b.length = 64)) then k ⟨.ar 57 (pu .u32 (addP (ints s) (ints b))), [], []⟩ else none
  | _, _, _ => none
def s31' : Sig := { own := [], run := run31' }
theorem ok31' : CallOk tau Try.prog 31 s31' := fn_ok tabOk F31_ok mixed fo31 bo31 _ [] 0 [] run31' (ia31 100) fun xs es k res hr => by
  unfold run31' at hr
  split at hr
  · obtain ⟨hc, hr⟩ := of_bif hr
    simp only [Bool.and_eq_true, decide_eq_true_eq] at hc
    refine ⟨rfl, 0, (e31 100 _ _ _ _ _).trans ?_⟩
    rw [pu_ints hc.2.1, pu_ints hc.1.1, g31_eq _ _ (by simpa using hc.1.2) (by simpa using hc.2.2)]
    exact hr
  · cases hr
end Go.Proofs.Ytodldmomneecpaa.Rx

/- What slices.Grow[[]byte,byte] computes. Own work, printed by a program of the worker's own. -/
namespace Go.Proofs.Ytodldmomneecpaa.Rx
open Go
set_option linter.unusedVariables false
set_option maxRecDepth 100000
set_option maxHeartbeats 0
def N36 : Nat := 27
noncomputable def F36 : Fns := F0
theorem F36_ok : FnsOk tau Try.prog F36 := F0_ok
def an36 : An := (.seq .leaf (.seq (.seq .leaf (.cond .leaf .leaf)) (.seq (.seq .leaf (.seq .leaf (.cond .leaf .leaf))) (.seq .leaf .leaf))))
def g36 (f : Nat) (n : Int) (k : Res → Option Res) : Option Res :=
  bif decide (n < 0) then
    none
  else bif decide (IntKind.i64.wrap (n - IntKind.i64.wrap (zi 0 - zi 0)) > 0) then
    bif decide (0 ≤ IntKind.i64.wrap (n - IntKind.i64.wrap (zi 0 - zi 0))) && roomy (IntKind.i64.wrap (n - IntKind.i64.wrap (zi 0 - zi 0))).toNat 1 && true then
      k (Res.mk (PV.ow 5 16 [] 0 0 none) []
        [Ent.vec false 5 (IntKind.i64.wrap (n - IntKind.i64.wrap (zi 0 - zi 0)) == 0) (List.replicate (IntKind.i64.wrap (n - IntKind.i64.wrap (zi 0 - zi 0))).toNat (PV.sc (Value.int IntKind.u8 0)))])
    else none
  else k (Res.mk (PV.ro 5 true true []) [] [])
theorem e36 (f : Nat) (n : Int) (k : Res → Option Res) : evFn tau F36 Try.f36 (Try.f36.body.get!) an36 [] 0 [.ro 5 true true [], .sc (.int .i64 n)] [] k = g36 f n k := by kernel_rfl
theorem it36 (f : Nat) : items (Try.f36.body.get!) an36 = [] := by kernel_rfl
theorem ia36 (f : Nat) : ∀ q ∈ items (Try.f36.body.get!) an36, q.Ok tau Try.prog 0 := by
  rw [it36 f]; intro q hq; cases hq
theorem fo36 : Try.prog.funcs[36]? = some Try.f36 := by kernel_rfl
theorem bo36 : Try.f36.body = some (Try.f36.body.get!) := by kernel_rfl
theorem en36 : Enters Try.prog 36 := enters_of fo36 (by kernel_rfl) bo36
def run36 : List PV → List Ent → (Res → Option Res) → Option Res
  | [.ro 5 true true [], .sc (.int .i64 n)], [], k => g36 0 n k
  | _, _, _ => none
def s36 : Sig := { own := [], run := run36 }
theorem ok36 : CallOk tau Try.prog 36 s36 := fn_ok tabOk F36_ok mixed fo36 bo36 an36 [] 0 [] run36 (ia36 0) fun xs es k res hr => by
  unfold run36 at hr
  split at hr
  · exact ⟨rfl, 0, (e36 0 _  _).trans hr⟩
  · cases hr
end Go.Proofs.Ytodldmomneecpaa.Rx

/- What slices.Concat[[]byte,byte] computes. Own work, printed by a program of the worker's own. -/
namespace Go.Proofs.Ytodldmomneecpaa.Rx
open Go
set_option linter.unusedVariables false
set_option maxRecDepth 100000
set_option maxHeartbeats 0
def N30 : Nat := 36
noncomputable def F30 : Fns := addF 36 s36 (F0)
theorem F30_ok : FnsOk tau Try.prog F30 := (F0_ok).add ok36 en36
noncomputable def c30_0 : Code := subC (Try.f30.body.get!) [1, 1, 0, 1, 0, 0]
def nm30_0 : Nm := [(0, .any), (3, .any), (9, .any), (10, .any), (11, .any)]
def nx30_0 : Nm := [(0, .any), (3, .any)]
def x30_0 : An := (.seq .leaf (.seq (.cond .leaf .leaf) (.seq (.block none (.seq .leaf (.seq .leaf (.seq .leaf (.cond .leaf .leaf))))) .leaf)))
noncomputable def c30_1 : Code := subC (Try.f30.body.get!) [1, 1, 1, 1, 0, 1, 0, 0]
def nm30_1 : Nm := [(6, .own), (25, .any), (26, .any), (27, .any)]
def nx30_1 : Nm := [(6, .any)]
def x30_1 : An := (.seq .leaf (.seq (.cond .leaf .leaf) (.seq (.block none (.seq .leaf .leaf)) .leaf)))
def an30 (r0 : RunL) (r1 : RunL) : An := (.seq .leaf (.seq .leaf (.seq (.seq .leaf (.block none (.sum nm30_0 N30 r0))) (.seq .leaf (.seq (.seq .leaf (.block none (.sum nm30_1 N30 r1))) (.seq .leaf .leaf))))))
def lpS30_0 (f : Nat) (rc : Bool → Bool → List
  PV → Int → Bool → Bool → List
  PV → Int → Int → Option Res) (k0 : Bool → Bool → List
  PV → Int → Option Res) (v0 : Bool) (v1 : Bool) (v2 : List PV) (v3 : Int) (v4 : Bool) (v5 : Bool) (v6 : List PV) (v7 : Int) (v8 : Int) : Option Res :=
  bif decide (v8 < v7) then
    bif decide (0 ≤ v8) && decide (v8 < zi v6.length) && PV.isRo 5 (v6.getD v8.toNat PV.top) && true then
      bif decide (IntKind.i64.wrap (v3 + zi (v6.getD v8.toNat PV.top).els.length) < 0) then
        none
      else rc v0 v1 v2 (IntKind.i64.wrap (v3 + zi (v6.getD v8.toNat PV.top).els.length)) v4 v5 v6 v7 (IntKind.i64.wrap (v8 + 1))
    else none
  else k0 v0 v1 v2 v3
def lp30_0 (f : Nat) (k0 : Bool → Bool → List PV → Int → Option Res) : Nat → Bool → Bool → List PV → Int → Bool → Bool → List PV → Int → Int → Option Res
  | 0, _, _, _, _, _, _, _, _, _ => none
  | n + 1, v0, v1, v2, v3, v4, v5, v6, v7, v8 => lpS30_0 f (lp30_0 f k0 n) k0 v0 v1 v2 v3 v4 v5 v6 v7 v8
theorem lpR30_0 (f : Nat) (k : Kont) (n : Nat) (v0 : Bool) (v1 : Bool) (v2 : List
  PV) (v3 : Int) (v4 : Bool) (v5 : Bool) (v6 : List
  PV) (v7 : Int) (v8 : Int) : evLoop tau 0 nm30_0 (fun s k => ev tau F30 0 0 c30_0 (x30_0 ) s k) (n + 1) (fillS nm30_0 N30 [PV.ro 22 v0 v1 v2, PV.sc (Value.int IntKind.i64 v3), PV.ro 22 v4 v5 v6,
  PV.sc (Value.int IntKind.i64 v7),
  PV.sc
    (Value.int IntKind.i64
      v8)] []) (kNorm tau 0 nx30_0 k) = lpS30_0 f (fun v0 v1 v2 v3 v4 v5 v6 v7 v8 => evLoop tau 0 nm30_0 (fun s k => ev tau F30 0 0 c30_0 (x30_0 ) s k) n (fillS nm30_0 N30 [PV.ro 22 v0 v1 v2,
  PV.sc (Value.int IntKind.i64 v3), PV.ro 22 v4 v5 v6, PV.sc (Value.int IntKind.i64 v7),
  PV.sc
    (Value.int IntKind.i64
      v8)] []) (kNorm tau 0 nx30_0 k)) (fun x0 x1 x2 x3 => k (Ex.exit 0) (fillS nx30_0 N30 [PV.ro 22 x0 x1 x2, PV.sc (Value.int IntKind.i64 x3)] [])) v0 v1 v2 v3 v4 v5 v6 v7 v8 := by kernel_rfl
theorem lpE30_0 (f : Nat) (k : Kont) : ∀ (n : Nat) (v0 : Bool) (v1 : Bool) (v2 : List
  PV) (v3 : Int) (v4 : Bool) (v5 : Bool) (v6 : List
  PV) (v7 : Int) (v8 : Int), evLoop tau 0 nm30_0 (fun s k => ev tau F30 0 0 c30_0 (x30_0 ) s k) n (fillS nm30_0 N30 [PV.ro 22 v0 v1 v2, PV.sc (Value.int IntKind.i64 v3), PV.ro 22 v4 v5 v6,
  PV.sc (Value.int IntKind.i64 v7),
  PV.sc
    (Value.int IntKind.i64
      v8)] []) (kNorm tau 0 nx30_0 k) = lp30_0 f (fun x0 x1 x2 x3 => k (Ex.exit 0) (fillS nx30_0 N30 [PV.ro 22 x0 x1 x2, PV.sc (Value.int IntKind.i64 x3)] [])) n v0 v1 v2 v3 v4 v5 v6 v7 v8
  | 0, _, _, _, _, _, _, _, _, _ => rfl
  | n + 1, v0, v1, v2, v3, v4, v5, v6, v7, v8 => (lpR30_0 f k n v0 v1 v2 v3 v4 v5 v6 v7 v8).trans (congrArg (fun r => lpS30_0 f r (fun x0 x1 x2 x3 => k (Ex.exit
  0) (fillS nx30_0 N30 [PV.ro 22 x0 x1 x2, PV.sc (Value.int IntKind.i64 x3)] [])) v0 v1 v2 v3 v4 v5 v6 v7 v8) (by funext v0 v1 v2 v3 v4 v5 v6 v7 v8; exact lpE30_0 f k n v0 v1 v2 v3 v4 v5 v6 v7 v8))
def r30_0 (f : Nat) : List PV → List (Nat × Ent) → Kont → Option Res
  | [PV.ro 22 v0 v1 v2, PV.sc (Value.int IntKind.i64 v3), PV.ro 22 v4 v5 v6, PV.sc (Value.int IntKind.i64 v7),
  PV.sc (Value.int IntKind.i64 v8)], [], k => lp30_0 f (fun x0 x1 x2 x3 => k (Ex.exit 0) (fillS nx30_0 N30 [PV.ro 22 x0 x1 x2, PV.sc (Value.int IntKind.i64 x3)] [])) f v0 v1 v2 v3 v4 v5 v6 v7 v8
  | _, _, _ => none
theorem it30_0 (f : Nat) : items c30_0 x30_0 = [] := by kernel_rfl
theorem i30_0 (f : Nat) : (Item.l c30_0 nm30_0 N30 (r30_0 f)).Ok tau Try.prog 0 := loop_item tabOk F30_ok mixed (x := x30_0) (nm2 := nx30_0) (anOk_items _ _ (by rw [it30_0 f]; intro q hq; cases hq)) fun vs hp k res hr => by
  unfold r30_0 at hr
  split at hr
  · exact ⟨f, 0, (lpE30_0 f _ f _ _ _ _ _ _ _ _ _ ).trans hr⟩
  · cases hr
def lpS30_1 (f : Nat) (rc : Nat → Bool → Bool → List
  PV → Int → Int → Bool → List
  PV → Option Res) (k0 : Nat → Bool → List PV → Option Res) (v0 : Nat) (v1 : Bool) (v2 : Bool) (v3 : List PV) (v4 : Int) (v5 : Int) (v6 : Bool) (v7 : List PV) : Option Res :=
  bif decide (v5 < v4) then
    bif decide (0 ≤ v5) && decide (v5 < zi v3.length) && PV.isRo 5 (v3.getD v5.toNat PV.top) && true then
      bif roomy (v0 + (v3.getD v5.toNat PV.top).els.length) 1 && true then
        rc (v0 + (v3.getD v5.toNat PV.top).els.length) v1 v2 v3 v4 (IntKind.i64.wrap (v5 + 1)) (v6 && (v3.getD v5.toNat PV.top).els.isEmpty) (List.take v0 v7 ++ (v3.getD v5.toNat PV.top).els)
      else none
    else none
  else k0 v0 v6 v7
def lp30_1 (f : Nat) (k0 : Nat → Bool → List PV → Option Res) : Nat → Nat → Bool → Bool → List PV → Int → Int → Bool → List PV → Option Res
  | 0, _, _, _, _, _, _, _, _ => none
  | n + 1, v0, v1, v2, v3, v4, v5, v6, v7 => lpS30_1 f (lp30_1 f k0 n) k0 v0 v1 v2 v3 v4 v5 v6 v7
theorem lpR30_1 (f : Nat) (k : Kont) (n : Nat) (v0 : Nat) (v1 : Bool) (v2 : Bool) (v3 : List
  PV) (v4 : Int) (v5 : Int) (v6 : Bool) (v7 : List
  PV) : evLoop tau 0 nm30_1 (fun s k => ev tau F30 0 0 c30_1 (x30_1 ) s k) (n + 1) (fillS nm30_1 N30 [PV.ow 5 592 [] 0 v0 none, PV.ro 22 v1 v2 v3, PV.sc (Value.int IntKind.i64 v4),
  PV.sc
    (Value.int IntKind.i64
      v5)] [(592,
    Ent.vec false 5 v6
      v7)]) (kNorm tau 0 nx30_1 k) = lpS30_1 f (fun v0 v1 v2 v3 v4 v5 v6 v7 => evLoop tau 0 nm30_1 (fun s k => ev tau F30 0 0 c30_1 (x30_1 ) s k) n (fillS nm30_1 N30 [PV.ow 5 592 [] 0 v0 none,
  PV.ro 22 v1 v2 v3, PV.sc (Value.int IntKind.i64 v4),
  PV.sc
    (Value.int IntKind.i64
      v5)] [(592,
    Ent.vec false 5 v6
      v7)]) (kNorm tau 0 nx30_1 k)) (fun x0 x1 x2 => k (Ex.exit 2) (fillS nx30_1 N30 [PV.ow 5 592 [] 0 x0 none] [(592, Ent.vec false 5 x1 x2)])) v0 v1 v2 v3 v4 v5 v6 v7 := by kernel_rfl
theorem lpE30_1 (f : Nat) (k : Kont) : ∀ (n : Nat) (v0 : Nat) (v1 : Bool) (v2 : Bool) (v3 : List
  PV) (v4 : Int) (v5 : Int) (v6 : Bool) (v7 : List
  PV), evLoop tau 0 nm30_1 (fun s k => ev tau F30 0 0 c30_1 (x30_1 ) s k) n (fillS nm30_1 N30 [PV.ow 5 592 [] 0 v0 none, PV.ro 22 v1 v2 v3, PV.sc (Value.int IntKind.i64 v4),
  PV.sc
    (Value.int IntKind.i64
      v5)] [(592,
    Ent.vec false 5 v6 v7)]) (kNorm tau 0 nx30_1 k) = lp30_1 f (fun x0 x1 x2 => k (Ex.exit 2) (fillS nx30_1 N30 [PV.ow 5 592 [] 0 x0 none] [(592, Ent.vec false 5 x1 x2)])) n v0 v1 v2 v3 v4 v5 v6 v7
  | 0, _, _, _, _, _, _, _, _ => rfl
  | n + 1, v0, v1, v2, v3, v4, v5, v6, v7 => (lpR30_1 f k n v0 v1 v2 v3 v4 v5 v6 v7).trans (congrArg (fun r => lpS30_1 f r (fun x0 x1 x2 => k (Ex.exit
  2) (fillS nx30_1 N30 [PV.ow 5 592 [] 0 x0 none] [(592, Ent.vec false 5 x1 x2)])) v0 v1 v2 v3 v4 v5 v6 v7) (by funext v0 v1 v2 v3 v4 v5 v6 v7; exact lpE30_1 f k n v0 v1 v2 v3 v4 v5 v6 v7))
def r30_1 (f : Nat) : List PV → List (Nat × Ent) → Kont → Option Res
  | [PV.ow 5 592 [] 0 v0 none, PV.ro 22 v1 v2 v3, PV.sc (Value.int IntKind.i64 v4),
  PV.sc
    (Value.int IntKind.i64
      v5)], [(592, Ent.vec false 5 v6 v7)], k => lp30_1 f (fun x0 x1 x2 => k (Ex.exit 2) (fillS nx30_1 N30 [PV.ow 5 592 [] 0 x0 none] [(592, Ent.vec false 5 x1 x2)])) f v0 v1 v2 v3 v4 v5 v6 v7
  | _, _, _ => none
theorem it30_1 (f : Nat) : items c30_1 x30_1 = [] := by kernel_rfl
theorem i30_1 (f : Nat) : (Item.l c30_1 nm30_1 N30 (r30_1 f)).Ok tau Try.prog 0 := loop_item tabOk F30_ok mixed (x := x30_1) (nm2 := nx30_1) (anOk_items _ _ (by rw [it30_1 f]; intro q hq; cases hq)) fun vs hp k res hr => by
  unfold r30_1 at hr
  split at hr
  · exact ⟨f, 0, (lpE30_1 f _ f _ _ _ _ _ _ _ _ ).trans hr⟩
  · cases hr
def g30 (f : Nat) (slices_z : Bool) (slices_f : Bool) (slices : List PV) (k : Res → Option Res) : Option Res :=
  lp30_0 f (fun x0_0 x1_0 x2_0 x3_0 =>
    bif decide (x3_0 < 0) then
      none
    else bif decide (IntKind.i64.wrap (x3_0 - IntKind.i64.wrap (zi 0 - zi 0)) > 0) then
      bif decide (0 ≤ IntKind.i64.wrap (x3_0 - IntKind.i64.wrap (zi 0 - zi 0))) && roomy (IntKind.i64.wrap (x3_0 - IntKind.i64.wrap (zi 0 - zi 0))).toNat 1 && true then
        lp30_1 f (fun x0_1 x1_1 x2_1 =>
          k (Res.mk (PV.ow 5 16 [] 0 x0_1 none) []
            [Ent.vec false 5 x1_1
                x2_1])) f (0) x0_0 x1_0 x2_0 (zi
          x2_0.length) (0) (IntKind.i64.wrap (x3_0 - IntKind.i64.wrap (zi 0 - zi 0)) ==
          0) (List.replicate (IntKind.i64.wrap (x3_0 - IntKind.i64.wrap (zi 0 - zi 0))).toNat (PV.sc (Value.int IntKind.u8 0)))
      else none
    else lp30_1 f (fun x0_2 x1_2 x2_2 =>
      k (Res.mk (PV.ow 5 16 [] 0 x0_2 none) []
        [Ent.vec false 5 x1_2 x2_2])) f (0) x0_0 x1_0 x2_0 (zi x2_0.length) (0) true ([])) f slices_z slices_f slices (0) slices_z slices_f slices (zi slices.length) (0)
theorem e30 (f : Nat) (slices_z : Bool) (slices_f : Bool) (slices : List PV) (k : Res → Option Res) : evFn tau F30 Try.f30 (Try.f30.body.get!) (an30 (r30_0 f) (r30_1 f)) [] 0 [.ro 22 slices_z slices_f slices] [] k = g30 f slices_z slices_f slices k := by kernel_rfl
theorem it30 (f : Nat) : items (Try.f30.body.get!) (an30 (r30_0 f) (r30_1 f)) = [.l c30_0 nm30_0 N30 (r30_0 f), .l c30_1 nm30_1 N30 (r30_1 f)] := by kernel_rfl
theorem ia30 (f : Nat) : ∀ q ∈ items (Try.f30.body.get!) (an30 (r30_0 f) (r30_1 f)), q.Ok tau Try.prog 0 := by
  rw [it30 f]; simp only [List.forall_mem_cons, List.not_mem_nil, false_implies, implies_true, and_true]; exact ⟨i30_0 f, i30_1 f⟩
theorem fo30 : Try.prog.funcs[30]? = some Try.f30 := by kernel_rfl
theorem bo30 : Try.f30.body = some (Try.f30.body.get!) := by kernel_rfl
theorem en30 : Enters Try.prog 30 := enters_of fo30 (by kernel_rfl) bo30
end Go.Proofs.Ytodldmomneecpaa.Rx

-- FN slices.Concat[[]byte,byte]
/- Rows that are put one behind the other (slices.Concat). Own work. -/
namespace Go.Proofs.Ytodldmomneecpaa.Rx
open Go
set_option linter.unusedVariables false
set_option maxRecDepth 100000
set_option maxHeartbeats 4000000
def flat (l : List PV) : List PV := (l.map PV.els).flatten
@[simp] theorem flat_nil : flat [] = [] := rfl
@[simp] theorem flat_cons (p : PV) (l : List PV) : flat (p :: l) = p.els ++ flat l := by simp [flat]
theorem flat_append (a b : List PV) : flat (a ++ b) = flat a ++ flat b := by simp [flat]
theorem take_succ_getD (l : List PV) (i : Nat) (h : i < l.length) : l.take (i + 1) = l.take i ++ [l.getD i .top] := by
  rw [List.take_add_one, List.getD_eq_getElem?_getD, List.getElem?_eq_getElem h]; rfl
theorem drop_getD (l : List PV) (i : Nat) (h : i < l.length) : l.drop i = l.getD i .top :: l.drop (i + 1) := by
  rw [List.drop_eq_getElem_cons h, List.getD_eq_getElem?_getD, List.getElem?_eq_getElem h]; rfl
theorem flat_take (l : List PV) (i : Nat) (h : i < l.length) : flat (l.take (i + 1)) = flat (l.take i) ++ (l.getD i .top).els := by
  rw [take_succ_getD l i h, flat_append, flat_cons, flat_nil, List.append_nil]
theorem flat_take_le (l : List PV) (i : Nat) : (flat (l.take i)).length ≤ (flat l).length := by
  have : flat l = flat (l.take i) ++ flat (l.drop i) := by rw [← flat_append, List.take_append_drop]
  rw [this, List.length_append]; omega
theorem isRo_getD {l : List PV} (h : l.all (PV.isRo 5) = true) {i : Nat} (hi : i < l.length) : (l.getD i .top).isRo 5 = true := by
  rw [List.getD_eq_getElem?_getD, List.getElem?_eq_getElem hi]
  exact List.all_eq_true.1 h _ (List.getElem_mem hi)
theorem isEmpty_app {α : Type} (a b : List α) : (a ++ b).isEmpty = (a.isEmpty && b.isEmpty) := by cases a <;> rfl
theorem l30_0 (f : Nat) (k0 : Bool → Bool → List PV → Int → Option Res) (a b : Bool) (c : List PV) (nl fl : Bool) (l : List PV) (hl : l.all (PV.isRo 5) = true) (hs : (flat l).length ≤ 140737488355328) (hn : l.length ≤ 140737488355328) : ∀ (d i n : Nat), i + d = l.length → d < n →
    lp30_0 f k0 n a b c ((flat (l.take i)).length : Int) nl fl l (l.length : Int) (i : Int) = k0 a b c ((flat l).length : Int)
  | 0, i, n + 1, h, hd => by
      obtain rfl : i = l.length := by omega
      simp only [lp30_0, lpS30_0]
      exact (bif_f (by simp)).trans (by rw [List.take_length])
  | d + 1, i, n + 1, h, hd => by
      have hle := flat_take_le l (i + 1)
      have hadd : (flat (l.take (i + 1))).length = (flat (l.take i)).length + (l.getD i .top).els.length := by rw [flat_take l i (by omega), List.length_append]
      have h1 : IntKind.i64.wrap ((i : Int) + 1) = ((i + 1 : Nat) : Int) := by rw [wrap_i64 (by omega) (by omega)]; omega
      have h2 : IntKind.i64.wrap (((flat (l.take i)).length : Int) + ((l.getD i .top).els.length : Int)) = ((flat (l.take (i + 1))).length : Int) := by rw [wrap_i64 (by omega) (by omega)]; omega
      simp only [lp30_0, lpS30_0, zi, Int.toNat_natCast, h1, h2]
      refine (bif_t (by simp <;> omega)).trans ?_
      refine (bif_t (by rw [isRo_getD hl (by omega)]; simp; omega)).trans ?_
      refine (bif_f (by simp <;> omega)).trans ?_
      exact l30_0 f k0 a b c nl fl l hl hs hn d (i + 1) n (by omega) (by omega)
theorem l30_1 (f : Nat) (k0 : Nat → Bool → List PV → Option Res) (nl fl : Bool) (l : List PV) (hl : l.all (PV.isRo 5) = true) (hs : (flat l).length ≤ 140737488355328) (hn : l.length ≤ 140737488355328) : ∀ (d i n : Nat) (z : Bool) (v : List PV), i + d = l.length → d < n → v.take (flat (l.take i)).length = flat (l.take i) → (d = 0 → v = flat l) →
    lp30_1 f k0 n (flat (l.take i)).length nl fl l (l.length : Int) (i : Int) z v = k0 (flat l).length (z && (flat (l.drop i)).isEmpty) (flat l)
  | 0, i, n + 1, z, v, h, hd, hv, h0 => by
      obtain rfl : i = l.length := by omega
      simp only [lp30_1, lpS30_1]
      refine (bif_f (by simp)).trans ?_
      rw [List.take_length, h0 rfl, List.drop_length]; simp
  | d + 1, i, n + 1, z, v, h, hd, hv, h0 => by
      have hle := flat_take_le l (i + 1)
      have hadd : (flat (l.take (i + 1))).length = (flat (l.take i)).length + (l.getD i .top).els.length := by rw [flat_take l i (by omega), List.length_append]
      have h1 : IntKind.i64.wrap ((i : Int) + 1) = ((i + 1 : Nat) : Int) := by rw [wrap_i64 (by omega) (by omega)]; omega
      simp only [lp30_1, lpS30_1, zi, Int.toNat_natCast, h1, hv]
      refine (bif_t (by simp <;> omega)).trans ?_
      refine (bif_t (by rw [isRo_getD hl (by omega)]; simp; omega)).trans ?_
      refine (bif_t (by simp only [roomy, Bool.and_true, decide_eq_true_eq]; omega)).trans ?_
      have := l30_1 f k0 nl fl l hl hs hn d (i + 1) n (z && (l.getD i .top).els.isEmpty) (flat (l.take (i + 1))) (by omega) (by omega) (List.take_length) (fun hd0 => by rw [show i + 1 = l.length from by omega, List.take_length])
      rw [hadd, flat_take l i (by omega)] at this
      rw [this, drop_getD l i (by omega), flat_cons, isEmpty_app, Bool.and_assoc]
def run30' : List PV → List Ent → (Res → Option Res) → Option Res
  | [.ro 22 nl fl l], [], k => bif l.all (PV.isRo 5) && (decide ((flat l).length ≤ 140737488355328) && decide (l.length ≤ 140737488355328)) then k ⟨.ow 5 16 [] 0 (flat l).length none, [], [.vec false 5 (flat l).isEmpty (flat l)]⟩ else none
  | _, _, _ => none
def s30' : Sig := { own := [], run := run30' }
theorem g30_eq (nl fl : Bool) (l : List PV) (k : Res → Option Res) (hl : l.all (PV.isRo 5) = true) (hs : (flat l).length ≤ 140737488355328) (hn : l.length ≤ 140737488355328) :
    g30 (l.length + 1) nl fl l k = k ⟨.ow 5 16 [] 0 (flat l).length none, [], [.vec false 5 (flat l).isEmpty (flat l)]⟩ := by
  have h0 := l30_0 (l.length + 1) (fun x0_0 x1_0 x2_0 x3_0 =>
    bif decide (x3_0 < 0) then
      none
    else bif decide (IntKind.i64.wrap (x3_0 - IntKind.i64.wrap (zi 0 - zi 0)) > 0) then
      bif decide (0 ≤ IntKind.i64.wrap (x3_0 - IntKind.i64.wrap (zi 0 - zi 0))) && roomy (IntKind.i64.wrap (x3_0 - IntKind.i64.wrap (zi 0 - zi 0))).toNat 1 && true then
        lp30_1 (l.length + 1) (fun x0_1 x1_1 x2_1 =>
          k (Res.mk (PV.ow 5 16 [] 0 x0_1 none) []
            [Ent.vec false 5 x1_1
                x2_1])) (l.length + 1) (0) x0_0 x1_0 x2_0 (zi
          x2_0.length) (0) (IntKind.i64.wrap (x3_0 - IntKind.i64.wrap (zi 0 - zi 0)) ==
          0) (List.replicate (IntKind.i64.wrap (x3_0 - IntKind.i64.wrap (zi 0 - zi 0))).toNat (PV.sc (Value.int IntKind.u8 0)))
      else none
    else lp30_1 (l.length + 1) (fun x0_2 x1_2 x2_2 =>
      k (Res.mk (PV.ow 5 16 [] 0 x0_2 none) [] [Ent.vec false 5 x1_2 x2_2])) (l.length + 1) (0) x0_0 x1_0 x2_0 (zi x2_0.length) (0) true ([])) nl fl l nl fl l hl hs hn l.length 0 (l.length + 1) (by omega) (by omega)
  refine h0.trans ?_
  have hw : IntKind.i64.wrap (((flat l).length : Int) - IntKind.i64.wrap (zi 0 - zi 0)) = ((flat l).length : Int) := by
    have : IntKind.i64.wrap (zi 0 - zi 0) = 0 := by decide
    rw [this, wrap_i64 (by omega) (by omega)]; omega
  simp only [hw]
  refine (bif_f (by simp <;> omega)).trans ?_
  cases he : (flat l).isEmpty with
  | true =>
    have he' : flat l = [] := by simpa using he
    refine (bif_f (by simp [he'])).trans ?_
    have := l30_1 (l.length + 1) (fun x0_2 x1_2 x2_2 => k (Res.mk (PV.ow 5 16 [] 0 x0_2 none) [] [Ent.vec false 5 x1_2 x2_2])) nl fl l hl hs hn l.length 0 (l.length + 1) true [] (by omega) (by omega) (by simp) (fun _ => he'.symm)
    refine this.trans ?_
    simp [he']
  | false =>
    have he' : flat l ≠ [] := by simpa using he
    have hpos : 0 < (flat l).length := List.length_pos_iff.2 he'
    have hl0 : l.length ≠ 0 := by
      intro h; rw [List.length_eq_zero_iff] at h; subst h; simp at he'
    refine (bif_t (by simp <;> omega)).trans ?_
    refine (bif_t (by simp [roomy] <;> omega)).trans ?_
    have := l30_1 (l.length + 1) (fun x0_2 x1_2 x2_2 => k (Res.mk (PV.ow 5 16 [] 0 x0_2 none) [] [Ent.vec false 5 x1_2 x2_2])) nl fl l hl hs hn l.length 0 (l.length + 1) (((flat l).length : Int) == 0) (List.replicate (((flat l).length : Int)).toNat (PV.sc (Value.int IntKind.u8 0))) (by omega) (by omega) (by simp) (fun h => absurd h hl0)
    refine this.trans ?_
    have hz : (((flat l).length : Int) == 0) = false := by simp [he']
    rw [hz]; rfl
theorem ok30' : CallOk tau Try.prog 30 s30' := fn_ok2 tabOk F30_ok mixed fo30 bo30 (fun n => an30 (r30_0 n) (r30_1 n)) [] 0 [] run30' (fun n => ia30 n) fun xs es k res hr => by
  unfold run30' at hr
  split at hr
  · rename_i nl fl l
    obtain ⟨hc, hr⟩ := of_bif hr
    simp only [Bool.and_eq_true, decide_eq_true_eq] at hc
    refine ⟨rfl, l.length + 1, 0, (e30 _ _ _ _ _).trans ?_⟩
    rw [g30_eq _ _ _ _ hc.1 hc.2.1 hc.2.2]; exact hr
  · cases hr
end Go.Proofs.Ytodldmomneecpaa.Rx

/- What comitia/sha.padded computes. Own work, printed by a program of the worker's own. -/
namespace Go.Proofs.Ytodldmomneecpaa.Rx
open Go
set_option linter.unusedVariables false
set_option maxRecDepth 100000
set_option maxHeartbeats 0
def N29 : Nat := 33
noncomputable def F29 : Fns := F0
theorem F29_ok : FnsOk tau Try.prog F29 := F0_ok
noncomputable def c29_1 : Code := subC (Try.f29.body.get!) [1, 0, 1, 1, 1, 1, 0, 1, 0, 0]
def nm29_1 : Nm := [(0, .any), (3, .any), (19, .any)]
def nx29_1 : Nm := [(0, .any)]
def x29_1 : An := (.seq .leaf (.seq (.cond .leaf .leaf) (.seq (.block none (.seq .leaf .leaf)) .leaf)))
noncomputable def c29_0 : Code := subC (Try.f29.body.get!) [1, 0]
def nm29_0 : Nm := [(0, .any), (3, .any)]
def nx29_0 : Nm := [(2, .any)]
def x29_0 (r1 : RunL) : An := (.seq .leaf (.seq .leaf (.seq .leaf (.seq (.seq .leaf (.cond (.seq .leaf .leaf) .leaf)) (.seq (.seq .leaf (.block none (.sum nm29_1 N29 r1))) (.seq .leaf .leaf))))))
def an29 (r0 : RunS) (r1 : RunL) : An := (.seq .leaf (.ssum nm29_0 N29 (x29_0 r1) r0))
def lpS29_1 (f : Nat) (rc : Nat → Int → Int → Bool → List PV → Option Res) (k0 : Nat → Bool → List PV → Option Res) (v0 : Nat) (v1 : Int) (v2 : Int) (v3 : Bool) (v4 : List PV) : Option Res :=
  bif decide (v2 < 8) then
    bif decide (0 ≤ IntKind.i64.wrap (56 - IntKind.i64.wrap (8 * v2))) && true then
      bif roomy (v0 + 1) 1 && true then
        rc (v0 +
          1) v1 (IntKind.i64.wrap
          (v2 + 1)) (v3 && false) (List.take v0 v4 ++ [PV.sc (Value.int IntKind.u8 (IntKind.u8.wrap (shrI IntKind.u64 v1 (IntKind.i64.wrap (56 - IntKind.i64.wrap (8 * v2))))))])
      else none
    else none
  else k0 v0 v3 v4
def lp29_1 (f : Nat) (k0 : Nat → Bool → List PV → Option Res) : Nat → Nat → Int → Int → Bool → List PV → Option Res
  | 0, _, _, _, _, _ => none
  | n + 1, v0, v1, v2, v3, v4 => lpS29_1 f (lp29_1 f k0 n) k0 v0 v1 v2 v3 v4
theorem lpR29_1 (f : Nat) (k : Kont) (n : Nat) (v0 : Nat) (v1 : Int) (v2 : Int) (v3 : Bool) (v4 : List
  PV) : evLoop tau 1 nm29_1 (fun s k => ev tau F29 1 0 c29_1 (x29_1 ) s k) (n + 1) (fillS nm29_1 N29 [PV.ow 5 545 [] 0 v0 none, PV.sc (Value.int IntKind.u64 v1),
  PV.sc
    (Value.int IntKind.i64
      v2)] [(0, Ent.dead),
  (545,
    Ent.vec false 5 v3
      v4)]) (kNorm tau 1 nx29_1 k) = lpS29_1 f (fun v0 v1 v2 v3 v4 => evLoop tau 1 nm29_1 (fun s k => ev tau F29 1 0 c29_1 (x29_1 ) s k) n (fillS nm29_1 N29 [PV.ow 5 545 [] 0 v0 none,
  PV.sc (Value.int IntKind.u64 v1),
  PV.sc
    (Value.int IntKind.i64
      v2)] [(0, Ent.dead),
  (545,
    Ent.vec false 5 v3
      v4)]) (kNorm tau 1 nx29_1 k)) (fun x0 x1 x2 => k (Ex.exit 0) (fillS nx29_1 N29 [PV.ow 5 545 [] 0 x0 none] [(0, Ent.dead), (545, Ent.vec false 5 x1 x2)])) v0 v1 v2 v3 v4 := by kernel_rfl
theorem lpE29_1 (f : Nat) (k : Kont) : ∀ (n : Nat) (v0 : Nat) (v1 : Int) (v2 : Int) (v3 : Bool) (v4 : List
  PV), evLoop tau 1 nm29_1 (fun s k => ev tau F29 1 0 c29_1 (x29_1 ) s k) n (fillS nm29_1 N29 [PV.ow 5 545 [] 0 v0 none, PV.sc (Value.int IntKind.u64 v1),
  PV.sc
    (Value.int IntKind.i64
      v2)] [(0, Ent.dead),
  (545,
    Ent.vec false 5 v3
      v4)]) (kNorm tau 1 nx29_1 k) = lp29_1 f (fun x0 x1 x2 => k (Ex.exit 0) (fillS nx29_1 N29 [PV.ow 5 545 [] 0 x0 none] [(0, Ent.dead), (545, Ent.vec false 5 x1 x2)])) n v0 v1 v2 v3 v4
  | 0, _, _, _, _, _ => rfl
  | n + 1, v0, v1, v2, v3, v4 => (lpR29_1 f k n v0 v1 v2 v3 v4).trans (congrArg (fun r => lpS29_1 f r (fun x0 x1 x2 => k (Ex.exit
  0) (fillS nx29_1 N29 [PV.ow 5 545 [] 0 x0 none] [(0, Ent.dead), (545, Ent.vec false 5 x1 x2)])) v0 v1 v2 v3 v4) (by funext v0 v1 v2 v3 v4; exact lpE29_1 f k n v0 v1 v2 v3 v4))
def r29_1 (f : Nat) : List PV → List (Nat × Ent) → Kont → Option Res
  | [PV.ow 5 545 [] 0 v0 none, PV.sc (Value.int IntKind.u64 v1),
  PV.sc
    (Value.int IntKind.i64
      v2)], [(0, Ent.dead),
  (545, Ent.vec false 5 v3 v4)], k => lp29_1 f (fun x0 x1 x2 => k (Ex.exit 0) (fillS nx29_1 N29 [PV.ow 5 545 [] 0 x0 none] [(0, Ent.dead), (545, Ent.vec false 5 x1 x2)])) f v0 v1 v2 v3 v4
  | _, _, _ => none
theorem it29_1 (f : Nat) : items c29_1 x29_1 = [] := by kernel_rfl
theorem i29_1 (f : Nat) : (Item.l c29_1 nm29_1 N29 (r29_1 f)).Ok tau Try.prog 1 := loop_item tabOk F29_ok mixed (x := x29_1) (nm2 := nx29_1) (anOk_items _ _ (by rw [it29_1 f]; intro q hq; cases hq)) fun vs hp k res hr => by
  unfold r29_1 at hr
  split at hr
  · exact ⟨f, 0, (lpE29_1 f _ f _ _ _ _ _ ).trans hr⟩
  · cases hr
def lpS29_0 (f : Nat) (rc : Nat → Int → Bool → List PV → Option Res) (k0 : Nat → Bool → List PV → Option Res) (v0 : Nat) (v1 : Int) (v2 : Bool) (v3 : List PV) : Option Res :=
  bif (zi v0).tmod 64 != 56 then
    bif roomy (v0 + 1) 1 && true then
      rc (v0 + 1) v1 (v2 && false) (List.take v0 v3 ++ [PV.sc (Value.int IntKind.u8 0)])
    else none
  else lp29_1 f (fun x0_0 x1_0 x2_0 =>
    k0 x0_0 x1_0 x2_0) f v0 v1 (0) v2 v3
def lp29_0 (f : Nat) (k0 : Nat → Bool → List PV → Option Res) : Nat → Nat → Int → Bool → List PV → Option Res
  | 0, _, _, _, _ => none
  | n + 1, v0, v1, v2, v3 => lpS29_0 f (lp29_0 f k0 n) k0 v0 v1 v2 v3
theorem lpR29_0 (f : Nat) (k : Kont) (n : Nat) (v0 : Nat) (v1 : Int) (v2 : Bool) (v3 : List
  PV) : evScope tau 1 nm29_0 (hasLabel c29_0) (fun l s k => evFrom tau F29 1 0 c29_0 (x29_0 (r29_1 f)) l s k) (n + 1) 0 (fillS nm29_0 N29 [PV.ow 5 545 [] 0 v0 none,
  PV.sc
    (Value.int IntKind.u64
      v1)] [(0, Ent.dead),
  (545,
    Ent.vec false 5 v2
      v3)]) (kNorm tau 1 nx29_0 k) = lpS29_0 f (fun v0 v1 v2 v3 => evScope tau 1 nm29_0 (hasLabel c29_0) (fun l s k => evFrom tau F29 1 0 c29_0 (x29_0 (r29_1 f)) l s k) n 0 (fillS nm29_0 N29 [PV.ow 5 545
    [] 0 v0 none,
  PV.sc
    (Value.int IntKind.u64
      v1)] [(0, Ent.dead),
  (545,
    Ent.vec false 5 v2 v3)]) (kNorm tau 1 nx29_0 k)) (fun x0 x1 x2 => k Ex.ret (fillS nx29_0 N29 [PV.ow 5 545 [] 0 x0 none] [(0, Ent.dead), (545, Ent.vec false 5 x1 x2)])) v0 v1 v2 v3 := by kernel_rfl
theorem lpE29_0 (f : Nat) (k : Kont) : ∀ (n : Nat) (v0 : Nat) (v1 : Int) (v2 : Bool) (v3 : List
  PV), evScope tau 1 nm29_0 (hasLabel c29_0) (fun l s k => evFrom tau F29 1 0 c29_0 (x29_0 (r29_1 f)) l s k) n 0 (fillS nm29_0 N29 [PV.ow 5 545 [] 0 v0 none,
  PV.sc
    (Value.int IntKind.u64
      v1)] [(0, Ent.dead),
  (545, Ent.vec false 5 v2 v3)]) (kNorm tau 1 nx29_0 k) = lp29_0 f (fun x0 x1 x2 => k Ex.ret (fillS nx29_0 N29 [PV.ow 5 545 [] 0 x0 none] [(0, Ent.dead), (545, Ent.vec false 5 x1 x2)])) n v0 v1 v2 v3
  | 0, _, _, _, _ => rfl
  | n + 1, v0, v1, v2, v3 => (lpR29_0 f k n v0 v1 v2 v3).trans (congrArg (fun r => lpS29_0 f r (fun x0 x1 x2 => k Ex.ret (fillS nx29_0 N29 [PV.ow 5 545 [] 0 x0
    none] [(0, Ent.dead), (545, Ent.vec false 5 x1 x2)])) v0 v1 v2 v3) (by funext v0 v1 v2 v3; exact lpE29_0 f k n v0 v1 v2 v3))
def r29_0 (f : Nat) : Nat → List PV → List (Nat × Ent) → Kont → Option Res
  | 0, [PV.ow 5 545 [] 0 v0 none,
  PV.sc
    (Value.int IntKind.u64
      v1)], [(0, Ent.dead),
  (545, Ent.vec false 5 v2 v3)], k => lp29_0 f (fun x0 x1 x2 => k Ex.ret (fillS nx29_0 N29 [PV.ow 5 545 [] 0 x0 none] [(0, Ent.dead), (545, Ent.vec false 5 x1 x2)])) f v0 v1 v2 v3
  | _, _, _, _ => none
theorem it29_0 (f : Nat) : items c29_0 (x29_0 (r29_1 f)) = [.l c29_1 nm29_1 N29 (r29_1 f)] := by kernel_rfl
theorem i29_0 (f : Nat) : (Item.s c29_0 nm29_0 N29 (r29_0 f)).Ok tau Try.prog 1 := scope_item tabOk F29_ok mixed (x := (x29_0 (r29_1 f))) (nm2 := nx29_0) (anOk_items _ _ (by rw [it29_0 f]; simp only [List.forall_mem_cons, List.not_mem_nil, false_implies, implies_true, and_true]; exact i29_1 f)) fun l vs hp k res hr => by
  unfold r29_0 at hr
  split at hr
  · exact ⟨f, 0, (lpE29_0 f _ f _ _ _ _ ).trans hr⟩
  · cases hr
def g29 (f : Nat) (nl : Bool) (l : List PV) (n : Nat) (k : Res → Option Res) : Option Res :=
  bif roomy (n + 1) 1 && true then
    bif (zi (n + 1)).tmod 64 != 56 then
      bif roomy (n + 1 + 1) 1 && true then
        lp29_0 f (fun x0_1 x1_1 x2_1 =>
          k (Res.mk (PV.ow 5 16 [] 0 x0_1 none) [Ent.dead]
            [Ent.vec false 5 x1_1
                x2_1])) f (n + 1 +
          1) (IntKind.u64.wrap (IntKind.u64.wrap (zi n) * 8)) (nl && false && false) (List.take (n + 1) (List.take n l ++ [PV.sc (Value.int IntKind.u8 128)]) ++ [PV.sc (Value.int IntKind.u8 0)])
      else none
    else lp29_1 f (fun x0_2 x1_2 x2_2 =>
      k (Res.mk (PV.ow 5 16 [] 0 x0_2 none) [Ent.dead]
        [Ent.vec false 5 x1_2 x2_2])) f (n + 1) (IntKind.u64.wrap (IntKind.u64.wrap (zi n) * 8)) (0) (nl && false) (List.take n l ++ [PV.sc (Value.int IntKind.u8 128)])
  else none
theorem e29 (f : Nat) (nl : Bool) (l : List PV) (n : Nat) (k : Res → Option Res) : evFn tau F29 Try.f29 (Try.f29.body.get!) (an29 (r29_0 f) (r29_1 f)) [] 0 [.ow 5 0 [] 0 n none] [.vec false 5 nl l] k = g29 f nl l n k := by kernel_rfl
theorem it29 (f : Nat) : items (Try.f29.body.get!) (an29 (r29_0 f) (r29_1 f)) = [.s c29_0 nm29_0 N29 (r29_0 f), .l c29_1 nm29_1 N29 (r29_1 f)] := by kernel_rfl
theorem ia29 (f : Nat) : ∀ q ∈ items (Try.f29.body.get!) (an29 (r29_0 f) (r29_1 f)), q.Ok tau Try.prog 1 := by
  rw [it29 f]; simp only [List.forall_mem_cons, List.not_mem_nil, false_implies, implies_true, and_true]; exact ⟨i29_0 f, i29_1 f⟩
theorem fo29 : Try.prog.funcs[29]? = some Try.f29 := by kernel_rfl
theorem bo29 : Try.f29.body = some (Try.f29.body.get!) := by kernel_rfl
theorem en29 : Enters Try.prog 29 := enters_of fo29 (by kernel_rfl) bo29
end Go.Proofs.Ytodldmomneecpaa.Rx

-- FN sha.padded
/- Bytes with what a sum lays behind them. Own work. -/
namespace Go.Proofs.Ytodldmomneecpaa.Rx
open Go
set_option linter.unusedVariables false
set_option maxRecDepth 100000
set_option maxHeartbeats 1000000
def lenG (n : Int) (i : Nat) : Int := IntKind.u8.wrap (shrI .u64 n (56 - 8 * (i : Int)))
theorem l29_1 (f : Nat) (N : Int) (k0 : Nat → Bool → List PV → Option Res) (L : List Int) (hL : L.length ≤ 140737488355300) : ∀ (d i n : Nat) (z : Bool), i + d = 8 → d < n → (d = 0 → z = false) →
    lp29_1 f k0 n (L.length + i) N (i : Int) z (pu .u8 (L ++ (List.range i).map (lenG N))) = k0 (L.length + 8) false (pu .u8 (L ++ (List.range 8).map (lenG N)))
  | 0, i, n + 1, z, h, hn, hz => by
      obtain rfl : i = 8 := by omega
      simp only [lp29_1, lpS29_1]
      rw [hz rfl]
      exact bif_f (by decide)
  | d + 1, i, n + 1, z, h, hn, hz => by
      have h1 : IntKind.i64.wrap ((i : Int) + 1) = ((i + 1 : Nat) : Int) := by rw [wrap_i64 (by omega) (by omega)]; omega
      have h8 : IntKind.i64.wrap (8 * (i : Int)) = 8 * (i : Int) := wrap_i64 (by omega) (by omega)
      have h9 : IntKind.i64.wrap (56 - 8 * (i : Int)) = 56 - 8 * (i : Int) := wrap_i64 (by omega) (by omega)
      have c1 : decide ((i : Int) < 8) = true := by simp; omega
      have c2 : decide (0 ≤ 56 - 8 * (i : Int)) = true := by simp; omega
      have c3 : roomy (L.length + i + 1) 1 = true := by simp [roomy]; omega
      have hlen : (L ++ (List.range i).map (lenG N)).length = L.length + i := by simp
      simp only [lp29_1, lpS29_1, h1, h8, h9, c1, c2, c3, Bool.and_true, cond_true, pu_take, Bool.and_false]
      rw [List.take_of_length_le (by omega)]
      have := l29_1 f N k0 L hL d (i + 1) n false (by omega) (by omega) (fun _ => rfl)
      rw [List.range_succ, List.map_append, ← List.append_assoc, pu_append] at this
      exact this
/-- noughts, until a piece is left with room for the length alone -/
theorem l29_0 (f : Nat) (N : Int) (k0 : Nat → Bool → List PV → Option Res) (hf : 9 ≤ f) : ∀ (d n : Nat) (L : List Int) (z : Bool), zs L.length = d → d < n → L.length + d ≤ 140737488355200 →
    lp29_0 f k0 n L.length N z (pu .u8 L) = lp29_1 f k0 f (L.length + d) N 0 (z && decide (d = 0)) (pu .u8 (L ++ List.replicate d 0))
  | 0, n + 1, L, z, hd, hn, hL => by
      simp only [lp29_0, lpS29_0, tmod64]
      refine (bif_f (by simp [zs] at hd ⊢; omega)).trans ?_
      simp
  | d + 1, n + 1, L, z, hd, hn, hL => by
      have hlt : d + 1 < 64 := by rw [← hd]; unfold zs; omega
      have c3 : roomy (L.length + 1) 1 = true := by simp [roomy]; omega
      simp only [lp29_0, lpS29_0, tmod64, c3, Bool.and_true, cond_true, pu_take, Bool.and_false]
      refine (bif_t (by simp [zs] at hd ⊢; omega)).trans ?_
      rw [List.take_of_length_le (Nat.le_refl _)]
      have := l29_0 f N k0 hf d n (L ++ [0]) false (by simp [zs] at hd ⊢; omega) (by omega) (by simp; omega)
      simp only [List.length_append, List.length_cons, List.length_nil, Nat.zero_add, pu_append] at this
      refine this.trans ?_
      rw [show L.length + 1 + d = L.length + (d + 1) from by omega, List.replicate_succ]
      simp
theorem g29_eq (nl : Bool) (bs : List Int) (hb : bs.length ≤ 140737488355000) (k : Res → Option Res) : g29 100 nl (pu .u8 bs) bs.length k = k ⟨.ow 5 16 [] 0 (padP bs).length none, [.dead], [.vec false 5 false (pu .u8 (padP bs))]⟩ := by
  have c1 : (roomy (bs.length + 1) 1 && true) = true := by simp [roomy]; omega
  have c2 : (roomy (bs.length + 1 + 1) 1 && true) = true := by simp [roomy]; omega
  have hlen : (padP bs).length = bs.length + 1 + zs (bs.length + 1) + 8 := by simp [padP, lenB]; omega
  have hz : zs (bs.length + 1) < 64 := by unfold zs; omega
  refine (bif_t c1).trans ?_
  rw [tmod64, pu_take, List.take_of_length_le (Nat.le_refl _)]
  have fin : ∀ z, lp29_1 100 (fun x0_2 x1_2 x2_2 => k (Res.mk (PV.ow 5 16 [] 0 x0_2 none) [Ent.dead] [Ent.vec false 5 x1_2 x2_2])) 100 (bs.length + 1 + zs (bs.length + 1)) (IntKind.u64.wrap (IntKind.u64.wrap (zi bs.length) * 8)) 0 z (pu .u8 (bs ++ [128] ++ List.replicate (zs (bs.length + 1)) 0)) = k ⟨.ow 5 16 [] 0 (padP bs).length none, [.dead], [.vec false 5 false (pu .u8 (padP bs))]⟩ := by
    intro z
    have := l29_1 100 (IntKind.u64.wrap (IntKind.u64.wrap (zi bs.length) * 8)) (fun x0_2 x1_2 x2_2 => k (Res.mk (PV.ow 5 16 [] 0 x0_2 none) [Ent.dead] [Ent.vec false 5 x1_2 x2_2])) (bs ++ [128] ++ List.replicate (zs (bs.length + 1)) 0) (by simp; omega) 8 0 100 z (by omega) (by omega) (by omega)
    have hl2 : (bs ++ [128] ++ List.replicate (zs (bs.length + 1)) 0).length = bs.length + 1 + zs (bs.length + 1) := by simp; omega
    rw [hl2] at this
    simp only [List.range_zero, List.map_nil, List.append_nil, Nat.add_zero] at this
    rw [hlen]
    exact this
  cases hc : (((((bs.length + 1) % 64 : Nat) : Int)) != 56) with
  | true =>
    refine (bif_t rfl).trans ((bif_t c2).trans ?_)
    have hc' : ((bs.length + 1) % 64 : Nat) ≠ 56 := by simp at hc; omega
    have hz1 : zs (bs.length + 1 + 1) + 1 = zs (bs.length + 1) := by unfold zs; omega
    have := l29_0 100 (IntKind.u64.wrap (IntKind.u64.wrap (zi bs.length) * 8)) (fun x0_1 x1_1 x2_1 => k (Res.mk (PV.ow 5 16 [] 0 x0_1 none) [Ent.dead] [Ent.vec false 5 x1_1 x2_1])) (by omega) (zs (bs.length + 1 + 1)) 100 (bs ++ [128] ++ [0]) (nl && false && false) (by simp) (by unfold zs; omega) (by simp; omega)
    have h0 : pu .u8 (bs ++ [128] ++ [0]) = List.take (bs.length + 1) (pu .u8 bs ++ [PV.sc (Value.int IntKind.u8 128)]) ++ [PV.sc (Value.int IntKind.u8 0)] := by
      rw [List.take_of_length_le (by simp)]; simp
    rw [h0] at this
    simp only [List.length_append, List.length_cons, List.length_nil, Nat.zero_add] at this
    refine this.trans ?_
    have h3 : bs ++ [128] ++ [0] ++ List.replicate (zs (bs.length + 1 + 1)) 0 = bs ++ [128] ++ List.replicate (zs (bs.length + 1)) 0 := by
      rw [← hz1, List.replicate_succ]; simp
    rw [h3, show bs.length + 1 + 1 + zs (bs.length + 1 + 1) = bs.length + 1 + zs (bs.length + 1) from by omega]
    exact fin _
  | false =>
    refine (bif_f rfl).trans ?_
    have hc' : ((bs.length + 1) % 64 : Nat) = 56 := by simp at hc; omega
    have hz0 : zs (bs.length + 1) = 0 := by unfold zs; omega
    have := fin (nl && false)
    rw [hz0] at this
    simpa using this
def run29' : List PV → List Ent → (Res → Option Res) → Option Res
  | [.ow 5 0 [] 0 n none], [.vec false 5 nl l], k => bif allInt .u8 l && (decide (n = l.length) && decide (l.length ≤ 140737488355000)) then k ⟨.ow 5 16 [] 0 (padP (ints l)).length none, [.dead], [.vec false 5 false (pu .u8 (padP (ints l)))]⟩ else none
  | _, _, _ => none
def s29' : Sig := { own := [true], run := run29' }
theorem ok29' : CallOk tau Try.prog 29 s29' := fn_ok tabOk F29_ok mixed fo29 bo29 _ [] 1 [true] run29' (ia29 100) fun xs es k res hr => by
  unfold run29' at hr
  split at hr
  · obtain ⟨hc, hr⟩ := of_bif hr
    simp only [Bool.and_eq_true, decide_eq_true_eq] at hc
    refine ⟨rfl, 0, (e29 100 _ _ _ _).trans ?_⟩
    rw [hc.2.1, pu_ints hc.1, pu_length, g29_eq _ _ (by simpa using hc.2.2)]
    exact hr
  · cases hr
end Go.Proofs.Ytodldmomneecpaa.Rx

/- What comitia/sha.begun computes. Own work, printed by a program of the worker's own. -/
namespace Go.Proofs.Ytodldmomneecpaa.Rx
open Go
set_option linter.unusedVariables false
set_option maxRecDepth 100000
set_option maxHeartbeats 0
def N28 : Nat := 2
noncomputable def F28 : Fns := F0
theorem F28_ok : FnsOk tau Try.prog F28 := F0_ok
def an28 : An := (.seq .leaf (.seq .leaf .leaf))
def g28 (f : Nat)  (k : Res → Option Res) : Option Res :=
  k (Res.mk
    (PV.ar 57
      [PV.sc (Value.int IntKind.u32 1779033703), PV.sc (Value.int IntKind.u32 3144134277), PV.sc (Value.int IntKind.u32 1013904242), PV.sc (Value.int IntKind.u32 2773480762),
        PV.sc (Value.int IntKind.u32 1359893119), PV.sc (Value.int IntKind.u32 2600822924), PV.sc (Value.int IntKind.u32 528734635), PV.sc (Value.int IntKind.u32 1541459225)])
    [] [])
theorem e28 (f : Nat)  (k : Res → Option Res) : evFn tau F28 Try.f28 (Try.f28.body.get!) an28 [.ro] 0 [] [] k = g28 f  k := by kernel_rfl
theorem it28 (f : Nat) : items (Try.f28.body.get!) an28 = [] := by kernel_rfl
theorem ia28 (f : Nat) : ∀ q ∈ items (Try.f28.body.get!) an28, q.Ok tau Try.prog 0 := by
  rw [it28 f]; intro q hq; cases hq
theorem fo28 : Try.prog.funcs[28]? = some Try.f28 := by kernel_rfl
theorem bo28 : Try.f28.body = some (Try.f28.body.get!) := by kernel_rfl
theorem en28 : Enters Try.prog 28 := enters_of fo28 (by kernel_rfl) bo28
def run28 : List PV → List Ent → (Res → Option Res) → Option Res
  | [], [], k => g28 0  k
  | _, _, _ => none
def s28 : Sig := { own := [], run := run28 }
theorem ok28 : CallOk tau Try.prog 28 s28 := fn_ok tabOk F28_ok mixed fo28 bo28 an28 [.ro] 0 [] run28 (ia28 0) fun xs es k res hr => by
  unfold run28 at hr
  split at hr
  · exact ⟨rfl, 0, (e28 0  _).trans hr⟩
  · cases hr
end Go.Proofs.Ytodldmomneecpaa.Rx

/- What comitia/sha.Sum computes. Own work, printed by a program of the worker's own. -/
namespace Go.Proofs.Ytodldmomneecpaa.Rx
open Go
set_option linter.unusedVariables false
set_option maxRecDepth 100000
set_option maxHeartbeats 0
def N20 : Nat := 37
noncomputable def F20 : Fns := addF 28 s28 (addF 29 s29' (addF 30 s30' (addF 31 s31' F0)))
theorem F20_ok : FnsOk tau Try.prog F20 := (((F0_ok.add ok31' en31).add ok30' en30).add ok29' en29).add ok28 en28
noncomputable def c20_0 : Code := subC (Try.f20.body.get!) [1, 1, 0, 1, 0, 0]
def nm20_0 : Nm := [(2, .any), (3, .any), (4, .ro)]
def nx20_0 : Nm := [(2, .any), (3, .any)]
def x20_0 : An := (.seq (.seq .leaf (.cond .leaf .leaf)) (.seq (.block none .leaf) .leaf))
noncomputable def c20_1 : Code := subC (Try.f20.body.get!) [1, 1, 1, 1, 0, 1, 0, 0]
def nm20_1 : Nm := [(2, .any), (3, .any), (5, .any), (20, .any)]
def nx20_1 : Nm := [(2, .any), (5, .any)]
def x20_1 : An := (.seq .leaf (.seq (.cond .leaf .leaf) (.seq (.block none (.seq .leaf .leaf)) .leaf)))
def an20 (r0 : RunL) (r1 : RunL) : An := (.seq .leaf (.seq .leaf (.seq (.seq .leaf (.block none (.sum nm20_0 N20 r0))) (.seq .leaf (.seq (.seq .leaf (.block none (.sum nm20_1 N20 r1))) (.seq .leaf .leaf))))))
def lpS20_0 (f : Nat) (rc : List PV → List PV → List PV → Option Res) (k0 : List PV → List PV → Option Res) (v0 : List PV) (v1 : List PV) (v2 : List PV) : Option Res :=
  bif decide (zi v0.length > 0) then
    bif decide (64 ≤ v0.length) && true then
      bif allInt IntKind.u32 v2 && decide (v2.length = 8) && (allInt IntKind.u8 (List.take 64 v0) && decide ((List.take 64 v0).length = 64)) then
        bif decide (64 ≤ v0.length) && decide (v0.length ≤ v0.length) && true then
          rc (List.drop 64 (List.take v0.length v0)) v1 (pu IntKind.u32 (addP (ints v2) (ints (List.take 64 v0))))
        else none
      else none
    else none
  else k0 v1 v2
def lp20_0 (f : Nat) (k0 : List PV → List PV → Option Res) : Nat → List PV → List PV → List PV → Option Res
  | 0, _, _, _ => none
  | n + 1, v0, v1, v2 => lpS20_0 f (lp20_0 f k0 n) k0 v0 v1 v2
theorem lpR20_0 (f : Nat) (k : Kont) (n : Nat) (v0 : List
  PV) (v1 : List
  PV) (v2 : List
  PV) : evLoop tau 0 nm20_0 (fun s k => ev tau F20 0 0 c20_0 (x20_0 ) s k) (n + 1) (fillS nm20_0 N20 [PV.ptr 608 [], PV.ptr 609 [],
  PV.ro 5 false false
    v0] [(608, Ent.box false 26 (PV.ar 26 v1)),
  (609,
    Ent.box false 57
      (PV.ar 57
        v2))]) (kNorm tau 0 nx20_0 k) = lpS20_0 f (fun v0 v1 v2 => evLoop tau 0 nm20_0 (fun s k => ev tau F20 0 0 c20_0 (x20_0 ) s k) n (fillS nm20_0 N20 [PV.ptr 608 [], PV.ptr 609 [],
  PV.ro 5 false false
    v0] [(608, Ent.box false 26 (PV.ar 26 v1)),
  (609,
    Ent.box false 57
      (PV.ar 57
        v2))]) (kNorm tau 0 nx20_0 k)) (fun x0 x1 => k (Ex.exit
  0) (fillS nx20_0 N20 [PV.ptr 608 [], PV.ptr 609 []] [(608, Ent.box false 26 (PV.ar 26 x0)), (609, Ent.box false 57 (PV.ar 57 x1))])) v0 v1 v2 := by kernel_rfl
theorem lpE20_0 (f : Nat) (k : Kont) : ∀ (n : Nat) (v0 : List
  PV) (v1 : List
  PV) (v2 : List
  PV), evLoop tau 0 nm20_0 (fun s k => ev tau F20 0 0 c20_0 (x20_0 ) s k) n (fillS nm20_0 N20 [PV.ptr 608 [], PV.ptr 609 [],
  PV.ro 5 false false
    v0] [(608, Ent.box false 26 (PV.ar 26 v1)),
  (609,
    Ent.box false 57
      (PV.ar 57
        v2))]) (kNorm tau 0 nx20_0 k) = lp20_0 f (fun x0 x1 => k (Ex.exit
  0) (fillS nx20_0 N20 [PV.ptr 608 [], PV.ptr 609 []] [(608, Ent.box false 26 (PV.ar 26 x0)), (609, Ent.box false 57 (PV.ar 57 x1))])) n v0 v1 v2
  | 0, _, _, _ => rfl
  | n + 1, v0, v1, v2 => (lpR20_0 f k n v0 v1 v2).trans (congrArg (fun r => lpS20_0 f r (fun x0 x1 => k (Ex.exit
  0) (fillS nx20_0 N20 [PV.ptr 608 [], PV.ptr 609 []] [(608, Ent.box false 26 (PV.ar 26 x0)), (609, Ent.box false 57 (PV.ar 57 x1))])) v0 v1 v2) (by funext v0 v1 v2; exact lpE20_0 f k n v0 v1 v2))
def r20_0 (f : Nat) : List PV → List (Nat × Ent) → Kont → Option Res
  | [PV.ptr 608 [], PV.ptr 609 [],
  PV.ro 5 false false
    v0], [(608, Ent.box false 26 (PV.ar 26 v1)),
  (609,
    Ent.box false 57
      (PV.ar 57
        v2))], k => lp20_0 f (fun x0 x1 => k (Ex.exit 0) (fillS nx20_0 N20 [PV.ptr 608 [], PV.ptr 609 []] [(608, Ent.box false 26 (PV.ar 26 x0)), (609, Ent.box false 57 (PV.ar 57 x1))])) f v0 v1 v2
  | _, _, _ => none
theorem it20_0 (f : Nat) : items c20_0 x20_0 = [] := by kernel_rfl
theorem i20_0 (f : Nat) : (Item.l c20_0 nm20_0 N20 (r20_0 f)).Ok tau Try.prog 0 := loop_item tabOk F20_ok mixed (x := x20_0) (nm2 := nx20_0) (anOk_items _ _ (by rw [it20_0 f]; intro q hq; cases hq)) fun vs hp k res hr => by
  unfold r20_0 at hr
  split at hr
  · exact ⟨f, 0, (lpE20_0 f _ f _ _ _ ).trans hr⟩
  · cases hr
def lpS20_1 (f : Nat) (rc : Int → List PV → List PV → List PV → Option Res) (k0 : List PV → List PV → Option Res) (v0 : Int) (v1 : List PV) (v2 : List PV) (v3 : List PV) : Option Res :=
  bif decide (v0 < 32) then
    bif decide (0 ≤ IntKind.i64.wrap (v0.tdiv 4)) && decide (IntKind.i64.wrap (v0.tdiv 4) < zi 8) && true then
      bif PV.isInt IntKind.u32 (getP (PV.ar 57 v2) [(IntKind.i64.wrap (v0.tdiv 4)).toNat]) && true then
        bif decide (0 ≤ IntKind.i64.wrap (24 - IntKind.i64.wrap (8 * v0.tmod 4))) && true then
          bif decide (0 ≤ v0) && decide (v0 < zi 32) && true then
            rc (IntKind.i64.wrap
              (v0 +
                1)) v1 v2 (v3.set v0.toNat
              (PV.sc
                (Value.int IntKind.u8 (IntKind.u8.wrap (shrI IntKind.u32 (getP (PV.ar 57 v2) [(IntKind.i64.wrap (v0.tdiv 4)).toNat]).int (IntKind.i64.wrap (24 - IntKind.i64.wrap (8 * v0.tmod 4))))))))
          else none
        else none
      else none
    else none
  else k0 v1 v3
def lp20_1 (f : Nat) (k0 : List PV → List PV → Option Res) : Nat → Int → List PV → List PV → List PV → Option Res
  | 0, _, _, _, _ => none
  | n + 1, v0, v1, v2, v3 => lpS20_1 f (lp20_1 f k0 n) k0 v0 v1 v2 v3
theorem lpR20_1 (f : Nat) (k : Kont) (n : Nat) (v0 : Int) (v1 : List
  PV) (v2 : List
  PV) (v3 : List
  PV) : evLoop tau 0 nm20_1 (fun s k => ev tau F20 0 0 c20_1 (x20_1 ) s k) (n + 1) (fillS nm20_1 N20 [PV.ptr 608 [], PV.ptr 609 [], PV.ptr 610 [],
  PV.sc
    (Value.int IntKind.i64
      v0)] [(608, Ent.box false 26 (PV.ar 26 v1)), (609, Ent.box false 57 (PV.ar 57 v2)),
  (610,
    Ent.box false 26
      (PV.ar 26
        v3))]) (kNorm tau 0 nx20_1 k) = lpS20_1 f (fun v0 v1 v2 v3 => evLoop tau 0 nm20_1 (fun s k => ev tau F20 0 0 c20_1 (x20_1 ) s k) n (fillS nm20_1 N20 [PV.ptr 608 [], PV.ptr 609 [],
  PV.ptr 610 [],
  PV.sc
    (Value.int IntKind.i64
      v0)] [(608, Ent.box false 26 (PV.ar 26 v1)), (609, Ent.box false 57 (PV.ar 57 v2)),
  (610,
    Ent.box false 26
      (PV.ar 26
        v3))]) (kNorm tau 0 nx20_1 k)) (fun x0 x1 => k (Ex.exit
  2) (fillS nx20_1 N20 [PV.ptr 608 [], PV.ptr 609 []] [(608, Ent.box false 26 (PV.ar 26 x0)), (609, Ent.box false 26 (PV.ar 26 x1))])) v0 v1 v2 v3 := by kernel_rfl
theorem lpE20_1 (f : Nat) (k : Kont) : ∀ (n : Nat) (v0 : Int) (v1 : List
  PV) (v2 : List
  PV) (v3 : List
  PV), evLoop tau 0 nm20_1 (fun s k => ev tau F20 0 0 c20_1 (x20_1 ) s k) n (fillS nm20_1 N20 [PV.ptr 608 [], PV.ptr 609 [], PV.ptr 610 [],
  PV.sc
    (Value.int IntKind.i64
      v0)] [(608, Ent.box false 26 (PV.ar 26 v1)), (609, Ent.box false 57 (PV.ar 57 v2)),
  (610,
    Ent.box false 26
      (PV.ar 26
        v3))]) (kNorm tau 0 nx20_1 k) = lp20_1 f (fun x0 x1 => k (Ex.exit
  2) (fillS nx20_1 N20 [PV.ptr 608 [], PV.ptr 609 []] [(608, Ent.box false 26 (PV.ar 26 x0)), (609, Ent.box false 26 (PV.ar 26 x1))])) n v0 v1 v2 v3
  | 0, _, _, _, _ => rfl
  | n + 1, v0, v1, v2, v3 => (lpR20_1 f k n v0 v1 v2 v3).trans (congrArg (fun r => lpS20_1 f r (fun x0 x1 => k (Ex.exit
  2) (fillS nx20_1 N20 [PV.ptr 608 [],
  PV.ptr 609 []] [(608, Ent.box false 26 (PV.ar 26 x0)), (609, Ent.box false 26 (PV.ar 26 x1))])) v0 v1 v2 v3) (by funext v0 v1 v2 v3; exact lpE20_1 f k n v0 v1 v2 v3))
def r20_1 (f : Nat) : List PV → List (Nat × Ent) → Kont → Option Res
  | [PV.ptr 608 [], PV.ptr 609 [], PV.ptr 610 [],
  PV.sc
    (Value.int IntKind.i64
      v0)], [(608, Ent.box false 26 (PV.ar 26 v1)), (609, Ent.box false 57 (PV.ar 57 v2)),
  (610,
    Ent.box false 26
      (PV.ar 26
        v3))], k => lp20_1 f (fun x0 x1 => k (Ex.exit 2) (fillS nx20_1 N20 [PV.ptr 608 [], PV.ptr 609 []] [(608, Ent.box false 26 (PV.ar 26 x0)), (609, Ent.box false 26 (PV.ar 26 x1))])) f v0 v1 v2 v3
  | _, _, _ => none
theorem it20_1 (f : Nat) : items c20_1 x20_1 = [] := by kernel_rfl
theorem i20_1 (f : Nat) : (Item.l c20_1 nm20_1 N20 (r20_1 f)).Ok tau Try.prog 0 := loop_item tabOk F20_ok mixed (x := x20_1) (nm2 := nx20_1) (anOk_items _ _ (by rw [it20_1 f]; intro q hq; cases hq)) fun vs hp k res hr => by
  unfold r20_1 at hr
  split at hr
  · exact ⟨f, 0, (lpE20_1 f _ f _ _ _ _ ).trans hr⟩
  · cases hr
def g20 (f : Nat) (nl : Bool) (fl : Bool) (l : List PV) (k : Res → Option Res) : Option Res :=
  bif l.all (PV.isRo 5) && (decide ((flat l).length ≤ 140737488355328) && decide (l.length ≤ 140737488355328)) then
    bif allInt IntKind.u8 (flat l) && (decide ((flat l).length = (flat l).length) && decide ((flat l).length ≤ 140737488355000)) then
      lp20_0 f (fun x0_0 x1_0 =>
        lp20_1 f (fun x0_1 x1_1 =>
          k (Res.mk (PV.ar 26 x1_1) []
            [])) f (0) x0_0 x1_0 ([PV.sc (Value.int IntKind.u8 0), PV.sc (Value.int IntKind.u8 0), PV.sc (Value.int IntKind.u8 0), PV.sc (Value.int IntKind.u8 0), PV.sc (Value.int IntKind.u8 0),
          PV.sc (Value.int IntKind.u8 0), PV.sc (Value.int IntKind.u8 0), PV.sc (Value.int IntKind.u8 0), PV.sc (Value.int IntKind.u8 0), PV.sc (Value.int IntKind.u8 0),
          PV.sc (Value.int IntKind.u8 0), PV.sc (Value.int IntKind.u8 0), PV.sc (Value.int IntKind.u8 0), PV.sc (Value.int IntKind.u8 0), PV.sc (Value.int IntKind.u8 0),
          PV.sc (Value.int IntKind.u8 0), PV.sc (Value.int IntKind.u8 0), PV.sc (Value.int IntKind.u8 0), PV.sc (Value.int IntKind.u8 0), PV.sc (Value.int IntKind.u8 0),
          PV.sc (Value.int IntKind.u8 0), PV.sc (Value.int IntKind.u8 0), PV.sc (Value.int IntKind.u8 0), PV.sc (Value.int IntKind.u8 0), PV.sc (Value.int IntKind.u8 0),
          PV.sc (Value.int IntKind.u8 0), PV.sc (Value.int IntKind.u8 0), PV.sc (Value.int IntKind.u8 0), PV.sc (Value.int IntKind.u8 0), PV.sc (Value.int IntKind.u8 0),
          PV.sc (Value.int IntKind.u8 0),
          PV.sc
            (Value.int IntKind.u8
              0)])) f (List.take (padP (ints (flat l))).length
        (pu IntKind.u8
          (padP
            (ints
              (flat
                l))))) ([PV.sc (Value.int IntKind.u8 0), PV.sc (Value.int IntKind.u8 0), PV.sc (Value.int IntKind.u8 0), PV.sc (Value.int IntKind.u8 0), PV.sc (Value.int IntKind.u8 0),
        PV.sc (Value.int IntKind.u8 0), PV.sc (Value.int IntKind.u8 0), PV.sc (Value.int IntKind.u8 0), PV.sc (Value.int IntKind.u8 0), PV.sc (Value.int IntKind.u8 0), PV.sc (Value.int IntKind.u8 0),
        PV.sc (Value.int IntKind.u8 0), PV.sc (Value.int IntKind.u8 0), PV.sc (Value.int IntKind.u8 0), PV.sc (Value.int IntKind.u8 0), PV.sc (Value.int IntKind.u8 0), PV.sc (Value.int IntKind.u8 0),
        PV.sc (Value.int IntKind.u8 0), PV.sc (Value.int IntKind.u8 0), PV.sc (Value.int IntKind.u8 0), PV.sc (Value.int IntKind.u8 0), PV.sc (Value.int IntKind.u8 0), PV.sc (Value.int IntKind.u8 0),
        PV.sc (Value.int IntKind.u8 0), PV.sc (Value.int IntKind.u8 0), PV.sc (Value.int IntKind.u8 0), PV.sc (Value.int IntKind.u8 0), PV.sc (Value.int IntKind.u8 0), PV.sc (Value.int IntKind.u8 0),
        PV.sc (Value.int IntKind.u8 0), PV.sc (Value.int IntKind.u8 0),
        PV.sc
          (Value.int IntKind.u8
            0)]) ([PV.sc (Value.int IntKind.u32 1779033703), PV.sc (Value.int IntKind.u32 3144134277), PV.sc (Value.int IntKind.u32 1013904242), PV.sc (Value.int IntKind.u32 2773480762),
        PV.sc (Value.int IntKind.u32 1359893119), PV.sc (Value.int IntKind.u32 2600822924), PV.sc (Value.int IntKind.u32 528734635), PV.sc (Value.int IntKind.u32 1541459225)])
    else none
  else none
theorem e20 (f : Nat) (nl : Bool) (fl : Bool) (l : List PV) (k : Res → Option Res) : evFn tau F20 Try.f20 (Try.f20.body.get!) (an20 (r20_0 f) (r20_1 f)) [] 0 [.ro 22 nl fl l] [] k = g20 f nl fl l k := by kernel_rfl
theorem it20 (f : Nat) : items (Try.f20.body.get!) (an20 (r20_0 f) (r20_1 f)) = [.l c20_0 nm20_0 N20 (r20_0 f), .l c20_1 nm20_1 N20 (r20_1 f)] := by kernel_rfl
theorem ia20 (f : Nat) : ∀ q ∈ items (Try.f20.body.get!) (an20 (r20_0 f) (r20_1 f)), q.Ok tau Try.prog 0 := by
  rw [it20 f]; simp only [List.forall_mem_cons, List.not_mem_nil, false_implies, implies_true, and_true]; exact ⟨i20_0 f, i20_1 f⟩
theorem fo20 : Try.prog.funcs[20]? = some Try.f20 := by kernel_rfl
theorem bo20 : Try.f20.body = some (Try.f20.body.get!) := by kernel_rfl
theorem en20 : Enters Try.prog 20 := enters_of fo20 (by kernel_rfl) bo20
end Go.Proofs.Ytodldmomneecpaa.Rx

-- FN sha.Sum
/- The sum of parts. Own work. -/
namespace Go.Proofs.Ytodldmomneecpaa.Rx
open Go
set_option linter.unusedVariables false
set_option maxRecDepth 100000
set_option maxHeartbeats 1000000
theorem iv_length : iv.length = 8 := rfl
theorem l20_0 (P : List Int) (m : Nat) (hP : P.length = 64 * m) (f : Nat) (k0 : List PV → List PV → Option Res) (a : List PV) : ∀ (d i n : Nat), i + d = m → d < n →
    lp20_0 f k0 n (pu .u8 (P.drop (64 * i))) a (pu .u32 (foldB iv P i)) = k0 a (pu .u32 (foldB iv P m))
  | 0, i, n + 1, h, hn => by
      obtain rfl : i = m := by omega
      have hl : (P.drop (64 * i)).length = 0 := by rw [List.length_drop]; omega
      simp only [lp20_0, lpS20_0, pu_length, hl]
      exact bif_f (by decide)
  | d + 1, i, n + 1, h, hn => by
      have hl : 64 ≤ (P.drop (64 * i)).length := by rw [List.length_drop]; omega
      have hf := foldB_length iv P iv_length i
      simp only [lp20_0, lpS20_0, pu_length, pu_take, allInt_pu, hf, ints_pu]
      refine (bif_t (by simp; omega)).trans ?_
      refine (bif_t (by simp at hl ⊢; omega)).trans ?_
      refine (bif_t (by simp at hl ⊢; omega)).trans ?_
      refine (bif_t (by simp at hl ⊢; omega)).trans ?_
      rw [List.take_of_length_le (Nat.le_refl _), pu_drop, List.drop_drop]
      have := l20_0 P m hP f k0 a d (i + 1) n (by omega) (by omega)
      rw [show 64 * i + 64 = 64 * (i + 1) from by omega]
      exact this
theorem l20_1 (s : List Int) (hs : s.length = 8) (f : Nat) (k0 : List PV → List PV → Option Res) (a : List PV) (t : List Int) (ht : t.length = 32) : ∀ (d i n : Nat), i + d = 32 → d < n →
    lp20_1 f k0 n (i : Int) a (pu .u32 s) (pu .u8 (fillM (outB s) t i)) = k0 a (pu .u8 (outP s))
  | 0, i, n + 1, h, hn => by
      obtain rfl : i = 32 := by omega
      simp only [lp20_1, lpS20_1]
      refine (bif_f (by decide)).trans ?_
      have := fillM_full (outB s) t
      rw [ht] at this; rw [this]; rfl
  | d + 1, i, n + 1, h, hn => by
      have e1 : ((i : Int)).tdiv 4 = ((i / 4 : Nat) : Int) := by rw [Int.tdiv_eq_ediv_of_nonneg (by omega)]; omega
      have e2 : ((i : Int)).tmod 4 = ((i % 4 : Nat) : Int) := by rw [Int.tmod_eq_emod_of_nonneg (by omega)]; omega
      have h1 : IntKind.i64.wrap ((i : Int) + 1) = ((i + 1 : Nat) : Int) := by rw [wrap_i64 (by omega) (by omega)]; omega
      have h2 : IntKind.i64.wrap ((i / 4 : Nat) : Int) = ((i / 4 : Nat) : Int) := wrap_i64 (by omega) (by omega)
      have h3 : IntKind.i64.wrap (8 * ((i % 4 : Nat) : Int)) = 8 * ((i % 4 : Nat) : Int) := wrap_i64 (by omega) (by omega)
      have h4 : IntKind.i64.wrap (24 - 8 * ((i % 4 : Nat) : Int)) = 24 - 8 * ((i % 4 : Nat) : Int) := wrap_i64 (by omega) (by omega)
      have g1 : ((i : Int)).toNat = i := by omega
      have g2 : (((i / 4 : Nat) : Int)).toNat = i / 4 := by omega
      have c0 : decide ((i : Int) < 32) = true := by simp; omega
      have c1 : (decide (0 ≤ ((i / 4 : Nat) : Int)) && decide (((i / 4 : Nat) : Int) < zi 8) && true) = true := by simp; omega
      have c2 : (decide (0 ≤ 24 - 8 * ((i % 4 : Nat) : Int)) && true) = true := by simp; omega
      have c3 : (decide (0 ≤ (i : Int)) && decide ((i : Int) < zi 32) && true) = true := by simp; omega
      simp only [lp20_1, lpS20_1, e1, e2, h1, h2, h3, h4, g1, g2, getP_ar, c0, c1, c2, c3, getD8 hs (i / 4) (by omega), PV.isInt, PV.int, decide_true, Bool.and_true, cond_true, pu_set]
      have := l20_1 s hs f k0 a t ht d (i + 1) n (by omega) (by omega)
      rw [← fillM_set (outB s) t i (by omega)] at this
      exact this
theorem g20_eq (nl fl : Bool) (l : List PV) (k : Res → Option Res) (hl : l.all (PV.isRo 5) = true) (hn : l.length ≤ 140737488355328) (hi : allInt .u8 (flat l) = true) (hs : (flat l).length ≤ 140737488355000) :
    g20 ((padP (ints (flat l))).length / 64 + 100) nl fl l k = k ⟨.ar 26 (pu .u8 (sumP (ints (flat l)))), [], []⟩ := by
  refine (bif_t (by simp only [hl, Bool.true_and, Bool.and_eq_true, decide_eq_true_eq]; omega)).trans ?_
  refine (bif_t (by simp only [hi, Bool.true_and, Bool.and_eq_true, decide_eq_true_eq, true_and]; exact hs)).trans ?_
  rw [pu_take, List.take_of_length_le (Nat.le_refl _)]
  generalize hP : padP (ints (flat l)) = P
  have hlen : P.length = 64 * (P.length / 64) := by rw [← hP]; exact padP_length _
  have h0 : ∀ k0 a, lp20_0 (P.length / 64 + 100) k0 (P.length / 64 + 100) (pu .u8 P) a (pu .u32 iv) = k0 a (pu .u32 (foldB iv P (P.length / 64))) := fun k0 a => l20_0 P (P.length / 64) hlen _ k0 a (P.length / 64) 0 _ (by omega) (by omega)
  have h1 : ∀ k0 a s, s.length = 8 → lp20_1 (P.length / 64 + 100) k0 (P.length / 64 + 100) 0 a (pu .u32 s) (pu .u8 (List.replicate 32 0)) = k0 a (pu .u8 (outP s)) := by
    intro k0 a s hs
    have := l20_1 s hs (P.length / 64 + 100) k0 a (List.replicate 32 0) (by simp) 32 0 (P.length / 64 + 100) (by omega) (by omega)
    rw [fillM_zero] at this
    exact this
  refine (h0 _ _).trans ((h1 _ _ _ (foldB_length iv P iv_length _)).trans ?_)
  rw [sumP_eq, sumP0, hP]
def run20' : List PV → List Ent → (Res → Option Res) → Option Res
  | [.ro 22 nl fl l], [], k => bif (l.all (PV.isRo 5) && decide (l.length ≤ 140737488355328)) && (allInt .u8 (flat l) && decide ((flat l).length ≤ 140737488355000)) then k ⟨.ar 26 (pu .u8 (sumP (ints (flat l)))), [], []⟩ else none
  | _, _, _ => none
def s20' : Sig := { own := [], run := run20' }
theorem ok20' : CallOk tau Try.prog 20 s20' := fn_ok2 tabOk F20_ok mixed fo20 bo20 (fun n => an20 (r20_0 n) (r20_1 n)) [] 0 [] run20' (fun n => ia20 n) fun xs es k res hr => by
  unfold run20' at hr
  split at hr
  · rename_i nl fl l
    obtain ⟨hc, hr⟩ := of_bif hr
    simp only [Bool.and_eq_true, decide_eq_true_eq] at hc
    refine ⟨rfl, (padP (ints (flat l))).length / 64 + 100, 0, (e20 _ _ _ _ _).trans ?_⟩
    rw [g20_eq nl fl l k hc.1.1 hc.1.2 hc.2.1 hc.2.2]; exact hr
  · cases hr
end Go.Proofs.Ytodldmomneecpaa.Rx

-- FN slices.overlaps[[]byte]
-- EXT slices.overlaps[[]byte]
/- Rows of rows in two blocks do not overlap. Own work. -/
namespace Go.Proofs.Ytodldmomneecpaa.Rx
open Go
set_option maxRecDepth 100000
noncomputable def s33' : Sig := { own := [true, true], run := ovRun 22 }
theorem ok33' : CallOkD tau (ValD Try.prog 33) s33' :=
  ov_ok (fn := Try.f33) (t := 23) (tR := 4) tabOk (by kernel_rfl) (by kernel_rfl) (by kernel_rfl) (by kernel_rfl) (by kernel_rfl) (by kernel_rfl) (by
    have h : tau.und 22 = some (.slice 5) := by kernel_rfl
    rw [h]; intro h; cases h)
end Go.Proofs.Ytodldmomneecpaa.Rx

/- What slices.Insert[[][]byte,[]byte] computes. Own work, printed by a program of the worker's own. -/
namespace Go.Proofs.Ytodldmomneecpaa.Rx
open Go
set_option linter.unusedVariables false
set_option maxRecDepth 100000
set_option maxHeartbeats 0
def N23 : Nat := 95
noncomputable def F23 : Fns := addF 33 s33' (F0)
theorem F23_ok : FnsOk tau Try.prog F23 := (F0_ok).addV ok33'
def an23 : An := (.seq .leaf (.seq .leaf (.seq .leaf (.seq (.seq .leaf (.cond (.seq .leaf .leaf) .leaf)) (.seq .leaf (.seq (.seq .leaf (.cond (.seq .leaf .leaf) .leaf)) (.seq (.seq .leaf (.cond (.seq .leaf (.seq .leaf (.seq .leaf (.seq .leaf .leaf)))) .leaf)) (.seq .leaf (.seq (.seq .leaf (.cond (.seq .leaf (.seq .leaf (.seq .leaf .leaf))) .leaf)) (.seq .leaf (.seq .leaf (.seq .leaf .leaf))))))))))))
def g23 (f : Nat) (nl : Bool) (L : List PV) (n : Nat) (c : Nat) (x : PV) (k : Res → Option Res) : Option Res :=
  bif decide (n + 1 ≤ (some c).getD (L.length - 0)) && true then
    bif decide (IntKind.i64.wrap (zi (n + 1) + zi 1) > zi c) then
      bif decide (0 ≤ IntKind.i64.wrap (IntKind.i64.wrap (zi (n + 1) + zi 1) - 0)) && decide (c - 0 < 0 + (IntKind.i64.wrap (IntKind.i64.wrap (zi (n + 1) + zi 1) - 0)).toNat) &&
          roomy (0 + (IntKind.i64.wrap (IntKind.i64.wrap (zi (n + 1) + zi 1) - 0)).toNat) 24 &&
        true then
        bif decide
            (0 + (IntKind.i64.wrap (IntKind.i64.wrap (zi (n + 1) + zi 1) - 0)).toNat ≤
              none.getD (([] ++ List.replicate (IntKind.i64.wrap (IntKind.i64.wrap (zi (n + 1) + zi 1) - 0)).toNat (PV.ro 5 true true [])).length - 0)) &&
          true then
          bif decide (1 ≤ 0 + (IntKind.i64.wrap (IntKind.i64.wrap (zi (n + 1) + zi 1) - 0)).toNat) &&
              decide
                (0 + (IntKind.i64.wrap (IntKind.i64.wrap (zi (n + 1) + zi 1) - 0)).toNat ≤
                  none.getD
                    (([] ++ List.take (0 + (IntKind.i64.wrap (IntKind.i64.wrap (zi (n + 1) + zi 1) - 0)).toNat - 0) [x] ++
                          List.drop (0 + min 1 (0 + (IntKind.i64.wrap (IntKind.i64.wrap (zi (n + 1) + zi 1) - 0)).toNat - 0))
                            ([] ++ List.replicate (IntKind.i64.wrap (IntKind.i64.wrap (zi (n + 1) + zi 1) - 0)).toNat (PV.ro 5 true true []))).length -
                      0)) &&
            true then
            bif decide (n + 1 ≤ (some c).getD (L.length - 0)) && true then
              k (Res.mk
                (PV.ro 22 false false
                  (List.take (0 + (IntKind.i64.wrap (IntKind.i64.wrap (zi (n + 1) + zi 1) - 0)).toNat)
                    (List.take 1
                          ([] ++ List.take (0 + (IntKind.i64.wrap (IntKind.i64.wrap (zi (n + 1) + zi 1) - 0)).toNat - 0) [x] ++
                            List.drop (0 + min 1 (0 + (IntKind.i64.wrap (IntKind.i64.wrap (zi (n + 1) + zi 1) - 0)).toNat - 0))
                              ([] ++ List.replicate (IntKind.i64.wrap (IntKind.i64.wrap (zi (n + 1) + zi 1) - 0)).toNat (PV.ro 5 true true []))) ++
                        List.take (0 + (IntKind.i64.wrap (IntKind.i64.wrap (zi (n + 1) + zi 1) - 0)).toNat - 1) (List.take (n + 1 - 0) L) ++
                      List.drop (1 + min (List.take (n + 1 - 0) L).length (0 + (IntKind.i64.wrap (IntKind.i64.wrap (zi (n + 1) + zi 1) - 0)).toNat - 1))
                        ([] ++ List.take (0 + (IntKind.i64.wrap (IntKind.i64.wrap (zi (n + 1) + zi 1) - 0)).toNat - 0) [x] ++
                          List.drop (0 + min 1 (0 + (IntKind.i64.wrap (IntKind.i64.wrap (zi (n + 1) + zi 1) - 0)).toNat - 0))
                            ([] ++ List.replicate (IntKind.i64.wrap (IntKind.i64.wrap (zi (n + 1) + zi 1) - 0)).toNat (PV.ro 5 true true []))))))
                [Ent.vec false 22 nl L, Ent.vec false 22 false [x]] [])
            else none
          else none
        else none
      else none
    else bif decide (0 ≤ IntKind.i64.wrap (zi (n + 1) + zi 1)) && true && decide ((IntKind.i64.wrap (zi (n + 1) + zi 1)).toNat ≤ (some c).getD (L.length - 0)) && true then
      bif decide (1 ≤ (IntKind.i64.wrap (zi (n + 1) + zi 1)).toNat - 0) && decide ((IntKind.i64.wrap (zi (n + 1) + zi 1)).toNat - 0 ≤ (some (c - 0)).getD (L.length - 0)) && true then
        bif Nat.blt 0 ((IntKind.i64.wrap (zi (n + 1) + zi 1)).toNat - 0 - 1) && true then
          bif decide (1 ≤ (IntKind.i64.wrap (zi (n + 1) + zi 1)).toNat - 0) && decide ((IntKind.i64.wrap (zi (n + 1) + zi 1)).toNat - 0 ≤ (some (c - 0)).getD (L.length - 0)) && true then
            bif decide ((IntKind.i64.wrap (zi (n + 1) + zi 1)).toNat - 0 ≤ (some (c - 0)).getD (L.length - 0)) && true then
              bif decide
                  ((IntKind.i64.wrap (zi (n + 1) + zi 1)).toNat - 0 ≤
                    (some (c - 0)).getD
                      ((List.take 1 L ++ List.take ((IntKind.i64.wrap (zi (n + 1) + zi 1)).toNat - 0 - 1) (List.take ((IntKind.i64.wrap (zi (n + 1) + zi 1)).toNat - 0 - 0) L) ++
                            List.drop (1 + min (List.take ((IntKind.i64.wrap (zi (n + 1) + zi 1)).toNat - 0 - 0) L).length ((IntKind.i64.wrap (zi (n + 1) + zi 1)).toNat - 0 - 1)) L).length -
                        0)) &&
                true then
                k (Res.mk
                  (PV.ro 22
                    (Ent.vec false 22 nl
                        ([] ++ List.take ((IntKind.i64.wrap (zi (n + 1) + zi 1)).toNat - 0 - 0) [x] ++
                          List.drop (0 + min 1 ((IntKind.i64.wrap (zi (n + 1) + zi 1)).toNat - 0 - 0))
                            (List.take 1 L ++ List.take ((IntKind.i64.wrap (zi (n + 1) + zi 1)).toNat - 0 - 1) (List.take ((IntKind.i64.wrap (zi (n + 1) + zi 1)).toNat - 0 - 0) L) ++
                              List.drop (1 + min (List.take ((IntKind.i64.wrap (zi (n + 1) + zi 1)).toNat - 0 - 0) L).length ((IntKind.i64.wrap (zi (n + 1) + zi 1)).toNat - 0 - 1)) L))).nil
                    false
                    (List.take ((IntKind.i64.wrap (zi (n + 1) + zi 1)).toNat - 0)
                      ([] ++ List.take ((IntKind.i64.wrap (zi (n + 1) + zi 1)).toNat - 0 - 0) [x] ++
                        List.drop (0 + min 1 ((IntKind.i64.wrap (zi (n + 1) + zi 1)).toNat - 0 - 0))
                          (List.take 1 L ++ List.take ((IntKind.i64.wrap (zi (n + 1) + zi 1)).toNat - 0 - 1) (List.take ((IntKind.i64.wrap (zi (n + 1) + zi 1)).toNat - 0 - 0) L) ++
                            List.drop (1 + min (List.take ((IntKind.i64.wrap (zi (n + 1) + zi 1)).toNat - 0 - 0) L).length ((IntKind.i64.wrap (zi (n + 1) + zi 1)).toNat - 0 - 1)) L))))
                  [Ent.vec true 22 nl
                      ([] ++ List.take ((IntKind.i64.wrap (zi (n + 1) + zi 1)).toNat - 0 - 0) [x] ++
                        List.drop (0 + min 1 ((IntKind.i64.wrap (zi (n + 1) + zi 1)).toNat - 0 - 0))
                          (List.take 1 L ++ List.take ((IntKind.i64.wrap (zi (n + 1) + zi 1)).toNat - 0 - 1) (List.take ((IntKind.i64.wrap (zi (n + 1) + zi 1)).toNat - 0 - 0) L) ++
                            List.drop (1 + min (List.take ((IntKind.i64.wrap (zi (n + 1) + zi 1)).toNat - 0 - 0) L).length ((IntKind.i64.wrap (zi (n + 1) + zi 1)).toNat - 0 - 1)) L)),
                    Ent.vec false 22 false [x]]
                  [])
              else none
            else none
          else none
        else none
      else none
    else none
  else none
theorem e23 (f : Nat) (nl : Bool) (L : List PV) (n : Nat) (c : Nat) (x : PV) (k : Res → Option Res) : evFn tau F23 Try.f23 (Try.f23.body.get!) an23 [.ro] 0 [.ow 22 0 [] 0 (n + 1) (some c), .sc (.int .i64 0), .ow 22 1 [] 0 1 (some 1)] [.vec false 22 nl L, .vec false 22 false [x]] k = g23 f nl L n c x k := by kernel_rfl
theorem it23 (f : Nat) : items (Try.f23.body.get!) an23 = [] := by kernel_rfl
theorem ia23 (f : Nat) : ∀ q ∈ items (Try.f23.body.get!) an23, q.Ok tau Try.prog 2 := by
  rw [it23 f]; intro q hq; cases hq
theorem fo23 : Try.prog.funcs[23]? = some Try.f23 := by kernel_rfl
theorem bo23 : Try.f23.body = some (Try.f23.body.get!) := by kernel_rfl
theorem en23 : Enters Try.prog 23 := enters_of fo23 (by kernel_rfl) bo23
end Go.Proofs.Ytodldmomneecpaa.Rx

/- What slices.Insert[[][]byte,[]byte] computes. Own work, printed by a program of the worker's own. -/
namespace Go.Proofs.Ytodldmomneecpaa.Rx
open Go
set_option linter.unusedVariables false
set_option maxRecDepth 100000
set_option maxHeartbeats 0
def N23b : Nat := 95
noncomputable def F23b : Fns := addF 33 s33' (F0)
theorem F23b_ok : FnsOk tau Try.prog F23b := (F0_ok).addV ok33'
def an23b : An := (.seq .leaf (.seq .leaf (.seq .leaf (.seq (.seq .leaf (.cond (.seq .leaf .leaf) .leaf)) (.seq .leaf (.seq (.seq .leaf (.cond (.seq .leaf .leaf) .leaf)) (.seq (.seq .leaf (.cond (.seq .leaf (.seq .leaf (.seq .leaf (.seq .leaf .leaf)))) .leaf)) (.seq .leaf (.seq (.seq .leaf (.cond (.seq .leaf (.seq .leaf (.seq .leaf .leaf))) .leaf)) (.seq .leaf (.seq .leaf (.seq .leaf .leaf))))))))))))
def g23b (f : Nat) (x : PV) (k : Res → Option Res) : Option Res :=
  k (Res.mk (PV.ro 22 false false [x]) [Ent.vec false 22 false [x]] [])
theorem e23b (f : Nat) (x : PV) (k : Res → Option Res) : evFn tau F23b Try.f23 (Try.f23.body.get!) an23b [.ro] 0 [.ro 22 true true [], .sc (.int .i64 0), .ow 22 0 [] 0 1 (some 1)] [.vec false 22 false [x]] k = g23b f x k := by kernel_rfl
theorem it23b (f : Nat) : items (Try.f23.body.get!) an23b = [] := by kernel_rfl
theorem ia23b (f : Nat) : ∀ q ∈ items (Try.f23.body.get!) an23b, q.Ok tau Try.prog 1 := by
  rw [it23b f]; intro q hq; cases hq
theorem fo23b : Try.prog.funcs[23]? = some Try.f23 := by kernel_rfl
theorem bo23b : Try.f23.body = some (Try.f23.body.get!) := by kernel_rfl
theorem en23b : Enters Try.prog 23 := enters_of fo23b (by kernel_rfl) bo23b
end Go.Proofs.Ytodldmomneecpaa.Rx

/- What slices.Insert[[][]byte,[]byte] computes. Own work, printed by a program of the worker's own. -/
namespace Go.Proofs.Ytodldmomneecpaa.Rx
open Go
set_option linter.unusedVariables false
set_option maxRecDepth 100000
set_option maxHeartbeats 0
def N23c : Nat := 95
noncomputable def F23c : Fns := addF 33 s33' (F0)
theorem F23c_ok : FnsOk tau Try.prog F23c := (F0_ok).addV ok33'
def an23c : An := (.seq .leaf (.seq .leaf (.seq .leaf (.seq (.seq .leaf (.cond (.seq .leaf .leaf) .leaf)) (.seq .leaf (.seq (.seq .leaf (.cond (.seq .leaf .leaf) .leaf)) (.seq (.seq .leaf (.cond (.seq .leaf (.seq .leaf (.seq .leaf (.seq .leaf .leaf)))) .leaf)) (.seq .leaf (.seq (.seq .leaf (.cond (.seq .leaf (.seq .leaf (.seq .leaf .leaf))) .leaf)) (.seq .leaf (.seq .leaf (.seq .leaf .leaf))))))))))))
def g23c (f : Nat) (nl : Bool) (x : PV) (k : Res → Option Res) : Option Res :=
  k (Res.mk (PV.ro 22 (Ent.vec false 22 (nl && ((Ent.vec false 22 false [x]).nil, List.take 1 (List.drop 0 [x])).snd.isEmpty) [x]).nil false [x]) [Ent.dead, Ent.vec false 22 false [x]] [])
theorem e23c (f : Nat) (nl : Bool) (x : PV) (k : Res → Option Res) : evFn tau F23c Try.f23 (Try.f23.body.get!) an23c [.ro] 0 [.ow 22 0 [] 0 0 none, .sc (.int .i64 0), .ow 22 1 [] 0 1 (some 1)] [.vec false 22 nl [], .vec false 22 false [x]] k = g23c f nl x k := by kernel_rfl
theorem it23c (f : Nat) : items (Try.f23.body.get!) an23c = [] := by kernel_rfl
theorem ia23c (f : Nat) : ∀ q ∈ items (Try.f23.body.get!) an23c, q.Ok tau Try.prog 2 := by
  rw [it23c f]; intro q hq; cases hq
theorem fo23c : Try.prog.funcs[23]? = some Try.f23 := by kernel_rfl
theorem bo23c : Try.f23.body = some (Try.f23.body.get!) := by kernel_rfl
theorem en23c : Enters Try.prog 23 := enters_of fo23c (by kernel_rfl) bo23c
end Go.Proofs.Ytodldmomneecpaa.Rx

-- FN slices.Insert[[][]byte,[]byte]
/- One part ahead of all others. Own work. -/
namespace Go.Proofs.Ytodldmomneecpaa.Rx
open Go
set_option linter.unusedVariables false
set_option linter.unusedSimpArgs false
set_option maxRecDepth 100000
set_option maxHeartbeats 1000000
theorem g_ins (els : List PV) (n : Nat) (hn : els.length = n + 1) (hb : n ≤ 1000000000) (c : Nat) (hc : n + 1 ≤ c) (x : PV) :
    ∃ r, g23 0 false (els ++ List.replicate (c - (n + 1)) .top) n c x some = some r ∧ ∃ p0 p1, r = ⟨.ro 22 false false (x :: els), [p0, p1], []⟩ := by
  have h1 : IntKind.i64.wrap (zi (n + 1) + zi 1) = ((n + 2 : Nat) : Int) := by simp only [zi]; rw [wrap_i64 (by omega) (by omega)]; omega
  have h2 : IntKind.i64.wrap (((n + 2 : Nat) : Int) - 0) = ((n + 2 : Nat) : Int) := by rw [wrap_i64 (by omega) (by omega)]; omega
  have h3 : (((n + 2 : Nat) : Int)).toNat = n + 2 := by omega
  have hL : (els ++ List.replicate (c - (n + 1)) PV.top).length = c := by simp; omega
  have hB : ∀ a b, a < b → Nat.blt a b = true := fun a b h => by rw [Nat.blt, Nat.ble_eq]; exact h
  unfold g23
  simp only [h1, h2, h3, Option.getD_some, Option.getD_none, Nat.sub_zero, Nat.zero_add, List.nil_append]
  have hbt : ∀ {c : Bool} {a b : Option Res} (h : c = true), (bif c then a else b) = a := fun h => bif_t h
  by_cases hg : c < n + 2
  · obtain rfl : c = n + 1 := by omega
    have e0 : n + 1 - (n + 1) = 0 := by omega
    simp only [e0, List.replicate_zero, List.append_nil, List.length_append, List.length_take, List.length_drop, List.length_replicate, List.length_cons, List.length_nil]
    have t1 : List.take (n + 2) [x] = [x] := List.take_of_length_le (by simp)
    have t2 : List.take (n + 1) els = els := List.take_of_length_le (by omega)
    have t3 : List.take 1 ([x] ++ List.drop (min 1 (n + 2)) (List.replicate (n + 2) (PV.ro 5 true true []))) = [x] := by simp
    have hr : roomy (n + 2) 24 = true := by simp [roomy]; omega
    refine ⟨_, (hbt (by simp <;> omega)).trans ((hbt (by simp [zi] <;> omega)).trans ((hbt (by simp only [hr]; simp <;> omega)).trans ((hbt (by simp)).trans ((hbt (by simp <;> omega)).trans ((hbt (by simp <;> omega)).trans rfl))))), ?_⟩
    simp only [t1, t2, t3, hn]
    have t4 : List.take (n + 2 - 1) els = els := List.take_of_length_le (by omega)
    have t5 : List.drop (1 + min (min (n + 1) (n + 1)) (n + 2 - 1)) ([x] ++ List.drop (min 1 (n + 2)) (List.replicate (n + 2) (PV.ro 5 true true []))) = [] := List.drop_eq_nil_iff.2 (by simp; omega)
    rw [t4, t5]
    have t6 : List.take (n + 2) ([x] ++ els ++ []) = x :: els := by rw [List.take_of_length_le (by simp; omega)]; simp
    rw [t6]
    exact ⟨_, _, rfl⟩
  · have t1 : List.take (n + 2 - 1) (List.take (n + 2) (els ++ List.replicate (c - (n + 1)) PV.top)) = els := by
      rw [List.take_take, show min (n + 2 - 1) (n + 2) = els.length from by omega, List.take_left']
      rfl
    have t2 : (List.take (n + 2) (els ++ List.replicate (c - (n + 1)) PV.top)).length = n + 2 := by rw [List.length_take]; omega
    have t3 : List.take (n + 2) [x] = [x] := List.take_of_length_le (by simp)
    refine ⟨_, (hbt (by simp; omega)).trans ((bif_f (by simp [zi]; omega)).trans ((hbt (by simp; omega)).trans ((hbt (by simp; omega)).trans ((hbt (by rw [hB _ _ (by omega)]; rfl)).trans ((hbt (by simp; omega)).trans ((hbt (by simp; omega)).trans ((hbt (by simp; omega)).trans rfl))))))), ?_⟩
    simp only [t1, t2, t3]
    have hT : ∀ R : List PV, List.take (n + 2) ([x] ++ List.drop (min 1 (n + 2)) (List.take 1 (els ++ List.replicate (c - (n + 1)) PV.top) ++ els ++ R)) = x :: els := by
      intro R
      have hone : (List.take 1 (els ++ List.replicate (c - (n + 1)) PV.top)).length = 1 := by rw [List.length_take]; omega
      rw [show min 1 (n + 2) = 1 from by omega, List.append_assoc, List.drop_left' hone, ← List.append_assoc, List.take_left' (by simp; omega)]
      rfl
    rw [hT]
    exact ⟨_, _, rfl⟩
def run23' : List PV → List Ent → (Res → Option Res) → Option Res
  | [.ow 22 0 [] 0 m none, .sc (.int .i64 0), .ow 22 1 [] 0 1 (some 1)], [.vec false 22 false els, .vec false 22 false [x]], k => bif decide (m = els.length) && decide (els.length ≤ 1000000000) then k ⟨.ro 22 false false (x :: els), [.dead, .dead], []⟩ else none
  | [.ro 22 true true [], .sc (.int .i64 0), .ow 22 0 [] 0 1 (some 1)], [.vec false 22 false [x]], k => k ⟨.ro 22 false false [x], [.vec false 22 false [x]], []⟩
  | _, _, _ => none
def s23' : Sig := { own := [true, false, true], run := run23' }
theorem ptr_no : tau.isPtr 22 = false := by kernel_rfl
theorem ok23' : CallOk tau Try.prog 23 s23' := CallOk.mk' fun xs es k res hl hr => by
  change run23' xs es k = some res at hr
  unfold run23' at hr
  split at hr
  · rename_i m els x
    obtain ⟨hc, hr2⟩ := of_bif hr
    simp only [Bool.and_eq_true, decide_eq_true_eq] at hc
    obtain ⟨rfl, hb⟩ := hc
    by_cases h0 : els = []
    · subst h0
      have h1 := (e23c 0 false x some)
      have h2 := fn_at tabOk F23c_ok mixed fo23c bo23c an23c [.ro] 2 0 (ia23c 0) hl rfl h1
      obtain ⟨r0, hr0, hc0⟩ := h2
      obtain rfl := Option.some.inj hr0
      refine ⟨_, hr2, fun im ow w us hus hi => (hc0 im ow w us hus hi).mono fun e w' hR => ?_⟩
      obtain ⟨u, im', ow', he, hv, G⟩ := hR
      refine ⟨u, im', ow', he, hv, ?_⟩
      have K := Good.kill (i := 1) (e := .vec false 22 false [x]) G.inv rfl
      have e1 : updH (entsOf [Ent.dead, .vec false 22 false [x]] []) 1 .dead = entsOf [.dead, .dead] [] := by
        funext i
        match i with
        | 0 => rfl
        | 1 => rfl
        | i + 2 => simp [updH, entsOf]
      rw [e1] at K
      exact G.trans K
    · obtain ⟨n, hn⟩ : ∃ n, els.length = n + 1 := ⟨els.length - 1, by have : 0 < els.length := List.length_pos_iff.2 h0; omega⟩
      refine reveal tabOk (by omega) ptr_no ptr_no hr2 fun c hc => ?_
      obtain ⟨r, hg, p0, p1, rfl⟩ := g_ins els n hn (by omega) c (by omega) x
      rw [hn]
      generalize els ++ List.replicate (c - (n + 1)) PV.top = L at hg ⊢
      refine ⟨p0, p1, ?_⟩
      have h1 := (e23 0 false L n c x some).trans hg
      exact fn_at tabOk F23_ok mixed fo23 bo23 an23 [.ro] 2 0 (ia23 0) hl rfl h1
  · rename_i x
    exact fn_at tabOk F23b_ok mixed fo23b bo23b an23b [.ro] 1 0 (ia23b 0) hl rfl ((e23b 0 x k).trans hr)
  · cases hr
end Go.Proofs.Ytodldmomneecpaa.Rx

/- What slices.Clone[[][]byte,[]byte] computes. Own work, printed by a program of the worker's own. -/
namespace Go.Proofs.Ytodldmomneecpaa.Rx
open Go
set_option linter.unusedVariables false
set_option maxRecDepth 100000
set_option maxHeartbeats 0
def N24 : Nat := 8
noncomputable def F24 : Fns := F0
theorem F24_ok : FnsOk tau Try.prog F24 := F0_ok
def an24 : An := (.seq .leaf (.seq (.seq .leaf (.cond (.seq .leaf .leaf) .leaf)) (.seq .leaf .leaf)))
def g24 (f : Nat) (s_z : Bool) (s_f : Bool) (s : List PV) (k : Res → Option Res) : Option Res :=
  bif s_z then
    k (Res.mk (PV.ro 22 true true []) [] [])
  else bif roomy (0 + s.length) 24 && true then
    k (Res.mk (PV.ow 22 16 [] 0 (0 + s.length) none) [] [Ent.vec false 22 false ([] ++ s)])
  else none
theorem e24 (f : Nat) (s_z : Bool) (s_f : Bool) (s : List PV) (k : Res → Option Res) : evFn tau F24 Try.f24 (Try.f24.body.get!) an24 [] 0 [.ro 22 s_z s_f s] [] k = g24 f s_z s_f s k := by kernel_rfl
theorem it24 (f : Nat) : items (Try.f24.body.get!) an24 = [] := by kernel_rfl
theorem ia24 (f : Nat) : ∀ q ∈ items (Try.f24.body.get!) an24, q.Ok tau Try.prog 0 := by
  rw [it24 f]; intro q hq; cases hq
theorem fo24 : Try.prog.funcs[24]? = some Try.f24 := by kernel_rfl
theorem bo24 : Try.f24.body = some (Try.f24.body.get!) := by kernel_rfl
theorem en24 : Enters Try.prog 24 := enters_of fo24 (by kernel_rfl) bo24
def run24 : List PV → List Ent → (Res → Option Res) → Option Res
  | [.ro 22 s_z s_f s], [], k => g24 0 s_z s_f s k
  | _, _, _ => none
def s24 : Sig := { own := [], run := run24 }
theorem ok24 : CallOk tau Try.prog 24 s24 := fn_ok tabOk F24_ok mixed fo24 bo24 an24 [] 0 [] run24 (ia24 0) fun xs es k res hr => by
  unfold run24 at hr
  split at hr
  · exact ⟨rfl, 0, (e24 0 _ _ _  _).trans hr⟩
  · cases hr
end Go.Proofs.Ytodldmomneecpaa.Rx

/- What comitia/hmac.filled computes. Own work, printed by a program of the worker's own. -/
namespace Go.Proofs.Ytodldmomneecpaa.Rx
open Go
set_option linter.unusedVariables false
set_option maxRecDepth 100000
set_option maxHeartbeats 0
def N35 : Nat := 13
noncomputable def F35 : Fns := F0
theorem F35_ok : FnsOk tau Try.prog F35 := F0_ok
noncomputable def c35_0 : Code := subC (Try.f35.body.get!) [1, 1, 0, 1, 0, 0]
def nm35_0 : Nm := [(0, .any), (2, .any), (3, .any), (5, .any)]
def nx35_0 : Nm := [(2, .any), (3, .any)]
def x35_0 : An := (.seq .leaf (.seq (.cond .leaf .leaf) (.seq (.block none (.seq .leaf .leaf)) .leaf)))
def an35 : An := (.seq .leaf (.seq .leaf (.seq (.seq .leaf (.block none (.loop nm35_0 x35_0))) (.seq .leaf .leaf))))
def g35 (f : Nat) (x : Int) (k : Res → Option Res) : Option Res :=
  k (Res.mk
    (PV.ar 46
      [PV.sc (Value.int IntKind.u8 x), PV.sc (Value.int IntKind.u8 x), PV.sc (Value.int IntKind.u8 x), PV.sc (Value.int IntKind.u8 x), PV.sc (Value.int IntKind.u8 x), PV.sc (Value.int IntKind.u8 x),
        PV.sc (Value.int IntKind.u8 x), PV.sc (Value.int IntKind.u8 x), PV.sc (Value.int IntKind.u8 x), PV.sc (Value.int IntKind.u8 x), PV.sc (Value.int IntKind.u8 x), PV.sc (Value.int IntKind.u8 x),
        PV.sc (Value.int IntKind.u8 x), PV.sc (Value.int IntKind.u8 x), PV.sc (Value.int IntKind.u8 x), PV.sc (Value.int IntKind.u8 x), PV.sc (Value.int IntKind.u8 x), PV.sc (Value.int IntKind.u8 x),
        PV.sc (Value.int IntKind.u8 x), PV.sc (Value.int IntKind.u8 x), PV.sc (Value.int IntKind.u8 x), PV.sc (Value.int IntKind.u8 x), PV.sc (Value.int IntKind.u8 x), PV.sc (Value.int IntKind.u8 x),
        PV.sc (Value.int IntKind.u8 x), PV.sc (Value.int IntKind.u8 x), PV.sc (Value.int IntKind.u8 x), PV.sc (Value.int IntKind.u8 x), PV.sc (Value.int IntKind.u8 x), PV.sc (Value.int IntKind.u8 x),
        PV.sc (Value.int IntKind.u8 x), PV.sc (Value.int IntKind.u8 x), PV.sc (Value.int IntKind.u8 x), PV.sc (Value.int IntKind.u8 x), PV.sc (Value.int IntKind.u8 x), PV.sc (Value.int IntKind.u8 x),
        PV.sc (Value.int IntKind.u8 x), PV.sc (Value.int IntKind.u8 x), PV.sc (Value.int IntKind.u8 x), PV.sc (Value.int IntKind.u8 x), PV.sc (Value.int IntKind.u8 x), PV.sc (Value.int IntKind.u8 x),
        PV.sc (Value.int IntKind.u8 x), PV.sc (Value.int IntKind.u8 x), PV.sc (Value.int IntKind.u8 x), PV.sc (Value.int IntKind.u8 x), PV.sc (Value.int IntKind.u8 x), PV.sc (Value.int IntKind.u8 x),
        PV.sc (Value.int IntKind.u8 x), PV.sc (Value.int IntKind.u8 x), PV.sc (Value.int IntKind.u8 x), PV.sc (Value.int IntKind.u8 x), PV.sc (Value.int IntKind.u8 x), PV.sc (Value.int IntKind.u8 x),
        PV.sc (Value.int IntKind.u8 x), PV.sc (Value.int IntKind.u8 x), PV.sc (Value.int IntKind.u8 x), PV.sc (Value.int IntKind.u8 x), PV.sc (Value.int IntKind.u8 x), PV.sc (Value.int IntKind.u8 x),
        PV.sc (Value.int IntKind.u8 x), PV.sc (Value.int IntKind.u8 x), PV.sc (Value.int IntKind.u8 x), PV.sc (Value.int IntKind.u8 x)])
    [] [])
theorem e35 (f : Nat) (x : Int) (k : Res → Option Res) : evFn tau F35 Try.f35 (Try.f35.body.get!) an35 [.ro] 70 [.sc (.int .u8 x)] [] k = g35 f x k := by kernel_rfl
theorem it35 (f : Nat) : items (Try.f35.body.get!) an35 = [] := by kernel_rfl
theorem ia35 (f : Nat) : ∀ q ∈ items (Try.f35.body.get!) an35, q.Ok tau Try.prog 0 := by
  rw [it35 f]; intro q hq; cases hq
theorem fo35 : Try.prog.funcs[35]? = some Try.f35 := by kernel_rfl
theorem bo35 : Try.f35.body = some (Try.f35.body.get!) := by kernel_rfl
theorem en35 : Enters Try.prog 35 := enters_of fo35 (by kernel_rfl) bo35
def run35 : List PV → List Ent → (Res → Option Res) → Option Res
  | [.sc (.int .u8 x)], [], k => g35 0 x k
  | _, _, _ => none
def s35 : Sig := { own := [], run := run35 }
theorem ok35 : CallOk tau Try.prog 35 s35 := fn_ok tabOk F35_ok mixed fo35 bo35 an35 [.ro] 0 [] run35 (ia35 0) fun xs es k res hr => by
  unfold run35 at hr
  split at hr
  · exact ⟨rfl, 70, (e35 0 _  _).trans hr⟩
  · cases hr
end Go.Proofs.Ytodldmomneecpaa.Rx

/- What (comitia/hmac.block).turned computes. Own work, printed by a program of the worker's own. -/
namespace Go.Proofs.Ytodldmomneecpaa.Rx
open Go
set_option linter.unusedVariables false
set_option maxRecDepth 100000
set_option maxHeartbeats 0
def N25 : Nat := 26
noncomputable def F25 : Fns := addF 35 s35 (F0)
theorem F25_ok : FnsOk tau Try.prog F25 := (F0_ok).add ok35 en35
noncomputable def c25_0 : Code := subC (Try.f25.body.get!) [1, 1, 1, 0, 1, 0, 0]
def nm25_0 : Nm := [(2, .any), (5, .any), (13, .any)]
def nx25_0 : Nm := [(5, .any)]
def x25_0 : An := (.seq .leaf (.seq (.cond .leaf .leaf) (.seq (.block none (.seq .leaf .leaf)) .leaf)))
def an25 (r0 : RunL) : An := (.seq .leaf (.seq .leaf (.seq (.seq .leaf (.cond (.seq .leaf .leaf) .leaf)) (.seq (.seq .leaf (.block none (.sum nm25_0 N25 r0))) (.seq .leaf .leaf)))))
def lpS25_0 (f : Nat) (rc : Int → List PV → List PV → Option Res) (k0 : List PV → Option Res) (v0 : Int) (v1 : List PV) (v2 : List PV) : Option Res :=
  bif decide (v0 < 64) then
    bif decide (0 ≤ v0) && decide (v0 < zi 64) && true then
      bif PV.isInt IntKind.u8 (getP (PV.ar 46 v2) [v0.toNat]) && true then
        bif decide (0 ≤ v0) && decide (v0 < zi 64) && true then
          bif PV.isInt IntKind.u8 (getP (PV.ar 46 v1) [v0.toNat]) && true then
            bif decide (0 ≤ v0) && decide (v0 < zi 64) && true then
              rc (IntKind.i64.wrap (v0 + 1)) v1 (v2.set v0.toNat (PV.sc (Value.int IntKind.u8 (bitI BinOp.xor IntKind.u8 (getP (PV.ar 46 v2) [v0.toNat]).int (getP (PV.ar 46 v1) [v0.toNat]).int))))
            else none
          else none
        else none
      else none
    else none
  else k0 v2
def lp25_0 (f : Nat) (k0 : List PV → Option Res) : Nat → Int → List PV → List PV → Option Res
  | 0, _, _, _ => none
  | n + 1, v0, v1, v2 => lpS25_0 f (lp25_0 f k0 n) k0 v0 v1 v2
theorem lpR25_0 (f : Nat) (k : Kont) (n : Nat) (v0 : Int) (v1 : List
  PV) (v2 : List
  PV) : evLoop tau 0 nm25_0 (fun s k => ev tau F25 0 0 c25_0 (x25_0 ) s k) (n + 1) (fillS nm25_0 N25 [PV.ptr 432 [], PV.ptr 433 [],
  PV.sc
    (Value.int IntKind.i64
      v0)] [(432, Ent.box false 46 (PV.ar 46 v1)),
  (433,
    Ent.box false 46
      (PV.ar 46
        v2))]) (kNorm tau 0 nx25_0 k) = lpS25_0 f (fun v0 v1 v2 => evLoop tau 0 nm25_0 (fun s k => ev tau F25 0 0 c25_0 (x25_0 ) s k) n (fillS nm25_0 N25 [PV.ptr 432 [], PV.ptr 433 [],
  PV.sc
    (Value.int IntKind.i64
      v0)] [(432, Ent.box false 46 (PV.ar 46 v1)),
  (433, Ent.box false 46 (PV.ar 46 v2))]) (kNorm tau 0 nx25_0 k)) (fun x0 => k (Ex.exit 0) (fillS nx25_0 N25 [PV.ptr 432 []] [(432, Ent.box false 46 (PV.ar 46 x0))])) v0 v1 v2 := by kernel_rfl
theorem lpE25_0 (f : Nat) (k : Kont) : ∀ (n : Nat) (v0 : Int) (v1 : List
  PV) (v2 : List
  PV), evLoop tau 0 nm25_0 (fun s k => ev tau F25 0 0 c25_0 (x25_0 ) s k) n (fillS nm25_0 N25 [PV.ptr 432 [], PV.ptr 433 [],
  PV.sc
    (Value.int IntKind.i64
      v0)] [(432, Ent.box false 46 (PV.ar 46 v1)),
  (433, Ent.box false 46 (PV.ar 46 v2))]) (kNorm tau 0 nx25_0 k) = lp25_0 f (fun x0 => k (Ex.exit 0) (fillS nx25_0 N25 [PV.ptr 432 []] [(432, Ent.box false 46 (PV.ar 46 x0))])) n v0 v1 v2
  | 0, _, _, _ => rfl
  | n + 1, v0, v1, v2 => (lpR25_0 f k n v0 v1 v2).trans (congrArg (fun r => lpS25_0 f r (fun x0 => k (Ex.exit
  0) (fillS nx25_0 N25 [PV.ptr 432 []] [(432, Ent.box false 46 (PV.ar 46 x0))])) v0 v1 v2) (by funext v0 v1 v2; exact lpE25_0 f k n v0 v1 v2))
def r25_0 (f : Nat) : List PV → List (Nat × Ent) → Kont → Option Res
  | [PV.ptr 432 [], PV.ptr 433 [],
  PV.sc
    (Value.int IntKind.i64
      v0)], [(432, Ent.box false 46 (PV.ar 46 v1)),
  (433, Ent.box false 46 (PV.ar 46 v2))], k => lp25_0 f (fun x0 => k (Ex.exit 0) (fillS nx25_0 N25 [PV.ptr 432 []] [(432, Ent.box false 46 (PV.ar 46 x0))])) f v0 v1 v2
  | _, _, _ => none
theorem it25_0 (f : Nat) : items c25_0 x25_0 = [] := by kernel_rfl
theorem i25_0 (f : Nat) : (Item.l c25_0 nm25_0 N25 (r25_0 f)).Ok tau Try.prog 0 := loop_item tabOk F25_ok mixed (x := x25_0) (nm2 := nx25_0) (anOk_items _ _ (by rw [it25_0 f]; intro q hq; cases hq)) fun vs hp k res hr => by
  unfold r25_0 at hr
  split at hr
  · exact ⟨f, 0, (lpE25_0 f _ f _ _ _ ).trans hr⟩
  · cases hr
def g25 (f : Nat) (k1 : List PV) (x : Int) (k : Res → Option Res) : Option Res :=
  bif decide (k1.length = 64) && true && allInt IntKind.u8 k1 && true && true then
    bif eqInts k1
      [PV.sc (Value.int IntKind.u8 0), PV.sc (Value.int IntKind.u8 0), PV.sc (Value.int IntKind.u8 0), PV.sc (Value.int IntKind.u8 0), PV.sc (Value.int IntKind.u8 0), PV.sc (Value.int IntKind.u8 0),
        PV.sc (Value.int IntKind.u8 0), PV.sc (Value.int IntKind.u8 0), PV.sc (Value.int IntKind.u8 0), PV.sc (Value.int IntKind.u8 0), PV.sc (Value.int IntKind.u8 0), PV.sc (Value.int IntKind.u8 0),
        PV.sc (Value.int IntKind.u8 0), PV.sc (Value.int IntKind.u8 0), PV.sc (Value.int IntKind.u8 0), PV.sc (Value.int IntKind.u8 0), PV.sc (Value.int IntKind.u8 0), PV.sc (Value.int IntKind.u8 0),
        PV.sc (Value.int IntKind.u8 0), PV.sc (Value.int IntKind.u8 0), PV.sc (Value.int IntKind.u8 0), PV.sc (Value.int IntKind.u8 0), PV.sc (Value.int IntKind.u8 0), PV.sc (Value.int IntKind.u8 0),
        PV.sc (Value.int IntKind.u8 0), PV.sc (Value.int IntKind.u8 0), PV.sc (Value.int IntKind.u8 0), PV.sc (Value.int IntKind.u8 0), PV.sc (Value.int IntKind.u8 0), PV.sc (Value.int IntKind.u8 0),
        PV.sc (Value.int IntKind.u8 0), PV.sc (Value.int IntKind.u8 0), PV.sc (Value.int IntKind.u8 0), PV.sc (Value.int IntKind.u8 0), PV.sc (Value.int IntKind.u8 0), PV.sc (Value.int IntKind.u8 0),
        PV.sc (Value.int IntKind.u8 0), PV.sc (Value.int IntKind.u8 0), PV.sc (Value.int IntKind.u8 0), PV.sc (Value.int IntKind.u8 0), PV.sc (Value.int IntKind.u8 0), PV.sc (Value.int IntKind.u8 0),
        PV.sc (Value.int IntKind.u8 0), PV.sc (Value.int IntKind.u8 0), PV.sc (Value.int IntKind.u8 0), PV.sc (Value.int IntKind.u8 0), PV.sc (Value.int IntKind.u8 0), PV.sc (Value.int IntKind.u8 0),
        PV.sc (Value.int IntKind.u8 0), PV.sc (Value.int IntKind.u8 0), PV.sc (Value.int IntKind.u8 0), PV.sc (Value.int IntKind.u8 0), PV.sc (Value.int IntKind.u8 0), PV.sc (Value.int IntKind.u8 0),
        PV.sc (Value.int IntKind.u8 0), PV.sc (Value.int IntKind.u8 0), PV.sc (Value.int IntKind.u8 0), PV.sc (Value.int IntKind.u8 0), PV.sc (Value.int IntKind.u8 0), PV.sc (Value.int IntKind.u8 0),
        PV.sc (Value.int IntKind.u8 0), PV.sc (Value.int IntKind.u8 0), PV.sc (Value.int IntKind.u8 0), PV.sc (Value.int IntKind.u8 0)] then
      k (Res.mk
        (PV.ro 5 false false
          [PV.sc (Value.int IntKind.u8 x), PV.sc (Value.int IntKind.u8 x), PV.sc (Value.int IntKind.u8 x), PV.sc (Value.int IntKind.u8 x), PV.sc (Value.int IntKind.u8 x),
            PV.sc (Value.int IntKind.u8 x), PV.sc (Value.int IntKind.u8 x), PV.sc (Value.int IntKind.u8 x), PV.sc (Value.int IntKind.u8 x), PV.sc (Value.int IntKind.u8 x),
            PV.sc (Value.int IntKind.u8 x), PV.sc (Value.int IntKind.u8 x), PV.sc (Value.int IntKind.u8 x), PV.sc (Value.int IntKind.u8 x), PV.sc (Value.int IntKind.u8 x),
            PV.sc (Value.int IntKind.u8 x), PV.sc (Value.int IntKind.u8 x), PV.sc (Value.int IntKind.u8 x), PV.sc (Value.int IntKind.u8 x), PV.sc (Value.int IntKind.u8 x),
            PV.sc (Value.int IntKind.u8 x), PV.sc (Value.int IntKind.u8 x), PV.sc (Value.int IntKind.u8 x), PV.sc (Value.int IntKind.u8 x), PV.sc (Value.int IntKind.u8 x),
            PV.sc (Value.int IntKind.u8 x), PV.sc (Value.int IntKind.u8 x), PV.sc (Value.int IntKind.u8 x), PV.sc (Value.int IntKind.u8 x), PV.sc (Value.int IntKind.u8 x),
            PV.sc (Value.int IntKind.u8 x), PV.sc (Value.int IntKind.u8 x), PV.sc (Value.int IntKind.u8 x), PV.sc (Value.int IntKind.u8 x), PV.sc (Value.int IntKind.u8 x),
            PV.sc (Value.int IntKind.u8 x), PV.sc (Value.int IntKind.u8 x), PV.sc (Value.int IntKind.u8 x), PV.sc (Value.int IntKind.u8 x), PV.sc (Value.int IntKind.u8 x),
            PV.sc (Value.int IntKind.u8 x), PV.sc (Value.int IntKind.u8 x), PV.sc (Value.int IntKind.u8 x), PV.sc (Value.int IntKind.u8 x), PV.sc (Value.int IntKind.u8 x),
            PV.sc (Value.int IntKind.u8 x), PV.sc (Value.int IntKind.u8 x), PV.sc (Value.int IntKind.u8 x), PV.sc (Value.int IntKind.u8 x), PV.sc (Value.int IntKind.u8 x),
            PV.sc (Value.int IntKind.u8 x), PV.sc (Value.int IntKind.u8 x), PV.sc (Value.int IntKind.u8 x), PV.sc (Value.int IntKind.u8 x), PV.sc (Value.int IntKind.u8 x),
            PV.sc (Value.int IntKind.u8 x), PV.sc (Value.int IntKind.u8 x), PV.sc (Value.int IntKind.u8 x), PV.sc (Value.int IntKind.u8 x), PV.sc (Value.int IntKind.u8 x),
            PV.sc (Value.int IntKind.u8 x), PV.sc (Value.int IntKind.u8 x), PV.sc (Value.int IntKind.u8 x), PV.sc (Value.int IntKind.u8 x)])
        [] [])
    else lp25_0 f (fun x0_0 =>
      k (Res.mk (PV.ro 5 false false (List.take 64 x0_0)) []
        [])) f (0) k1 ([PV.sc (Value.int IntKind.u8 x), PV.sc (Value.int IntKind.u8 x), PV.sc (Value.int IntKind.u8 x), PV.sc (Value.int IntKind.u8 x), PV.sc (Value.int IntKind.u8 x),
      PV.sc (Value.int IntKind.u8 x), PV.sc (Value.int IntKind.u8 x), PV.sc (Value.int IntKind.u8 x), PV.sc (Value.int IntKind.u8 x), PV.sc (Value.int IntKind.u8 x), PV.sc (Value.int IntKind.u8 x),
      PV.sc (Value.int IntKind.u8 x), PV.sc (Value.int IntKind.u8 x), PV.sc (Value.int IntKind.u8 x), PV.sc (Value.int IntKind.u8 x), PV.sc (Value.int IntKind.u8 x), PV.sc (Value.int IntKind.u8 x),
      PV.sc (Value.int IntKind.u8 x), PV.sc (Value.int IntKind.u8 x), PV.sc (Value.int IntKind.u8 x), PV.sc (Value.int IntKind.u8 x), PV.sc (Value.int IntKind.u8 x), PV.sc (Value.int IntKind.u8 x),
      PV.sc (Value.int IntKind.u8 x), PV.sc (Value.int IntKind.u8 x), PV.sc (Value.int IntKind.u8 x), PV.sc (Value.int IntKind.u8 x), PV.sc (Value.int IntKind.u8 x), PV.sc (Value.int IntKind.u8 x),
      PV.sc (Value.int IntKind.u8 x), PV.sc (Value.int IntKind.u8 x), PV.sc (Value.int IntKind.u8 x), PV.sc (Value.int IntKind.u8 x), PV.sc (Value.int IntKind.u8 x), PV.sc (Value.int IntKind.u8 x),
      PV.sc (Value.int IntKind.u8 x), PV.sc (Value.int IntKind.u8 x), PV.sc (Value.int IntKind.u8 x), PV.sc (Value.int IntKind.u8 x), PV.sc (Value.int IntKind.u8 x), PV.sc (Value.int IntKind.u8 x),
      PV.sc (Value.int IntKind.u8 x), PV.sc (Value.int IntKind.u8 x), PV.sc (Value.int IntKind.u8 x), PV.sc (Value.int IntKind.u8 x), PV.sc (Value.int IntKind.u8 x), PV.sc (Value.int IntKind.u8 x),
      PV.sc (Value.int IntKind.u8 x), PV.sc (Value.int IntKind.u8 x), PV.sc (Value.int IntKind.u8 x), PV.sc (Value.int IntKind.u8 x), PV.sc (Value.int IntKind.u8 x), PV.sc (Value.int IntKind.u8 x),
      PV.sc (Value.int IntKind.u8 x), PV.sc (Value.int IntKind.u8 x), PV.sc (Value.int IntKind.u8 x), PV.sc (Value.int IntKind.u8 x), PV.sc (Value.int IntKind.u8 x), PV.sc (Value.int IntKind.u8 x),
      PV.sc (Value.int IntKind.u8 x), PV.sc (Value.int IntKind.u8 x), PV.sc (Value.int IntKind.u8 x), PV.sc (Value.int IntKind.u8 x), PV.sc (Value.int IntKind.u8 x)])
  else none
theorem e25 (f : Nat) (k1 : List PV) (x : Int) (k : Res → Option Res) : evFn tau F25 Try.f25 (Try.f25.body.get!) (an25 (r25_0 f)) [.ro] 0 [.ar 46 k1, .sc (.int .u8 x)] [] k = g25 f k1 x k := by kernel_rfl
theorem it25 (f : Nat) : items (Try.f25.body.get!) (an25 (r25_0 f)) = [.l c25_0 nm25_0 N25 (r25_0 f)] := by kernel_rfl
theorem ia25 (f : Nat) : ∀ q ∈ items (Try.f25.body.get!) (an25 (r25_0 f)), q.Ok tau Try.prog 0 := by
  rw [it25 f]; simp only [List.forall_mem_cons, List.not_mem_nil, false_implies, implies_true, and_true]; exact i25_0 f
theorem fo25 : Try.prog.funcs[25]? = some Try.f25 := by kernel_rfl
theorem bo25 : Try.f25.body = some (Try.f25.body.get!) := by kernel_rfl
theorem en25 : Enters Try.prog 25 := enters_of fo25 (by kernel_rfl) bo25
end Go.Proofs.Ytodldmomneecpaa.Rx

-- FN (hmac.block).turned
/- A key, each byte exclusive or with one. Own work. -/
namespace Go.Proofs.Ytodldmomneecpaa.Rx
open Go
set_option linter.unusedVariables false
set_option linter.unusedSimpArgs false
set_option maxRecDepth 100000
set_option maxHeartbeats 1000000
/-- bytes, each exclusive or with one -/
def xorB (l : List Int) (x : Int) : List Int := l.map fun b => bitI .xor .u8 b x
@[simp] theorem xorB_length (l : List Int) (x : Int) : (xorB l x).length = l.length := by simp [xorB]
theorem fill_xor (K : List Int) (hK : K.length = 64) (x : Int) : (List.range 64).map (fun j => bitI .xor .u8 x (K.getD j 0)) = xorB K x := by
  apply List.ext_getElem
  · simp [hK]
  · intro i h1 h2
    have h1' : i < K.length := by simpa using h2
    simp only [List.getElem_map, List.getElem_range, xorB]
    rw [bitI_xor_comm, List.getD_eq_getElem?_getD, List.getElem?_eq_getElem h1']; rfl
theorem l25_0 (K : List Int) (hK : K.length = 64) (x : Int) (f : Nat) (k0 : List PV → Option Res) : ∀ (d i n : Nat), i + d = 64 → d < n →
    lp25_0 f k0 n (i : Int) (pu .u8 K) (pu .u8 (fillM (fun j => bitI .xor .u8 x (K.getD j 0)) (List.replicate 64 x) i)) = k0 (pu .u8 (xorB K x))
  | 0, i, n + 1, h, hn => by
      obtain rfl : i = 64 := by omega
      simp only [lp25_0, lpS25_0]
      refine (bif_f (by decide)).trans ?_
      have := fillM_full (fun j => bitI .xor .u8 x (K.getD j 0)) (List.replicate 64 x)
      rw [List.length_replicate] at this
      rw [this, fill_xor K hK]
  | d + 1, i, n + 1, h, hn => by
      have g1 : ((i : Int)).toNat = i := by omega
      have h1 : IntKind.i64.wrap ((i : Int) + 1) = ((i + 1 : Nat) : Int) := by rw [wrap_i64 (by omega) (by omega)]; omega
      have c0 : (decide (0 ≤ (i : Int)) && decide ((i : Int) < zi 64) && true) = true := by simp; omega
      have hF := fillM_length (fun j => bitI .xor .u8 x (K.getD j 0)) (List.replicate 64 x) i (by simp; omega)
      rw [List.length_replicate] at hF
      simp only [lp25_0, lpS25_0, g1, h1, getP_ar]
      rw [pu_isInt (by omega), pu_isInt (by omega), pu_int (by omega), pu_int (by omega), fillM_get _ _ _ (by simp; omega), pu_set]
      refine (bif_t (by simp; omega)).trans ((bif_t c0).trans ((bif_t rfl).trans ((bif_t c0).trans ((bif_t rfl).trans ((bif_t c0).trans ?_)))))
      have := l25_0 K hK x f k0 d (i + 1) n (by omega) (by omega)
      rw [← fillM_set _ _ i (by simp; omega)] at this
      rw [show (List.replicate 64 x).getD i 0 = x from by rw [List.getD_eq_getElem?_getD, List.getElem?_replicate, if_pos (by omega)]; rfl]
      exact this
theorem xor0 : xorB (List.replicate 64 0) 54 = List.replicate 64 54 ∧ xorB (List.replicate 64 0) 92 = List.replicate 64 92 := by
  have h1 : bitI .xor .u8 0 54 = 54 := by decide
  have h2 : bitI .xor .u8 0 92 = 92 := by decide
  simp only [xorB, List.map_replicate, h1, h2, and_self]
theorem g25_form (l : List PV) (x : Int) (k : Res → Option Res) : g25 70 l x k =
    (bif decide (l.length = 64) && true && allInt IntKind.u8 l && true && true then
      (bif eqInts l (pu .u8 (List.replicate 64 0)) then k ⟨.ro 5 false false (pu .u8 (List.replicate 64 x)), [], []⟩
      else lp25_0 70 (fun x0_0 => k (Res.mk (PV.ro 5 false false (List.take 64 x0_0)) [] [])) 70 0 l (pu .u8 (List.replicate 64 x)))
    else none) := by kernel_rfl
theorem g25_eq (K : List Int) (hK : K.length = 64) (x : Int) (hx : x = 54 ∨ x = 92) (k : Res → Option Res) : g25 70 (pu .u8 K) x k = k ⟨.ro 5 false false (pu .u8 (xorB K x)), [], []⟩ := by
  have h0 := l25_0 K hK x 70 (fun x0_0 => k (Res.mk (PV.ro 5 false false (List.take 64 x0_0)) [] [])) 64 0 70 (by omega) (by omega)
  rw [fillM_zero, List.take_of_length_le (by simp [hK])] at h0
  rw [g25_form, bif_t (by simp [hK]), eqInts_pu]
  by_cases hk : K = List.replicate 64 0
  · have h1 : xorB K x = List.replicate 64 x := by
      rw [hk]
      rcases hx with h | h
      · rw [h]; exact xor0.1
      · rw [h]; exact xor0.2
    rw [bif_t (beq_iff_eq.2 hk), h1]
  · rw [bif_f (beq_eq_false_iff_ne.2 hk)]
    exact h0
def run25' : List PV → List Ent → (Res → Option Res) → Option Res
  | [.ar 46 l, .sc (.int .u8 x)], [], k => bif allInt .u8 l && decide (l.length = 64) && (x == 54 || x == 92) then k ⟨.ro 5 false false (pu .u8 (xorB (ints l) x)), [], []⟩ else none
  | _, _, _ => none
def s25' : Sig := { own := [], run := run25' }
theorem ok25' : CallOk tau Try.prog 25 s25' := CallOk.mk' fun xs es k res hl hr => by
  change run25' xs es k = some res at hr
  unfold run25' at hr
  split at hr
  · rename_i l x
    obtain ⟨hc, hr2⟩ := of_bif hr
    simp only [Bool.and_eq_true, decide_eq_true_eq, Bool.or_eq_true, beq_iff_eq] at hc
    have hp := pu_ints hc.1.1
    have h2 : g25 70 l x k = some res := by
      rw [hp, g25_eq _ (by simpa using hc.1.2) x hc.2]; exact hr2
    have h1 := (e25 70 l x k).trans h2
    exact fn_at tabOk F25_ok mixed fo25 bo25 (an25 (r25_0 70)) [.ro] 0 0 (ia25 70) hl rfl h1
  · cases hr
end Go.Proofs.Ytodldmomneecpaa.Rx
