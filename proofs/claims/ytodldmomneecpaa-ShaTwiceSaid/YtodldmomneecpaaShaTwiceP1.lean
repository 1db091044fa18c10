/- What the functions of this law compute, and their plain laws. Conditions: none. -/
import Derived.Test.YtodldmomneecpaaProg
import Derived.Test.YtodldmomneecpaaZ4
/- The types of this program: what the evaluator is told of them. Printed by a program of the worker's own. -/
namespace Go.Proofs.Ytodldmomneecpaa.Rx
open Go
set_option linter.unusedVariables false
set_option maxRecDepth 100000
def tys : List TypeId := [1, 2, 3, 4, 5, 9, 12, 21, 22, 23, 24, 25, 26, 27, 28, 29, 30, 31, 32, 33, 34, 35, 36, 37, 38, 39, 40, 41, 42, 43, 44, 45, 46, 47, 48, 49, 50, 51, 52, 53, 54, 55, 56, 57, 58, 59, 60, 61, 62, 63, 64, 65, 66, 67, 68, 70, 71, 75, 79, 80, 81, 83, 85, 86, 87, 90]
def zerT : TypeId → Option PV := fun t =>
  bif t == 1 then some (.sc .nilFunc) else
  bif t == 2 then some (.sc (.int .i64 0)) else
  bif t == 3 then some (.sc (.int .i64 0)) else
  bif t == 4 then some (.sc (.bool false)) else
  bif t == 5 then some (.sc (.int .u8 0)) else
  bif t == 9 then some (.sc (.string ByteArray.empty)) else
  bif t == 12 then some (.sc (.int .u64 0)) else
  bif t == 21 then some (.sc (.int .i32 0)) else
  bif t == 22 then some (.ro 5 true true []) else
  bif t == 23 then some (.ro 22 true true []) else
  bif t == 24 then some (.sc .nilFunc) else
  bif t == 25 then some (.ar 25 (List.replicate 32 (.sc (.int .u8 0)))) else
  bif t == 26 then some (.ar 26 (List.replicate 32 (.sc (.int .u8 0)))) else
  bif t == 27 then some (.sc .nilFunc) else
  bif t == 28 then some (.sc .nilFunc) else
  bif t == 29 then some (.sc .nilFunc) else
  bif t == 30 then some (.sc .nilFunc) else
  bif t == 31 then some (.sc .nilFunc) else
  bif t == 32 then some (.sc .nilFunc) else
  bif t == 33 then some (.sc .nilFunc) else
  bif t == 34 then some (.sc .nilFunc) else
  bif t == 35 then some (.sc .nilFunc) else
  bif t == 36 then some (.sc .nilFunc) else
  bif t == 37 then some (.sc .nilFunc) else
  bif t == 38 then some (.sc .nilFunc) else
  bif t == 39 then some (.sc .nilFunc) else
  bif t == 40 then some (.ro 26 true true []) else
  bif t == 41 then some (.sc .nilFunc) else
  bif t == 42 then some (.sc .nilFunc) else
  bif t == 43 then some (.ro 3 true true []) else
  bif t == 44 then some (.sc .nilFunc) else
  bif t == 45 then some (.ar 45 (List.replicate 64 (.sc (.int .u8 0)))) else
  bif t == 46 then some (.ar 46 (List.replicate 64 (.sc (.int .u8 0)))) else
  bif t == 47 then some (.sc .nilFunc) else
  bif t == 48 then some (.sc .nilFunc) else
  bif t == 49 then some (.sc .nilFunc) else
  bif t == 50 then some (.sc (.int .u32 0)) else
  bif t == 51 then some (.ar 51 (List.replicate 64 (.sc (.int .u32 0)))) else
  bif t == 52 then some (.sc .nilFunc) else
  bif t == 53 then some (.ar 53 (List.replicate 8 (.sc (.int .u32 0)))) else
  bif t == 54 then some (.sc (.int .u64 0)) else
  bif t == 55 then some (.sc (.int .u64 0)) else
  bif t == 56 then some (.sc .nilFunc) else
  bif t == 57 then some (.ar 57 (List.replicate 8 (.sc (.int .u32 0)))) else
  bif t == 58 then some (.sc .nilFunc) else
  bif t == 59 then some (.sc .nilFunc) else
  bif t == 60 then some (.sc .nilFunc) else
  bif t == 61 then some (.sc .nilFunc) else
  bif t == 62 then some (.sc .nilFunc) else
  bif t == 63 then some (.sc .nilFunc) else
  bif t == 64 then some (.sc .nilFunc) else
  bif t == 65 then some (.sc .nilFunc) else
  bif t == 66 then some (.sc .nilFunc) else
  bif t == 67 then some (.sc .nilFunc) else
  bif t == 68 then some (.sc .nilFunc) else
  bif t == 70 then some (.sc .nilFunc) else
  bif t == 71 then some (.sc .nilFunc) else
  bif t == 75 then some (.sc .nilFunc) else
  bif t == 79 then some (.sc .nilFunc) else
  bif t == 80 then some (.sc .nilFunc) else
  bif t == 81 then some (.sc .nilFunc) else
  bif t == 83 then some (.sc .nilFunc) else
  bif t == 85 then some (.sc .nilFunc) else
  bif t == 86 then some (.sc (.pointer none)) else
  bif t == 87 then some (.sc .nilFunc) else
  bif t == 90 then some (.sc .nilFunc) else
  none
noncomputable def tau : Tab := tabOf Try.prog tys zerT
theorem tabOk : TabOk tau Try.prog := tabOk_of (by kernel_rfl)
theorem mixed : Try.prog.follows .mixedOrders = true := by kernel_rfl
def F0 : Fns := fun _ => none
theorem F0_ok : FnsOk tau Try.prog F0 := fun g sg h => by cases h
end Go.Proofs.Ytodldmomneecpaa.Rx

/- What comitia/comitiaref2.words computes. Own work, printed by a program of the worker's own. -/
namespace Go.Proofs.Ytodldmomneecpaa.Rx
open Go
set_option linter.unusedVariables false
set_option maxRecDepth 100000
set_option maxHeartbeats 0
def N26 : Nat := 2
noncomputable def F26 : Fns := F0
theorem F26_ok : FnsOk tau Try.prog F26 := F0_ok
def an26 : An := (.seq .leaf (.seq .leaf .leaf))
def g26 (f : Nat)  (k : Res → Option Res) : Option Res :=
  k (Res.mk
    (PV.ar 51
      [PV.sc (Value.int IntKind.u32 1116352408), PV.sc (Value.int IntKind.u32 1899447441), PV.sc (Value.int IntKind.u32 3049323471), PV.sc (Value.int IntKind.u32 3921009573),
        PV.sc (Value.int IntKind.u32 961987163), PV.sc (Value.int IntKind.u32 1508970993), PV.sc (Value.int IntKind.u32 2453635748), PV.sc (Value.int IntKind.u32 2870763221),
        PV.sc (Value.int IntKind.u32 3624381080), PV.sc (Value.int IntKind.u32 310598401), PV.sc (Value.int IntKind.u32 607225278), PV.sc (Value.int IntKind.u32 1426881987),
        PV.sc (Value.int IntKind.u32 1925078388), PV.sc (Value.int IntKind.u32 2162078206), PV.sc (Value.int IntKind.u32 2614888103), PV.sc (Value.int IntKind.u32 3248222580),
        PV.sc (Value.int IntKind.u32 3835390401), PV.sc (Value.int IntKind.u32 4022224774), PV.sc (Value.int IntKind.u32 264347078), PV.sc (Value.int IntKind.u32 604807628),
        PV.sc (Value.int IntKind.u32 770255983), PV.sc (Value.int IntKind.u32 1249150122), PV.sc (Value.int IntKind.u32 1555081692), PV.sc (Value.int IntKind.u32 1996064986),
        PV.sc (Value.int IntKind.u32 2554220882), PV.sc (Value.int IntKind.u32 2821834349), PV.sc (Value.int IntKind.u32 2952996808), PV.sc (Value.int IntKind.u32 3210313671),
        PV.sc (Value.int IntKind.u32 3336571891), PV.sc (Value.int IntKind.u32 3584528711), PV.sc (Value.int IntKind.u32 113926993), PV.sc (Value.int IntKind.u32 338241895),
        PV.sc (Value.int IntKind.u32 666307205), PV.sc (Value.int IntKind.u32 773529912), PV.sc (Value.int IntKind.u32 1294757372), PV.sc (Value.int IntKind.u32 1396182291),
        PV.sc (Value.int IntKind.u32 1695183700), PV.sc (Value.int IntKind.u32 1986661051), PV.sc (Value.int IntKind.u32 2177026350), PV.sc (Value.int IntKind.u32 2456956037),
        PV.sc (Value.int IntKind.u32 2730485921), PV.sc (Value.int IntKind.u32 2820302411), PV.sc (Value.int IntKind.u32 3259730800), PV.sc (Value.int IntKind.u32 3345764771),
        PV.sc (Value.int IntKind.u32 3516065817), PV.sc (Value.int IntKind.u32 3600352804), PV.sc (Value.int IntKind.u32 4094571909), PV.sc (Value.int IntKind.u32 275423344),
        PV.sc (Value.int IntKind.u32 430227734), PV.sc (Value.int IntKind.u32 506948616), PV.sc (Value.int IntKind.u32 659060556), PV.sc (Value.int IntKind.u32 883997877),
        PV.sc (Value.int IntKind.u32 958139571), PV.sc (Value.int IntKind.u32 1322822218), PV.sc (Value.int IntKind.u32 1537002063), PV.sc (Value.int IntKind.u32 1747873779),
        PV.sc (Value.int IntKind.u32 1955562222), PV.sc (Value.int IntKind.u32 2024104815), PV.sc (Value.int IntKind.u32 2227730452), PV.sc (Value.int IntKind.u32 2361852424),
        PV.sc (Value.int IntKind.u32 2428436474), PV.sc (Value.int IntKind.u32 2756734187), PV.sc (Value.int IntKind.u32 3204031479), PV.sc (Value.int IntKind.u32 3329325298)])
    [] [])
theorem e26 (f : Nat)  (k : Res → Option Res) : evFn tau F26 Try.f26 (Try.f26.body.get!) an26 [] 0 [] [] k = g26 f  k := by kernel_rfl
theorem it26 (f : Nat) : items (Try.f26.body.get!) an26 = [] := by kernel_rfl
theorem ia26 (f : Nat) : ∀ q ∈ items (Try.f26.body.get!) an26, q.Ok tau Try.prog 0 := by
  rw [it26 f]; intro q hq; cases hq
theorem fo26 : Try.prog.funcs[26]? = some Try.f26 := by kernel_rfl
theorem bo26 : Try.f26.body = some (Try.f26.body.get!) := by kernel_rfl
theorem en26 : Enters Try.prog 26 := enters_of fo26 (by kernel_rfl) bo26
def run26 : List PV → List Ent → (Res → Option Res) → Option Res
  | [], [], k => g26 0  k
  | _, _, _ => none
def s26 : Sig := { own := [], run := run26 }
theorem ok26 : CallOk tau Try.prog 26 s26 := fn_ok tabOk F26_ok mixed fo26 bo26 an26 [] 0 [] run26 (ia26 0) fun xs es k res hr => by
  unfold run26 at hr
  split at hr
  · exact ⟨rfl, 0, (e26 0  _).trans hr⟩
  · cases hr
end Go.Proofs.Ytodldmomneecpaa.Rx

/- What math/bits.RotateLeft32 computes. Own work, printed by a program of the worker's own. -/
namespace Go.Proofs.Ytodldmomneecpaa.Rx
open Go
set_option linter.unusedVariables false
set_option maxRecDepth 100000
set_option maxHeartbeats 0
def N47 : Nat := 17
noncomputable def F47 : Fns := F0
theorem F47_ok : FnsOk tau Try.prog F47 := F0_ok
def an47 : An := (.seq .leaf (.seq .leaf (.seq .leaf .leaf)))
def g47 (f : Nat) (x : Int) (n : Int) (k : Res → Option Res) : Option Res :=
  bif decide (0 ≤ IntKind.u64.wrap (32 - bitI BinOp.and IntKind.u64 (IntKind.u64.wrap n) 31)) && true then
    k (Res.mk
      (PV.sc
        (Value.int IntKind.u32
          (bitI BinOp.or IntKind.u32 (shlI IntKind.u32 x (bitI BinOp.and IntKind.u64 (IntKind.u64.wrap n) 31))
            (shrI IntKind.u32 x (IntKind.u64.wrap (32 - bitI BinOp.and IntKind.u64 (IntKind.u64.wrap n) 31))))))
      [] [])
  else none
theorem e47 (f : Nat) (x : Int) (n : Int) (k : Res → Option Res) : evFn tau F47 Try.f47 (Try.f47.body.get!) an47 [] 0 [.sc (.int .u32 x), .sc (.int .i64 n)] [] k = g47 f x n k := by kernel_rfl
theorem it47 (f : Nat) : items (Try.f47.body.get!) an47 = [] := by kernel_rfl
theorem ia47 (f : Nat) : ∀ q ∈ items (Try.f47.body.get!) an47, q.Ok tau Try.prog 0 := by
  rw [it47 f]; intro q hq; cases hq
theorem fo47 : Try.prog.funcs[47]? = some Try.f47 := by kernel_rfl
theorem bo47 : Try.f47.body = some (Try.f47.body.get!) := by kernel_rfl
theorem en47 : Enters Try.prog 47 := enters_of fo47 (by kernel_rfl) bo47
def run47 : List PV → List Ent → (Res → Option Res) → Option Res
  | [.sc (.int .u32 x), .sc (.int .i64 n)], [], k => g47 0 x n k
  | _, _, _ => none
def s47 : Sig := { own := [], run := run47 }
theorem ok47 : CallOk tau Try.prog 47 s47 := fn_ok tabOk F47_ok mixed fo47 bo47 an47 [] 0 [] run47 (ia47 0) fun xs es k res hr => by
  unfold run47 at hr
  split at hr
  · exact ⟨rfl, 0, (e47 0 _ _  _).trans hr⟩
  · cases hr
end Go.Proofs.Ytodldmomneecpaa.Rx

/- What comitia/sha.right computes. Own work, printed by a program of the worker's own. -/
namespace Go.Proofs.Ytodldmomneecpaa.Rx
open Go
set_option linter.unusedVariables false
set_option maxRecDepth 100000
set_option maxHeartbeats 0
def N39 : Nat := 9
noncomputable def F39 : Fns := addF 47 s47 F0
theorem F39_ok : FnsOk tau Try.prog F39 := F0_ok.add ok47 en47
def an39 : An := (.seq .leaf (.seq .leaf .leaf))
def g39 (f : Nat) (x : Int) (n : Int) (k : Res → Option Res) : Option Res :=
  bif decide (0 ≤ IntKind.u64.wrap (32 - bitI BinOp.and IntKind.u64 (IntKind.u64.wrap (IntKind.i64.wrap (0 - n))) 31)) && true then
    k (Res.mk
      (PV.sc
        (Value.int IntKind.u32
          (bitI BinOp.or IntKind.u32 (shlI IntKind.u32 x (bitI BinOp.and IntKind.u64 (IntKind.u64.wrap (IntKind.i64.wrap (0 - n))) 31))
            (shrI IntKind.u32 x (IntKind.u64.wrap (32 - bitI BinOp.and IntKind.u64 (IntKind.u64.wrap (IntKind.i64.wrap (0 - n))) 31))))))
      [] [])
  else none
theorem e39 (f : Nat) (x : Int) (n : Int) (k : Res → Option Res) : evFn tau F39 Try.f39 (Try.f39.body.get!) an39 [] 0 [.sc (.int .u32 x), .sc (.int .i64 n)] [] k = g39 f x n k := by kernel_rfl
theorem it39 (f : Nat) : items (Try.f39.body.get!) an39 = [] := by kernel_rfl
theorem ia39 (f : Nat) : ∀ q ∈ items (Try.f39.body.get!) an39, q.Ok tau Try.prog 0 := by
  rw [it39 f]; intro q hq; cases hq
theorem fo39 : Try.prog.funcs[39]? = some Try.f39 := by kernel_rfl
theorem bo39 : Try.f39.body = some (Try.f39.body.get!) := by kernel_rfl
theorem en39 : Enters Try.prog 39 := enters_of fo39 (by kernel_rfl) bo39
def run39 : List PV → List Ent → (Res → Option Res) → Option Res
  | [.sc (.int .u32 x), .sc (.int .i64 n)], [], k => g39 0 x n k
  | _, _, _ => none
def s39 : Sig := { own := [], run := run39 }
theorem ok39 : CallOk tau Try.prog 39 s39 := fn_ok tabOk F39_ok mixed fo39 bo39 an39 [] 0 [] run39 (ia39 0) fun xs es k res hr => by
  unfold run39 at hr
  split at hr
  · exact ⟨rfl, 0, (e39 0 _ _  _).trans hr⟩
  · cases hr
end Go.Proofs.Ytodldmomneecpaa.Rx

/- What comitia/comitiaref2.rot computes. Own work, printed by a program of the worker's own. -/
namespace Go.Proofs.Ytodldmomneecpaa.Rx
open Go
set_option linter.unusedVariables false
set_option maxRecDepth 100000
set_option maxHeartbeats 0
def N27 : Nat := 13
noncomputable def F27 : Fns := F0
theorem F27_ok : FnsOk tau Try.prog F27 := F0_ok
def an27 : An := (.seq .leaf (.seq .leaf .leaf))
def g27 (f : Nat) (x : Int) (n : Int) (k : Res → Option Res) : Option Res :=
  bif decide (0 ≤ n) && true then
    bif decide (0 ≤ IntKind.u64.wrap (32 - n)) && true then
      k (Res.mk (PV.sc (Value.int IntKind.u32 (bitI BinOp.or IntKind.u32 (shrI IntKind.u32 x n) (shlI IntKind.u32 x (IntKind.u64.wrap (32 - n)))))) [] [])
    else none
  else none
theorem e27 (f : Nat) (x : Int) (n : Int) (k : Res → Option Res) : evFn tau F27 Try.f27 (Try.f27.body.get!) an27 [] 0 [.sc (.int .u32 x), .sc (.int .u64 n)] [] k = g27 f x n k := by kernel_rfl
theorem it27 (f : Nat) : items (Try.f27.body.get!) an27 = [] := by kernel_rfl
theorem ia27 (f : Nat) : ∀ q ∈ items (Try.f27.body.get!) an27, q.Ok tau Try.prog 0 := by
  rw [it27 f]; intro q hq; cases hq
theorem fo27 : Try.prog.funcs[27]? = some Try.f27 := by kernel_rfl
theorem bo27 : Try.f27.body = some (Try.f27.body.get!) := by kernel_rfl
theorem en27 : Enters Try.prog 27 := enters_of fo27 (by kernel_rfl) bo27
def run27 : List PV → List Ent → (Res → Option Res) → Option Res
  | [.sc (.int .u32 x), .sc (.int .u64 n)], [], k => g27 0 x n k
  | _, _, _ => none
def s27 : Sig := { own := [], run := run27 }
theorem ok27 : CallOk tau Try.prog 27 s27 := fn_ok tabOk F27_ok mixed fo27 bo27 an27 [] 0 [] run27 (ia27 0) fun xs es k res hr => by
  unfold run27 at hr
  split at hr
  · exact ⟨rfl, 0, (e27 0 _ _  _).trans hr⟩
  · cases hr
end Go.Proofs.Ytodldmomneecpaa.Rx

/- Words that are turned. Own work. -/
namespace Go.Proofs.Ytodldmomneecpaa.Rx
open Go
set_option linter.unusedVariables false
set_option maxRecDepth 100000
/-- a word turned to the right -/
def rr (x n : Int) : Int := bitI .or .u32 (shlI .u32 x (32 - n)) (shrI .u32 x n)
theorem bitI_or_comm (x y : Int) : bitI .or .u32 x y = bitI .or .u32 y x := by
  simp only [bitI]; rw [BitVec.or_comm]
theorem small {P : Int → Prop} (h : ∀ m : Nat, m < 31 → P ((m : Int) + 1)) (n : Int) (h1 : 1 ≤ n) (h2 : n ≤ 31) : P n := by
  have := h (n - 1).toNat (by omega)
  have he : (((n - 1).toNat : Nat) : Int) + 1 = n := by omega
  rwa [he] at this
def run39' : List PV → List Ent → (Res → Option Res) → Option Res
  | [.sc (.int .u32 x), .sc (.int .i64 n)], [], k => bif decide (1 ≤ n) && decide (n ≤ 31) then k ⟨.sc (.int .u32 (rr x n)), [], []⟩ else none
  | _, _, _ => none
def s39' : Sig := { own := [], run := run39' }
theorem g39_small (x : Int) (k : Res → Option Res) (n : Int) (h1 : 1 ≤ n) (h2 : n ≤ 31) : g39 0 x n k = k ⟨.sc (.int .u32 (rr x n)), [], []⟩ := by
  refine small (P := fun n => g39 0 x n k = k ⟨.sc (.int .u32 (rr x n)), [], []⟩) ?_ n h1 h2
  intro m hm
  iterate 31 (rcases m with _ | m; · kernel_rfl)
  omega
theorem ok39' : CallOk tau Try.prog 39 s39' := ok39.of fun xs es k res hr => by
  change run39' xs es k = some res at hr
  unfold run39' at hr
  split at hr
  · obtain ⟨hc, hr⟩ := of_bif hr
    simp only [Bool.and_eq_true, decide_eq_true_eq] at hc
    exact (g39_small _ _ _ hc.1 hc.2).trans hr
  · cases hr
def run27' : List PV → List Ent → (Res → Option Res) → Option Res
  | [.sc (.int .u32 x), .sc (.int .u64 n)], [], k => bif decide (1 ≤ n) && decide (n ≤ 31) then k ⟨.sc (.int .u32 (rr x n)), [], []⟩ else none
  | _, _, _ => none
def s27' : Sig := { own := [], run := run27' }
theorem g27_small (x : Int) (k : Res → Option Res) (n : Int) (h1 : 1 ≤ n) (h2 : n ≤ 31) : g27 0 x n k = k ⟨.sc (.int .u32 (rr x n)), [], []⟩ := by
  have hc : ∀ n, rr x n = bitI .or .u32 (shrI .u32 x n) (shlI .u32 x (32 - n)) := fun n => bitI_or_comm _ _
  rw [hc]
  refine small (P := fun n => g27 0 x n k = k ⟨.sc (.int .u32 (bitI .or .u32 (shrI .u32 x n) (shlI .u32 x (32 - n)))), [], []⟩) ?_ n h1 h2
  intro m hm
  iterate 31 (rcases m with _ | m; · kernel_rfl)
  omega
theorem ok27' : CallOk tau Try.prog 27 s27' := ok27.of fun xs es k res hr => by
  change run27' xs es k = some res at hr
  unfold run27' at hr
  split at hr
  · obtain ⟨hc, hr⟩ := of_bif hr
    simp only [Bool.and_eq_true, decide_eq_true_eq] at hc
    exact (g27_small _ _ _ hc.1 hc.2).trans hr
  · cases hr
end Go.Proofs.Ytodldmomneecpaa.Rx

/- What comitia/comitiaref2.Sum computes. Own work, printed by a program of the worker's own. -/
namespace Go.Proofs.Ytodldmomneecpaa.Rx
open Go
set_option linter.unusedVariables false
set_option maxRecDepth 100000
set_option maxHeartbeats 0
def N17 : Nat := 278
noncomputable def F17 : Fns := addF 26 s26 (addF 27 s27' F0)
theorem F17_ok : FnsOk tau Try.prog F17 := (F0_ok.add ok27' en27).add ok26 en26
noncomputable def c17_0 : Code := subC (Try.f17.body.get!) [1, 1, 1, 1, 1, 0, 0, 0]
def nm17_0 : Nm := [(0, .any), (2, .any), (3, .any), (4, .any), (5, .any)]
def nx17_0 : Nm := [(0, .any), (2, .any), (3, .any), (4, .any), (5, .any)]
def x17_0 : An := (.seq (.seq .leaf (.cond .leaf .leaf)) (.block none .leaf))
noncomputable def c17_1 : Code := subC (Try.f17.body.get!) [1, 1, 1, 1, 1, 1, 1, 0, 1, 0, 0]
def nm17_1 : Nm := [(2, .any), (3, .any), (4, .any), (5, .any), (6, .any), (7, .any)]
def nx17_1 : Nm := [(2, .any), (3, .any), (4, .any), (5, .any)]
def x17_1 : An := (.seq (.seq .leaf (.cond .leaf .leaf)) (.seq (.block none .leaf) .leaf))
noncomputable def c17_3 : Code := subC (Try.f17.body.get!) [1, 1, 1, 1, 1, 1, 1, 1, 1, 0, 1, 0, 0, 1, 0, 0, 0, 1, 0, 0]
def nm17_3 : Nm := [(2, .any), (3, .any), (4, .any), (5, .any), (8, .any), (9, .any), (10, .any)]
def nx17_3 : Nm := [(2, .any), (3, .any), (4, .any), (5, .any), (8, .any), (9, .any)]
def x17_3 : An := (.seq (.seq .leaf (.cond .leaf .leaf)) (.seq (.block none (.seq .leaf .leaf)) .leaf))
noncomputable def c17_4 : Code := subC (Try.f17.body.get!) [1, 1, 1, 1, 1, 1, 1, 1, 1, 0, 1, 0, 0, 1, 0, 0, 1, 0, 1, 0, 0]
def nm17_4 : Nm := [(2, .any), (3, .any), (4, .any), (5, .any), (8, .any), (9, .any), (12, .any)]
def nx17_4 : Nm := [(2, .any), (3, .any), (4, .any), (5, .any), (8, .any), (9, .any)]
def x17_4 : An := (.seq (.seq .leaf (.cond .leaf .leaf)) (.seq (.block none (.seq .leaf .leaf)) .leaf))
noncomputable def c17_5 : Code := subC (Try.f17.body.get!) [1, 1, 1, 1, 1, 1, 1, 1, 1, 0, 1, 0, 0, 1, 0, 0, 1, 1, 1, 0, 1, 0, 0]
def nm17_5 : Nm := [(2, .any), (3, .any), (4, .any), (5, .any), (8, .any), (9, .any), (15, .any), (16, .any)]
def nx17_5 : Nm := [(2, .any), (3, .any), (4, .any), (5, .any), (8, .any), (9, .any), (15, .any)]
def x17_5 : An := (.seq (.seq .leaf (.cond .leaf .leaf)) (.seq (.block none (.seq .leaf (.seq .leaf (.seq .leaf .leaf)))) .leaf))
noncomputable def c17_6 : Code := subC (Try.f17.body.get!) [1, 1, 1, 1, 1, 1, 1, 1, 1, 0, 1, 0, 0, 1, 0, 0, 1, 1, 1, 1, 1, 0, 0]
def nm17_6 : Nm := [(2, .any), (3, .any), (4, .any), (5, .any), (8, .any), (9, .any), (15, .any), (20, .any)]
def nx17_6 : Nm := [(2, .any), (3, .any), (4, .any), (5, .any), (8, .any), (9, .any)]
def x17_6 : An := (.seq (.seq .leaf (.cond .leaf .leaf)) (.seq (.block none .leaf) .leaf))
noncomputable def c17_2 : Code := subC (Try.f17.body.get!) [1, 1, 1, 1, 1, 1, 1, 1, 1, 0, 1, 0, 0]
def nm17_2 : Nm := [(2, .any), (3, .any), (4, .any), (5, .any), (8, .any), (9, .any)]
def nx17_2 : Nm := [(2, .any), (4, .any)]
def x17_2 (r3 : RunL) (r4 : RunL) (r5 : RunL) (r6 : RunL) : An := (.seq (.seq .leaf (.cond .leaf .leaf)) (.seq (.block none (.seq (.seq .leaf (.block none (.sum nm17_3 N17 r3))) (.seq (.seq .leaf (.block none (.sum nm17_4 N17 r4))) (.seq .leaf (.seq (.seq .leaf (.block none (.sum nm17_5 N17 r5))) (.seq .leaf (.block none (.sum nm17_6 N17 r6)))))))) .leaf))
noncomputable def c17_7 : Code := subC (Try.f17.body.get!) [1, 1, 1, 1, 1, 1, 1, 1, 1, 1, 1, 0, 1, 0, 0]
def nm17_7 : Nm := [(2, .any), (4, .any), (21, .any), (22, .any)]
def nx17_7 : Nm := [(2, .any), (21, .any)]
def x17_7 : An := (.seq (.seq .leaf (.cond .leaf .leaf)) (.seq (.block none .leaf) .leaf))
def an17 (r0 : RunL) (r1 : RunL) (r2 : RunL) (r7 : RunL) : An := (.seq .leaf (.seq .leaf (.seq .leaf (.seq .leaf (.seq .leaf (.seq (.block none (.sum nm17_0 N17 r0)) (.seq .leaf (.seq (.seq .leaf (.block none (.sum nm17_1 N17 r1))) (.seq .leaf (.seq (.seq .leaf (.block none (.sum nm17_2 N17 r2))) (.seq .leaf (.seq (.seq .leaf (.block none (.sum nm17_7 N17 r7))) (.seq .leaf .leaf)))))))))))))
def lpS17_0 (f : Nat) (rc : Bool → Bool → List
  PV → Nat → List
  PV → List
  PV → List
  PV → List
  PV → Option Res) (k0 : Bool → Bool → List
  PV → Nat → List PV → List PV → List PV → List PV → Option Res) (v0 : Bool) (v1 : Bool) (v2 : List PV) (v3 : Nat) (v4 : List PV) (v5 : List PV) (v6 : List PV) (v7 : List PV) : Option Res :=
  bif (zi v3).tmod 64 != 56 then
    bif roomy (v3 + 1) 1 && true then
      rc v0 v1 v2 (v3 + 1) v4 v5 v6 (List.take v3 v7 ++ [PV.sc (Value.int IntKind.u8 0)])
    else none
  else k0 v0 v1 v2 v3 v4 v5 v6 v7
def lp17_0 (f : Nat) (k0 : Bool → Bool → List PV → Nat → List PV → List PV → List PV → List PV → Option Res) : Nat → Bool → Bool → List PV → Nat → List PV → List PV → List PV → List PV → Option Res
  | 0, _, _, _, _, _, _, _, _ => none
  | n + 1, v0, v1, v2, v3, v4, v5, v6, v7 => lpS17_0 f (lp17_0 f k0 n) k0 v0 v1 v2 v3 v4 v5 v6 v7
theorem lpR17_0 (f : Nat) (k : Kont) (n : Nat) (v0 : Bool) (v1 : Bool) (v2 : List
  PV) (v3 : Nat) (v4 : List
  PV) (v5 : List
  PV) (v6 : List
  PV) (v7 : List
  PV) : evLoop tau 0 nm17_0 (fun s k => ev tau F17 0 0 c17_0 (x17_0 ) s k) (n + 1) (fillS nm17_0 N17 [PV.ro 5 v0 v1 v2, PV.ptr 4464 [], PV.ptr 4465 [], PV.ptr 4466 [],
  PV.ow 5 4467 [] 0 v3
    none] [(4464, Ent.box false 26 (PV.ar 26 v4)), (4465, Ent.box false 51 (PV.ar 51 v5)), (4466, Ent.box false 53 (PV.ar 53 v6)),
  (4467,
    Ent.vec false 5 false
      v7)]) (kNorm tau 0 nx17_0 k) = lpS17_0 f (fun v0 v1 v2 v3 v4 v5 v6 v7 => evLoop tau 0 nm17_0 (fun s k => ev tau F17 0 0 c17_0 (x17_0 ) s k) n (fillS nm17_0 N17 [PV.ro 5 v0 v1 v2,
  PV.ptr 4464 [], PV.ptr 4465 [], PV.ptr 4466 [],
  PV.ow 5 4467 [] 0 v3
    none] [(4464, Ent.box false 26 (PV.ar 26 v4)), (4465, Ent.box false 51 (PV.ar 51 v5)), (4466, Ent.box false 53 (PV.ar 53 v6)),
  (4467,
    Ent.vec false 5 false
      v7)]) (kNorm tau 0 nx17_0 k)) (fun x0 x1 x2 x3 x4 x5 x6 x7 => k (Ex.exit
  0) (fillS nx17_0 N17 [PV.ro 5 x0 x1 x2, PV.ptr 4464 [], PV.ptr 4465 [], PV.ptr 4466 [],
  PV.ow 5 4467 [] 0 x3
    none] [(4464, Ent.box false 26 (PV.ar 26 x4)), (4465, Ent.box false 51 (PV.ar 51 x5)), (4466, Ent.box false 53 (PV.ar 53 x6)),
  (4467, Ent.vec false 5 false x7)])) v0 v1 v2 v3 v4 v5 v6 v7 := by kernel_rfl
theorem lpE17_0 (f : Nat) (k : Kont) : ∀ (n : Nat) (v0 : Bool) (v1 : Bool) (v2 : List
  PV) (v3 : Nat) (v4 : List
  PV) (v5 : List
  PV) (v6 : List
  PV) (v7 : List
  PV), evLoop tau 0 nm17_0 (fun s k => ev tau F17 0 0 c17_0 (x17_0 ) s k) n (fillS nm17_0 N17 [PV.ro 5 v0 v1 v2, PV.ptr 4464 [], PV.ptr 4465 [], PV.ptr 4466 [],
  PV.ow 5 4467 [] 0 v3
    none] [(4464, Ent.box false 26 (PV.ar 26 v4)), (4465, Ent.box false 51 (PV.ar 51 v5)), (4466, Ent.box false 53 (PV.ar 53 v6)),
  (4467,
    Ent.vec false 5 false
      v7)]) (kNorm tau 0 nx17_0 k) = lp17_0 f (fun x0 x1 x2 x3 x4 x5 x6 x7 => k (Ex.exit
  0) (fillS nx17_0 N17 [PV.ro 5 x0 x1 x2, PV.ptr 4464 [], PV.ptr 4465 [], PV.ptr 4466 [],
  PV.ow 5 4467 [] 0 x3
    none] [(4464, Ent.box false 26 (PV.ar 26 x4)), (4465, Ent.box false 51 (PV.ar 51 x5)), (4466, Ent.box false 53 (PV.ar 53 x6)), (4467, Ent.vec false 5 false x7)])) n v0 v1 v2 v3 v4 v5 v6 v7
  | 0, _, _, _, _, _, _, _, _ => rfl
  | n + 1, v0, v1, v2, v3, v4, v5, v6, v7 => (lpR17_0 f k n v0 v1 v2 v3 v4 v5 v6 v7).trans (congrArg (fun r => lpS17_0 f r (fun x0 x1 x2 x3 x4 x5 x6 x7 => k (Ex.exit
  0) (fillS nx17_0 N17 [PV.ro 5 x0 x1 x2, PV.ptr 4464 [], PV.ptr 4465 [], PV.ptr 4466 [],
  PV.ow 5 4467 [] 0 x3
    none] [(4464, Ent.box false 26 (PV.ar 26 x4)), (4465, Ent.box false 51 (PV.ar 51 x5)), (4466, Ent.box false 53 (PV.ar 53 x6)),
  (4467, Ent.vec false 5 false x7)])) v0 v1 v2 v3 v4 v5 v6 v7) (by funext v0 v1 v2 v3 v4 v5 v6 v7; exact lpE17_0 f k n v0 v1 v2 v3 v4 v5 v6 v7))
def r17_0 (f : Nat) : List PV → List (Nat × Ent) → Kont → Option Res
  | [PV.ro 5 v0 v1 v2, PV.ptr 4464 [], PV.ptr 4465 [], PV.ptr 4466 [],
  PV.ow 5 4467 [] 0 v3
    none], [(4464, Ent.box false 26 (PV.ar 26 v4)), (4465, Ent.box false 51 (PV.ar 51 v5)), (4466, Ent.box false 53 (PV.ar 53 v6)),
  (4467,
    Ent.vec false 5 false
      v7)], k => lp17_0 f (fun x0 x1 x2 x3 x4 x5 x6 x7 => k (Ex.exit
  0) (fillS nx17_0 N17 [PV.ro 5 x0 x1 x2, PV.ptr 4464 [], PV.ptr 4465 [], PV.ptr 4466 [],
  PV.ow 5 4467 [] 0 x3
    none] [(4464, Ent.box false 26 (PV.ar 26 x4)), (4465, Ent.box false 51 (PV.ar 51 x5)), (4466, Ent.box false 53 (PV.ar 53 x6)), (4467, Ent.vec false 5 false x7)])) f v0 v1 v2 v3 v4 v5 v6 v7
  | _, _, _ => none
theorem it17_0 (f : Nat) : items c17_0 x17_0 = [] := by kernel_rfl
theorem i17_0 (f : Nat) : (Item.l c17_0 nm17_0 N17 (r17_0 f)).Ok tau Try.prog 0 := loop_item tabOk F17_ok mixed (x := x17_0) (nm2 := nx17_0) (anOk_items _ _ (by rw [it17_0 f]; intro q hq; cases hq)) fun vs hp k res hr => by
  unfold r17_0 at hr
  split at hr
  · exact ⟨f, 0, (lpE17_0 f _ f _ _ _ _ _ _ _ _ ).trans hr⟩
  · cases hr
def lpS17_1 (f : Nat) (rc : Nat → Int → Int → List
  PV → List
  PV → List
  PV → List
  PV → Option Res) (k0 : Nat → List PV → List PV → List PV → List PV → Option Res) (v0 : Nat) (v1 : Int) (v2 : Int) (v3 : List PV) (v4 : List PV) (v5 : List PV) (v6 : List PV) : Option Res :=
  bif decide (v2 ≥ 0) then
    bif decide (0 ≤ IntKind.u64.wrap (8 * IntKind.u64.wrap v2)) && true then
      bif roomy (v0 + 1) 1 && true then
        rc (v0 + 1) v1 (IntKind.i64.wrap (v2 - 1)) v3 v4 v5 (List.take v0 v6 ++ [PV.sc (Value.int IntKind.u8 (IntKind.u8.wrap (shrI IntKind.u64 v1 (IntKind.u64.wrap (8 * IntKind.u64.wrap v2)))))])
      else none
    else none
  else k0 v0 v3 v4 v5 v6
def lp17_1 (f : Nat) (k0 : Nat → List PV → List PV → List PV → List PV → Option Res) : Nat → Nat → Int → Int → List PV → List PV → List PV → List PV → Option Res
  | 0, _, _, _, _, _, _, _ => none
  | n + 1, v0, v1, v2, v3, v4, v5, v6 => lpS17_1 f (lp17_1 f k0 n) k0 v0 v1 v2 v3 v4 v5 v6
theorem lpR17_1 (f : Nat) (k : Kont) (n : Nat) (v0 : Nat) (v1 : Int) (v2 : Int) (v3 : List
  PV) (v4 : List
  PV) (v5 : List
  PV) (v6 : List
  PV) : evLoop tau 0 nm17_1 (fun s k => ev tau F17 0 0 c17_1 (x17_1 ) s k) (n + 1) (fillS nm17_1 N17 [PV.ptr 4464 [], PV.ptr 4465 [], PV.ptr 4466 [], PV.ow 5 4467 [] 0 v0 none,
  PV.sc (Value.int IntKind.u64 v1),
  PV.sc
    (Value.int IntKind.i64
      v2)] [(4464, Ent.box false 26 (PV.ar 26 v3)), (4465, Ent.box false 51 (PV.ar 51 v4)), (4466, Ent.box false 53 (PV.ar 53 v5)),
  (4467,
    Ent.vec false 5 false
      v6)]) (kNorm tau 0 nx17_1 k) = lpS17_1 f (fun v0 v1 v2 v3 v4 v5 v6 => evLoop tau 0 nm17_1 (fun s k => ev tau F17 0 0 c17_1 (x17_1 ) s k) n (fillS nm17_1 N17 [PV.ptr 4464 [], PV.ptr 4465 [],
  PV.ptr 4466 [], PV.ow 5 4467 [] 0 v0 none, PV.sc (Value.int IntKind.u64 v1),
  PV.sc
    (Value.int IntKind.i64
      v2)] [(4464, Ent.box false 26 (PV.ar 26 v3)), (4465, Ent.box false 51 (PV.ar 51 v4)), (4466, Ent.box false 53 (PV.ar 53 v5)),
  (4467,
    Ent.vec false 5 false
      v6)]) (kNorm tau 0 nx17_1 k)) (fun x0 x1 x2 x3 x4 => k (Ex.exit
  2) (fillS nx17_1 N17 [PV.ptr 4464 [], PV.ptr 4465 [], PV.ptr 4466 [],
  PV.ow 5 4467 [] 0 x0
    none] [(4464, Ent.box false 26 (PV.ar 26 x1)), (4465, Ent.box false 51 (PV.ar 51 x2)), (4466, Ent.box false 53 (PV.ar 53 x3)),
  (4467, Ent.vec false 5 false x4)])) v0 v1 v2 v3 v4 v5 v6 := by kernel_rfl
theorem lpE17_1 (f : Nat) (k : Kont) : ∀ (n : Nat) (v0 : Nat) (v1 : Int) (v2 : Int) (v3 : List
  PV) (v4 : List
  PV) (v5 : List
  PV) (v6 : List
  PV), evLoop tau 0 nm17_1 (fun s k => ev tau F17 0 0 c17_1 (x17_1 ) s k) n (fillS nm17_1 N17 [PV.ptr 4464 [], PV.ptr 4465 [], PV.ptr 4466 [], PV.ow 5 4467 [] 0 v0 none,
  PV.sc (Value.int IntKind.u64 v1),
  PV.sc
    (Value.int IntKind.i64
      v2)] [(4464, Ent.box false 26 (PV.ar 26 v3)), (4465, Ent.box false 51 (PV.ar 51 v4)), (4466, Ent.box false 53 (PV.ar 53 v5)),
  (4467,
    Ent.vec false 5 false
      v6)]) (kNorm tau 0 nx17_1 k) = lp17_1 f (fun x0 x1 x2 x3 x4 => k (Ex.exit
  2) (fillS nx17_1 N17 [PV.ptr 4464 [], PV.ptr 4465 [], PV.ptr 4466 [],
  PV.ow 5 4467 [] 0 x0
    none] [(4464, Ent.box false 26 (PV.ar 26 x1)), (4465, Ent.box false 51 (PV.ar 51 x2)), (4466, Ent.box false 53 (PV.ar 53 x3)), (4467, Ent.vec false 5 false x4)])) n v0 v1 v2 v3 v4 v5 v6
  | 0, _, _, _, _, _, _, _ => rfl
  | n + 1, v0, v1, v2, v3, v4, v5, v6 => (lpR17_1 f k n v0 v1 v2 v3 v4 v5 v6).trans (congrArg (fun r => lpS17_1 f r (fun x0 x1 x2 x3 x4 => k (Ex.exit
  2) (fillS nx17_1 N17 [PV.ptr 4464 [], PV.ptr 4465 [], PV.ptr 4466 [],
  PV.ow 5 4467 [] 0 x0
    none] [(4464, Ent.box false 26 (PV.ar 26 x1)), (4465, Ent.box false 51 (PV.ar 51 x2)), (4466, Ent.box false 53 (PV.ar 53 x3)),
  (4467, Ent.vec false 5 false x4)])) v0 v1 v2 v3 v4 v5 v6) (by funext v0 v1 v2 v3 v4 v5 v6; exact lpE17_1 f k n v0 v1 v2 v3 v4 v5 v6))
def r17_1 (f : Nat) : List PV → List (Nat × Ent) → Kont → Option Res
  | [PV.ptr 4464 [], PV.ptr 4465 [], PV.ptr 4466 [], PV.ow 5 4467 [] 0 v0 none, PV.sc (Value.int IntKind.u64 v1),
  PV.sc
    (Value.int IntKind.i64
      v2)], [(4464, Ent.box false 26 (PV.ar 26 v3)), (4465, Ent.box false 51 (PV.ar 51 v4)), (4466, Ent.box false 53 (PV.ar 53 v5)),
  (4467,
    Ent.vec false 5 false
      v6)], k => lp17_1 f (fun x0 x1 x2 x3 x4 => k (Ex.exit
  2) (fillS nx17_1 N17 [PV.ptr 4464 [], PV.ptr 4465 [], PV.ptr 4466 [],
  PV.ow 5 4467 [] 0 x0
    none] [(4464, Ent.box false 26 (PV.ar 26 x1)), (4465, Ent.box false 51 (PV.ar 51 x2)), (4466, Ent.box false 53 (PV.ar 53 x3)), (4467, Ent.vec false 5 false x4)])) f v0 v1 v2 v3 v4 v5 v6
  | _, _, _ => none
theorem it17_1 (f : Nat) : items c17_1 x17_1 = [] := by kernel_rfl
theorem i17_1 (f : Nat) : (Item.l c17_1 nm17_1 N17 (r17_1 f)).Ok tau Try.prog 0 := loop_item tabOk F17_ok mixed (x := x17_1) (nm2 := nx17_1) (anOk_items _ _ (by rw [it17_1 f]; intro q hq; cases hq)) fun vs hp k res hr => by
  unfold r17_1 at hr
  split at hr
  · exact ⟨f, 0, (lpE17_1 f _ f _ _ _ _ _ _ _ ).trans hr⟩
  · cases hr
def lpS17_3 (f : Nat) (rc : Nat → Int → Int → List
  PV → List
  PV → List
  PV → List
  PV → List
  PV → Option Res) (k0 : Nat → Int → List
  PV → List PV → List PV → List PV → List PV → Option Res) (v0 : Nat) (v1 : Int) (v2 : Int) (v3 : List PV) (v4 : List PV) (v5 : List PV) (v6 : List PV) (v7 : List PV) : Option Res :=
  bif decide (v2 < 16) then
    bif decide (0 ≤ IntKind.i64.wrap (v1 + IntKind.i64.wrap (4 * v2))) && decide (IntKind.i64.wrap (v1 + IntKind.i64.wrap (4 * v2)) < zi v0) && true then
      bif PV.isInt IntKind.u8 (getP (v6.getD (0 + (IntKind.i64.wrap (v1 + IntKind.i64.wrap (4 * v2))).toNat) PV.top) []) && true then
        bif decide (0 ≤ IntKind.i64.wrap (IntKind.i64.wrap (v1 + IntKind.i64.wrap (4 * v2)) + 1)) && decide (IntKind.i64.wrap (IntKind.i64.wrap (v1 + IntKind.i64.wrap (4 * v2)) + 1) < zi v0) &&
          true then
          bif PV.isInt IntKind.u8 (getP (v6.getD (0 + (IntKind.i64.wrap (IntKind.i64.wrap (v1 + IntKind.i64.wrap (4 * v2)) + 1)).toNat) PV.top) []) && true then
            bif decide (0 ≤ IntKind.i64.wrap (IntKind.i64.wrap (v1 + IntKind.i64.wrap (4 * v2)) + 2)) && decide (IntKind.i64.wrap (IntKind.i64.wrap (v1 + IntKind.i64.wrap (4 * v2)) + 2) < zi v0) &&
              true then
              bif PV.isInt IntKind.u8 (getP (v6.getD (0 + (IntKind.i64.wrap (IntKind.i64.wrap (v1 + IntKind.i64.wrap (4 * v2)) + 2)).toNat) PV.top) []) && true then
                bif decide (0 ≤ IntKind.i64.wrap (IntKind.i64.wrap (v1 + IntKind.i64.wrap (4 * v2)) + 3)) &&
                    decide (IntKind.i64.wrap (IntKind.i64.wrap (v1 + IntKind.i64.wrap (4 * v2)) + 3) < zi v0) &&
                  true then
                  bif PV.isInt IntKind.u8 (getP (v6.getD (0 + (IntKind.i64.wrap (IntKind.i64.wrap (v1 + IntKind.i64.wrap (4 * v2)) + 3)).toNat) PV.top) []) && true then
                    bif decide (0 ≤ v2) && decide (v2 < zi 64) && true then
                      rc v0 v1 (IntKind.i64.wrap
                        (v2 +
                          1)) v3 v4 v5 v6 (v7.set v2.toNat
                        (PV.sc
                          (Value.int IntKind.u32
                            (bitI BinOp.or IntKind.u32
                              (bitI BinOp.or IntKind.u32
                                (bitI BinOp.or IntKind.u32 (shlI IntKind.u32 (IntKind.u32.wrap (getP (v6.getD (0 + (IntKind.i64.wrap (v1 + IntKind.i64.wrap (4 * v2))).toNat) PV.top) []).int) 24)
                                  (shlI IntKind.u32 (IntKind.u32.wrap (getP (v6.getD (0 + (IntKind.i64.wrap (IntKind.i64.wrap (v1 + IntKind.i64.wrap (4 * v2)) + 1)).toNat) PV.top) []).int) 16))
                                (shlI IntKind.u32 (IntKind.u32.wrap (getP (v6.getD (0 + (IntKind.i64.wrap (IntKind.i64.wrap (v1 + IntKind.i64.wrap (4 * v2)) + 2)).toNat) PV.top) []).int) 8))
                              (IntKind.u32.wrap (getP (v6.getD (0 + (IntKind.i64.wrap (IntKind.i64.wrap (v1 + IntKind.i64.wrap (4 * v2)) + 3)).toNat) PV.top) []).int)))))
                    else none
                  else none
                else none
              else none
            else none
          else none
        else none
      else none
    else none
  else k0 v0 v1 v3 v4 v5 v6 v7
def lp17_3 (f : Nat) (k0 : Nat → Int → List PV → List PV → List PV → List PV → List PV → Option Res) : Nat → Nat → Int → Int → List PV → List PV → List PV → List PV → List PV → Option Res
  | 0, _, _, _, _, _, _, _, _ => none
  | n + 1, v0, v1, v2, v3, v4, v5, v6, v7 => lpS17_3 f (lp17_3 f k0 n) k0 v0 v1 v2 v3 v4 v5 v6 v7
theorem lpR17_3 (f : Nat) (k : Kont) (n : Nat) (v0 : Nat) (v1 : Int) (v2 : Int) (v3 : List
  PV) (v4 : List
  PV) (v5 : List
  PV) (v6 : List
  PV) (v7 : List
  PV) : evLoop tau 0 nm17_3 (fun s k => ev tau F17 0 0 c17_3 (x17_3 ) s k) (n + 1) (fillS nm17_3 N17 [PV.ptr 4464 [], PV.ptr 4465 [], PV.ptr 4466 [], PV.ow 5 4467 [] 0 v0 none, PV.ptr 4468 [],
  PV.sc (Value.int IntKind.i64 v1),
  PV.sc
    (Value.int IntKind.i64
      v2)] [(4464, Ent.box false 26 (PV.ar 26 v3)), (4465, Ent.box false 51 (PV.ar 51 v4)), (4466, Ent.box false 53 (PV.ar 53 v5)), (4467, Ent.vec false 5 false v6),
  (4468,
    Ent.box false 51
      (PV.ar 51
        v7))]) (kNorm tau 0 nx17_3 k) = lpS17_3 f (fun v0 v1 v2 v3 v4 v5 v6 v7 => evLoop tau 0 nm17_3 (fun s k => ev tau F17 0 0 c17_3 (x17_3 ) s k) n (fillS nm17_3 N17 [PV.ptr 4464 [],
  PV.ptr 4465 [], PV.ptr 4466 [], PV.ow 5 4467 [] 0 v0 none, PV.ptr 4468 [], PV.sc (Value.int IntKind.i64 v1),
  PV.sc
    (Value.int IntKind.i64
      v2)] [(4464, Ent.box false 26 (PV.ar 26 v3)), (4465, Ent.box false 51 (PV.ar 51 v4)), (4466, Ent.box false 53 (PV.ar 53 v5)), (4467, Ent.vec false 5 false v6),
  (4468,
    Ent.box false 51
      (PV.ar 51
        v7))]) (kNorm tau 0 nx17_3 k)) (fun x0 x1 x2 x3 x4 x5 x6 => k (Ex.exit
  6) (fillS nx17_3 N17 [PV.ptr 4464 [], PV.ptr 4465 [], PV.ptr 4466 [], PV.ow 5 4467 [] 0 x0 none, PV.ptr 4468 [],
  PV.sc
    (Value.int IntKind.i64
      x1)] [(4464, Ent.box false 26 (PV.ar 26 x2)), (4465, Ent.box false 51 (PV.ar 51 x3)), (4466, Ent.box false 53 (PV.ar 53 x4)), (4467, Ent.vec false 5 false x5),
  (4468, Ent.box false 51 (PV.ar 51 x6))])) v0 v1 v2 v3 v4 v5 v6 v7 := by kernel_rfl
theorem lpE17_3 (f : Nat) (k : Kont) : ∀ (n : Nat) (v0 : Nat) (v1 : Int) (v2 : Int) (v3 : List
  PV) (v4 : List
  PV) (v5 : List
  PV) (v6 : List
  PV) (v7 : List
  PV), evLoop tau 0 nm17_3 (fun s k => ev tau F17 0 0 c17_3 (x17_3 ) s k) n (fillS nm17_3 N17 [PV.ptr 4464 [], PV.ptr 4465 [], PV.ptr 4466 [], PV.ow 5 4467 [] 0 v0 none, PV.ptr 4468 [],
  PV.sc (Value.int IntKind.i64 v1),
  PV.sc
    (Value.int IntKind.i64
      v2)] [(4464, Ent.box false 26 (PV.ar 26 v3)), (4465, Ent.box false 51 (PV.ar 51 v4)), (4466, Ent.box false 53 (PV.ar 53 v5)), (4467, Ent.vec false 5 false v6),
  (4468,
    Ent.box false 51
      (PV.ar 51
        v7))]) (kNorm tau 0 nx17_3 k) = lp17_3 f (fun x0 x1 x2 x3 x4 x5 x6 => k (Ex.exit
  6) (fillS nx17_3 N17 [PV.ptr 4464 [], PV.ptr 4465 [], PV.ptr 4466 [], PV.ow 5 4467 [] 0 x0 none, PV.ptr 4468 [],
  PV.sc
    (Value.int IntKind.i64
      x1)] [(4464, Ent.box false 26 (PV.ar 26 x2)), (4465, Ent.box false 51 (PV.ar 51 x3)), (4466, Ent.box false 53 (PV.ar 53 x4)), (4467, Ent.vec false 5 false x5),
  (4468, Ent.box false 51 (PV.ar 51 x6))])) n v0 v1 v2 v3 v4 v5 v6 v7
  | 0, _, _, _, _, _, _, _, _ => rfl
  | n + 1, v0, v1, v2, v3, v4, v5, v6, v7 => (lpR17_3 f k n v0 v1 v2 v3 v4 v5 v6 v7).trans (congrArg (fun r => lpS17_3 f r (fun x0 x1 x2 x3 x4 x5 x6 => k (Ex.exit
  6) (fillS nx17_3 N17 [PV.ptr 4464 [], PV.ptr 4465 [], PV.ptr 4466 [], PV.ow 5 4467 [] 0 x0 none, PV.ptr 4468 [],
  PV.sc
    (Value.int IntKind.i64
      x1)] [(4464, Ent.box false 26 (PV.ar 26 x2)), (4465, Ent.box false 51 (PV.ar 51 x3)), (4466, Ent.box false 53 (PV.ar 53 x4)), (4467, Ent.vec false 5 false x5),
  (4468, Ent.box false 51 (PV.ar 51 x6))])) v0 v1 v2 v3 v4 v5 v6 v7) (by funext v0 v1 v2 v3 v4 v5 v6 v7; exact lpE17_3 f k n v0 v1 v2 v3 v4 v5 v6 v7))
def r17_3 (f : Nat) : List PV → List (Nat × Ent) → Kont → Option Res
  | [PV.ptr 4464 [], PV.ptr 4465 [], PV.ptr 4466 [], PV.ow 5 4467 [] 0 v0 none, PV.ptr 4468 [], PV.sc (Value.int IntKind.i64 v1),
  PV.sc
    (Value.int IntKind.i64
      v2)], [(4464, Ent.box false 26 (PV.ar 26 v3)), (4465, Ent.box false 51 (PV.ar 51 v4)), (4466, Ent.box false 53 (PV.ar 53 v5)), (4467, Ent.vec false 5 false v6),
  (4468,
    Ent.box false 51
      (PV.ar 51
        v7))], k => lp17_3 f (fun x0 x1 x2 x3 x4 x5 x6 => k (Ex.exit
  6) (fillS nx17_3 N17 [PV.ptr 4464 [], PV.ptr 4465 [], PV.ptr 4466 [], PV.ow 5 4467 [] 0 x0 none, PV.ptr 4468 [],
  PV.sc
    (Value.int IntKind.i64
      x1)] [(4464, Ent.box false 26 (PV.ar 26 x2)), (4465, Ent.box false 51 (PV.ar 51 x3)), (4466, Ent.box false 53 (PV.ar 53 x4)), (4467, Ent.vec false 5 false x5),
  (4468, Ent.box false 51 (PV.ar 51 x6))])) f v0 v1 v2 v3 v4 v5 v6 v7
  | _, _, _ => none
theorem it17_3 (f : Nat) : items c17_3 x17_3 = [] := by kernel_rfl
theorem i17_3 (f : Nat) : (Item.l c17_3 nm17_3 N17 (r17_3 f)).Ok tau Try.prog 0 := loop_item tabOk F17_ok mixed (x := x17_3) (nm2 := nx17_3) (anOk_items _ _ (by rw [it17_3 f]; intro q hq; cases hq)) fun vs hp k res hr => by
  unfold r17_3 at hr
  split at hr
  · exact ⟨f, 0, (lpE17_3 f _ f _ _ _ _ _ _ _ _ ).trans hr⟩
  · cases hr
def lpS17_4 (f : Nat) (rc : Nat → Int → Int → List
  PV → List
  PV → List
  PV → List
  PV → List
  PV → Option Res) (k0 : Nat → Int → List
  PV → List PV → List PV → List PV → List PV → Option Res) (v0 : Nat) (v1 : Int) (v2 : Int) (v3 : List PV) (v4 : List PV) (v5 : List PV) (v6 : List PV) (v7 : List PV) : Option Res :=
  bif decide (v2 < 64) then
    bif decide (0 ≤ IntKind.i64.wrap (v2 - 15)) && decide (IntKind.i64.wrap (v2 - 15) < zi 64) && true then
      bif PV.isInt IntKind.u32 (getP (PV.ar 51 v7) [(IntKind.i64.wrap (v2 - 15)).toNat]) && true then
        bif decide (0 ≤ IntKind.i64.wrap (v2 - 2)) && decide (IntKind.i64.wrap (v2 - 2) < zi 64) && true then
          bif PV.isInt IntKind.u32 (getP (PV.ar 51 v7) [(IntKind.i64.wrap (v2 - 2)).toNat]) && true then
            bif decide (0 ≤ IntKind.i64.wrap (v2 - 7)) && decide (IntKind.i64.wrap (v2 - 7) < zi 64) && true then
              bif PV.isInt IntKind.u32 (getP (PV.ar 51 v7) [(IntKind.i64.wrap (v2 - 7)).toNat]) && true then
                bif decide (0 ≤ IntKind.i64.wrap (v2 - 16)) && decide (IntKind.i64.wrap (v2 - 16) < zi 64) && true then
                  bif PV.isInt IntKind.u32 (getP (PV.ar 51 v7) [(IntKind.i64.wrap (v2 - 16)).toNat]) && true then
                    bif decide (0 ≤ v2) && decide (v2 < zi 64) && true then
                      rc v0 v1 (IntKind.i64.wrap
                        (v2 +
                          1)) v3 v4 v5 v6 (v7.set v2.toNat
                        (PV.sc
                          (Value.int IntKind.u32
                            (IntKind.u32.wrap
                              (IntKind.u32.wrap
                                  (IntKind.u32.wrap
                                      (bitI BinOp.xor IntKind.u32
                                          (bitI BinOp.xor IntKind.u32 (rr (getP (PV.ar 51 v7) [(IntKind.i64.wrap (v2 - 2)).toNat]).int 17)
                                            (rr (getP (PV.ar 51 v7) [(IntKind.i64.wrap (v2 - 2)).toNat]).int 19))
                                          (shrI IntKind.u32 (getP (PV.ar 51 v7) [(IntKind.i64.wrap (v2 - 2)).toNat]).int 10) +
                                        (getP (PV.ar 51 v7) [(IntKind.i64.wrap (v2 - 7)).toNat]).int) +
                                    bitI BinOp.xor IntKind.u32
                                      (bitI BinOp.xor IntKind.u32 (rr (getP (PV.ar 51 v7) [(IntKind.i64.wrap (v2 - 15)).toNat]).int 7)
                                        (rr (getP (PV.ar 51 v7) [(IntKind.i64.wrap (v2 - 15)).toNat]).int 18))
                                      (shrI IntKind.u32 (getP (PV.ar 51 v7) [(IntKind.i64.wrap (v2 - 15)).toNat]).int 3)) +
                                (getP (PV.ar 51 v7) [(IntKind.i64.wrap (v2 - 16)).toNat]).int)))))
                    else none
                  else none
                else none
              else none
            else none
          else none
        else none
      else none
    else none
  else k0 v0 v1 v3 v4 v5 v6 v7
def lp17_4 (f : Nat) (k0 : Nat → Int → List PV → List PV → List PV → List PV → List PV → Option Res) : Nat → Nat → Int → Int → List PV → List PV → List PV → List PV → List PV → Option Res
  | 0, _, _, _, _, _, _, _, _ => none
  | n + 1, v0, v1, v2, v3, v4, v5, v6, v7 => lpS17_4 f (lp17_4 f k0 n) k0 v0 v1 v2 v3 v4 v5 v6 v7
theorem lpR17_4 (f : Nat) (k : Kont) (n : Nat) (v0 : Nat) (v1 : Int) (v2 : Int) (v3 : List
  PV) (v4 : List
  PV) (v5 : List
  PV) (v6 : List
  PV) (v7 : List
  PV) : evLoop tau 0 nm17_4 (fun s k => ev tau F17 0 0 c17_4 (x17_4 ) s k) (n + 1) (fillS nm17_4 N17 [PV.ptr 4464 [], PV.ptr 4465 [], PV.ptr 4466 [], PV.ow 5 4467 [] 0 v0 none, PV.ptr 4468 [],
  PV.sc (Value.int IntKind.i64 v1),
  PV.sc
    (Value.int IntKind.i64
      v2)] [(4464, Ent.box false 26 (PV.ar 26 v3)), (4465, Ent.box false 51 (PV.ar 51 v4)), (4466, Ent.box false 53 (PV.ar 53 v5)), (4467, Ent.vec false 5 false v6),
  (4468,
    Ent.box false 51
      (PV.ar 51
        v7))]) (kNorm tau 0 nx17_4 k) = lpS17_4 f (fun v0 v1 v2 v3 v4 v5 v6 v7 => evLoop tau 0 nm17_4 (fun s k => ev tau F17 0 0 c17_4 (x17_4 ) s k) n (fillS nm17_4 N17 [PV.ptr 4464 [],
  PV.ptr 4465 [], PV.ptr 4466 [], PV.ow 5 4467 [] 0 v0 none, PV.ptr 4468 [], PV.sc (Value.int IntKind.i64 v1),
  PV.sc
    (Value.int IntKind.i64
      v2)] [(4464, Ent.box false 26 (PV.ar 26 v3)), (4465, Ent.box false 51 (PV.ar 51 v4)), (4466, Ent.box false 53 (PV.ar 53 v5)), (4467, Ent.vec false 5 false v6),
  (4468,
    Ent.box false 51
      (PV.ar 51
        v7))]) (kNorm tau 0 nx17_4 k)) (fun x0 x1 x2 x3 x4 x5 x6 => k (Ex.exit
  8) (fillS nx17_4 N17 [PV.ptr 4464 [], PV.ptr 4465 [], PV.ptr 4466 [], PV.ow 5 4467 [] 0 x0 none, PV.ptr 4468 [],
  PV.sc
    (Value.int IntKind.i64
      x1)] [(4464, Ent.box false 26 (PV.ar 26 x2)), (4465, Ent.box false 51 (PV.ar 51 x3)), (4466, Ent.box false 53 (PV.ar 53 x4)), (4467, Ent.vec false 5 false x5),
  (4468, Ent.box false 51 (PV.ar 51 x6))])) v0 v1 v2 v3 v4 v5 v6 v7 := by kernel_rfl
theorem lpE17_4 (f : Nat) (k : Kont) : ∀ (n : Nat) (v0 : Nat) (v1 : Int) (v2 : Int) (v3 : List
  PV) (v4 : List
  PV) (v5 : List
  PV) (v6 : List
  PV) (v7 : List
  PV), evLoop tau 0 nm17_4 (fun s k => ev tau F17 0 0 c17_4 (x17_4 ) s k) n (fillS nm17_4 N17 [PV.ptr 4464 [], PV.ptr 4465 [], PV.ptr 4466 [], PV.ow 5 4467 [] 0 v0 none, PV.ptr 4468 [],
  PV.sc (Value.int IntKind.i64 v1),
  PV.sc
    (Value.int IntKind.i64
      v2)] [(4464, Ent.box false 26 (PV.ar 26 v3)), (4465, Ent.box false 51 (PV.ar 51 v4)), (4466, Ent.box false 53 (PV.ar 53 v5)), (4467, Ent.vec false 5 false v6),
  (4468,
    Ent.box false 51
      (PV.ar 51
        v7))]) (kNorm tau 0 nx17_4 k) = lp17_4 f (fun x0 x1 x2 x3 x4 x5 x6 => k (Ex.exit
  8) (fillS nx17_4 N17 [PV.ptr 4464 [], PV.ptr 4465 [], PV.ptr 4466 [], PV.ow 5 4467 [] 0 x0 none, PV.ptr 4468 [],
  PV.sc
    (Value.int IntKind.i64
      x1)] [(4464, Ent.box false 26 (PV.ar 26 x2)), (4465, Ent.box false 51 (PV.ar 51 x3)), (4466, Ent.box false 53 (PV.ar 53 x4)), (4467, Ent.vec false 5 false x5),
  (4468, Ent.box false 51 (PV.ar 51 x6))])) n v0 v1 v2 v3 v4 v5 v6 v7
  | 0, _, _, _, _, _, _, _, _ => rfl
  | n + 1, v0, v1, v2, v3, v4, v5, v6, v7 => (lpR17_4 f k n v0 v1 v2 v3 v4 v5 v6 v7).trans (congrArg (fun r => lpS17_4 f r (fun x0 x1 x2 x3 x4 x5 x6 => k (Ex.exit
  8) (fillS nx17_4 N17 [PV.ptr 4464 [], PV.ptr 4465 [], PV.ptr 4466 [], PV.ow 5 4467 [] 0 x0 none, PV.ptr 4468 [],
  PV.sc
    (Value.int IntKind.i64
      x1)] [(4464, Ent.box false 26 (PV.ar 26 x2)), (4465, Ent.box false 51 (PV.ar 51 x3)), (4466, Ent.box false 53 (PV.ar 53 x4)), (4467, Ent.vec false 5 false x5),
  (4468, Ent.box false 51 (PV.ar 51 x6))])) v0 v1 v2 v3 v4 v5 v6 v7) (by funext v0 v1 v2 v3 v4 v5 v6 v7; exact lpE17_4 f k n v0 v1 v2 v3 v4 v5 v6 v7))
def r17_4 (f : Nat) : List PV → List (Nat × Ent) → Kont → Option Res
  | [PV.ptr 4464 [], PV.ptr 4465 [], PV.ptr 4466 [], PV.ow 5 4467 [] 0 v0 none, PV.ptr 4468 [], PV.sc (Value.int IntKind.i64 v1),
  PV.sc
    (Value.int IntKind.i64
      v2)], [(4464, Ent.box false 26 (PV.ar 26 v3)), (4465, Ent.box false 51 (PV.ar 51 v4)), (4466, Ent.box false 53 (PV.ar 53 v5)), (4467, Ent.vec false 5 false v6),
  (4468,
    Ent.box false 51
      (PV.ar 51
        v7))], k => lp17_4 f (fun x0 x1 x2 x3 x4 x5 x6 => k (Ex.exit
  8) (fillS nx17_4 N17 [PV.ptr 4464 [], PV.ptr 4465 [], PV.ptr 4466 [], PV.ow 5 4467 [] 0 x0 none, PV.ptr 4468 [],
  PV.sc
    (Value.int IntKind.i64
      x1)] [(4464, Ent.box false 26 (PV.ar 26 x2)), (4465, Ent.box false 51 (PV.ar 51 x3)), (4466, Ent.box false 53 (PV.ar 53 x4)), (4467, Ent.vec false 5 false x5),
  (4468, Ent.box false 51 (PV.ar 51 x6))])) f v0 v1 v2 v3 v4 v5 v6 v7
  | _, _, _ => none
theorem it17_4 (f : Nat) : items c17_4 x17_4 = [] := by kernel_rfl
theorem i17_4 (f : Nat) : (Item.l c17_4 nm17_4 N17 (r17_4 f)).Ok tau Try.prog 0 := loop_item tabOk F17_ok mixed (x := x17_4) (nm2 := nx17_4) (anOk_items _ _ (by rw [it17_4 f]; intro q hq; cases hq)) fun vs hp k res hr => by
  unfold r17_4 at hr
  split at hr
  · exact ⟨f, 0, (lpE17_4 f _ f _ _ _ _ _ _ _ _ ).trans hr⟩
  · cases hr
def lpS17_5 (f : Nat) (rc : Nat → Int → Int → List
  PV → List
  PV → List
  PV → List
  PV → List
  PV → List
  PV → Option Res) (k0 : Nat → Int → List
  PV → List
  PV → List PV → List PV → List PV → List PV → Option Res) (v0 : Nat) (v1 : Int) (v2 : Int) (v3 : List PV) (v4 : List PV) (v5 : List PV) (v6 : List PV) (v7 : List PV) (v8 : List PV) : Option Res :=
  bif decide (v2 < 64) then
    bif PV.isInt IntKind.u32 (getP (PV.ar 53 v8) [4]) && true then
      bif PV.isInt IntKind.u32 (getP (PV.ar 53 v8) [7]) && true then
        bif PV.isInt IntKind.u32 (getP (PV.ar 53 v8) [5]) && true then
          bif PV.isInt IntKind.u32 (getP (PV.ar 53 v8) [6]) && true then
            bif decide (0 ≤ v2) && decide (v2 < zi 64) && true then
              bif PV.isInt IntKind.u32 (getP (PV.ar 51 v4) [v2.toNat]) && true then
                bif decide (0 ≤ v2) && decide (v2 < zi 64) && true then
                  bif PV.isInt IntKind.u32 (getP (PV.ar 51 v7) [v2.toNat]) && true then
                    bif PV.isInt IntKind.u32 (getP (PV.ar 53 v8) [0]) && true then
                      bif PV.isInt IntKind.u32 (getP (PV.ar 53 v8) [0]) && true then
                        bif PV.isInt IntKind.u32 (getP (PV.ar 53 v8) [0]) && true then
                          bif PV.isInt IntKind.u32 (getP (PV.ar 53 v8) [0]) && true then
                            bif PV.isInt IntKind.u32 (getP (PV.ar 53 v8) [1]) && true then
                              bif PV.isInt IntKind.u32 (getP (PV.ar 53 v8) [0]) && true then
                                bif PV.isInt IntKind.u32 (getP (PV.ar 53 v8) [2]) && true then
                                  bif PV.isInt IntKind.u32 (getP (PV.ar 53 v8) [1]) && true then
                                    bif PV.isInt IntKind.u32 (getP (PV.ar 53 v8) [2]) && true then
                                      bif PV.isInt IntKind.u32 (getP (PV.ar 53 v8) [0]) && true then
                                        bif PV.isInt IntKind.u32 (getP (PV.ar 53 v8) [1]) && true then
                                          bif PV.isInt IntKind.u32 (getP (PV.ar 53 v8) [2]) && true then
                                            bif PV.isInt IntKind.u32 (getP (PV.ar 53 v8) [3]) && true then
                                              bif PV.isInt IntKind.u32 (getP (PV.ar 53 v8) [4]) && true then
                                                bif PV.isInt IntKind.u32 (getP (PV.ar 53 v8) [5]) && true then
                                                  bif PV.isInt IntKind.u32 (getP (PV.ar 53 v8) [6]) && true then
                                                    rc v0 v1 (IntKind.i64.wrap
                                                      (v2 +
                                                        1)) v3 v4 v5 v6 v7 ([PV.sc
                                                        (Value.int IntKind.u32
                                                          (IntKind.u32.wrap
                                                            (IntKind.u32.wrap
                                                                (IntKind.u32.wrap
                                                                    (IntKind.u32.wrap
                                                                        (IntKind.u32.wrap
                                                                            ((getP (PV.ar 53 v8) [7]).int +
                                                                              bitI BinOp.xor IntKind.u32
                                                                                (bitI BinOp.xor IntKind.u32 (rr (getP (PV.ar 53 v8) [4]).int 6) (rr (getP (PV.ar 53 v8) [4]).int 11))
                                                                                (rr (getP (PV.ar 53 v8) [4]).int 25)) +
                                                                          bitI BinOp.xor IntKind.u32 (bitI BinOp.and IntKind.u32 (getP (PV.ar 53 v8) [4]).int (getP (PV.ar 53 v8) [5]).int)
                                                                            (bitI BinOp.and IntKind.u32
                                                                              (bitI BinOp.xor IntKind.u32 (Int.ofNat (2 ^ IntKind.u32.bits - Nat.succ 0)) (getP (PV.ar 53 v8) [4]).int)
                                                                              (getP (PV.ar 53 v8) [6]).int)) +
                                                                      (getP (PV.ar 51 v4) [v2.toNat]).int) +
                                                                  (getP (PV.ar 51 v7) [v2.toNat]).int) +
                                                              IntKind.u32.wrap
                                                                (bitI BinOp.xor IntKind.u32 (bitI BinOp.xor IntKind.u32 (rr (getP (PV.ar 53 v8) [0]).int 2) (rr (getP (PV.ar 53 v8) [0]).int 13))
                                                                    (rr (getP (PV.ar 53 v8) [0]).int 22) +
                                                                  bitI BinOp.xor IntKind.u32
                                                                    (bitI BinOp.xor IntKind.u32 (bitI BinOp.and IntKind.u32 (getP (PV.ar 53 v8) [0]).int (getP (PV.ar 53 v8) [1]).int)
                                                                      (bitI BinOp.and IntKind.u32 (getP (PV.ar 53 v8) [0]).int (getP (PV.ar 53 v8) [2]).int))
                                                                    (bitI BinOp.and IntKind.u32 (getP (PV.ar 53 v8) [1]).int (getP (PV.ar 53 v8) [2]).int))))),
                                                      PV.sc (Value.int IntKind.u32 (getP (PV.ar 53 v8) [0]).int), PV.sc (Value.int IntKind.u32 (getP (PV.ar 53 v8) [1]).int),
                                                      PV.sc (Value.int IntKind.u32 (getP (PV.ar 53 v8) [2]).int),
                                                      PV.sc
                                                        (Value.int IntKind.u32
                                                          (IntKind.u32.wrap
                                                            ((getP (PV.ar 53 v8) [3]).int +
                                                              IntKind.u32.wrap
                                                                (IntKind.u32.wrap
                                                                    (IntKind.u32.wrap
                                                                        (IntKind.u32.wrap
                                                                            ((getP (PV.ar 53 v8) [7]).int +
                                                                              bitI BinOp.xor IntKind.u32
                                                                                (bitI BinOp.xor IntKind.u32 (rr (getP (PV.ar 53 v8) [4]).int 6) (rr (getP (PV.ar 53 v8) [4]).int 11))
                                                                                (rr (getP (PV.ar 53 v8) [4]).int 25)) +
                                                                          bitI BinOp.xor IntKind.u32 (bitI BinOp.and IntKind.u32 (getP (PV.ar 53 v8) [4]).int (getP (PV.ar 53 v8) [5]).int)
                                                                            (bitI BinOp.and IntKind.u32
                                                                              (bitI BinOp.xor IntKind.u32 (Int.ofNat (2 ^ IntKind.u32.bits - Nat.succ 0)) (getP (PV.ar 53 v8) [4]).int)
                                                                              (getP (PV.ar 53 v8) [6]).int)) +
                                                                      (getP (PV.ar 51 v4) [v2.toNat]).int) +
                                                                  (getP (PV.ar 51 v7) [v2.toNat]).int)))),
                                                      PV.sc (Value.int IntKind.u32 (getP (PV.ar 53 v8) [4]).int), PV.sc (Value.int IntKind.u32 (getP (PV.ar 53 v8) [5]).int),
                                                      PV.sc (Value.int IntKind.u32 (getP (PV.ar 53 v8) [6]).int)])
                                                  else none
                                                else none
                                              else none
                                            else none
                                          else none
                                        else none
                                      else none
                                    else none
                                  else none
                                else none
                              else none
                            else none
                          else none
                        else none
                      else none
                    else none
                  else none
                else none
              else none
            else none
          else none
        else none
      else none
    else none
  else k0 v0 v1 v3 v4 v5 v6 v7 v8
def lp17_5 (f : Nat) (k0 : Nat → Int → List
  PV → List PV → List PV → List PV → List PV → List PV → Option Res) : Nat → Nat → Int → Int → List PV → List PV → List PV → List PV → List PV → List PV → Option Res
  | 0, _, _, _, _, _, _, _, _, _ => none
  | n + 1, v0, v1, v2, v3, v4, v5, v6, v7, v8 => lpS17_5 f (lp17_5 f k0 n) k0 v0 v1 v2 v3 v4 v5 v6 v7 v8
theorem lpR17_5 (f : Nat) (k : Kont) (n : Nat) (v0 : Nat) (v1 : Int) (v2 : Int) (v3 : List
  PV) (v4 : List
  PV) (v5 : List
  PV) (v6 : List
  PV) (v7 : List
  PV) (v8 : List
  PV) : evLoop tau 0 nm17_5 (fun s k => ev tau F17 0 0 c17_5 (x17_5 ) s k) (n + 1) (fillS nm17_5 N17 [PV.ptr 4464 [], PV.ptr 4465 [], PV.ptr 4466 [], PV.ow 5 4467 [] 0 v0 none, PV.ptr 4468 [],
  PV.sc (Value.int IntKind.i64 v1), PV.ptr 4469 [],
  PV.sc
    (Value.int IntKind.i64
      v2)] [(4464, Ent.box false 26 (PV.ar 26 v3)), (4465, Ent.box false 51 (PV.ar 51 v4)), (4466, Ent.box false 53 (PV.ar 53 v5)), (4467, Ent.vec false 5 false v6),
  (4468, Ent.box false 51 (PV.ar 51 v7)),
  (4469,
    Ent.box false 53
      (PV.ar 53
        v8))]) (kNorm tau 0 nx17_5 k) = lpS17_5 f (fun v0 v1 v2 v3 v4 v5 v6 v7 v8 => evLoop tau 0 nm17_5 (fun s k => ev tau F17 0 0 c17_5 (x17_5 ) s k) n (fillS nm17_5 N17 [PV.ptr 4464 [],
  PV.ptr 4465 [], PV.ptr 4466 [], PV.ow 5 4467 [] 0 v0 none, PV.ptr 4468 [], PV.sc (Value.int IntKind.i64 v1), PV.ptr 4469 [],
  PV.sc
    (Value.int IntKind.i64
      v2)] [(4464, Ent.box false 26 (PV.ar 26 v3)), (4465, Ent.box false 51 (PV.ar 51 v4)), (4466, Ent.box false 53 (PV.ar 53 v5)), (4467, Ent.vec false 5 false v6),
  (4468, Ent.box false 51 (PV.ar 51 v7)),
  (4469,
    Ent.box false 53
      (PV.ar 53
        v8))]) (kNorm tau 0 nx17_5 k)) (fun x0 x1 x2 x3 x4 x5 x6 x7 => k (Ex.exit
  10) (fillS nx17_5 N17 [PV.ptr 4464 [], PV.ptr 4465 [], PV.ptr 4466 [], PV.ow 5 4467 [] 0 x0 none, PV.ptr 4468 [], PV.sc (Value.int IntKind.i64 x1),
  PV.ptr 4469
    []] [(4464, Ent.box false 26 (PV.ar 26 x2)), (4465, Ent.box false 51 (PV.ar 51 x3)), (4466, Ent.box false 53 (PV.ar 53 x4)), (4467, Ent.vec false 5 false x5),
  (4468, Ent.box false 51 (PV.ar 51 x6)), (4469, Ent.box false 53 (PV.ar 53 x7))])) v0 v1 v2 v3 v4 v5 v6 v7 v8 := by kernel_rfl
theorem lpE17_5 (f : Nat) (k : Kont) : ∀ (n : Nat) (v0 : Nat) (v1 : Int) (v2 : Int) (v3 : List
  PV) (v4 : List
  PV) (v5 : List
  PV) (v6 : List
  PV) (v7 : List
  PV) (v8 : List
  PV), evLoop tau 0 nm17_5 (fun s k => ev tau F17 0 0 c17_5 (x17_5 ) s k) n (fillS nm17_5 N17 [PV.ptr 4464 [], PV.ptr 4465 [], PV.ptr 4466 [], PV.ow 5 4467 [] 0 v0 none, PV.ptr 4468 [],
  PV.sc (Value.int IntKind.i64 v1), PV.ptr 4469 [],
  PV.sc
    (Value.int IntKind.i64
      v2)] [(4464, Ent.box false 26 (PV.ar 26 v3)), (4465, Ent.box false 51 (PV.ar 51 v4)), (4466, Ent.box false 53 (PV.ar 53 v5)), (4467, Ent.vec false 5 false v6),
  (4468, Ent.box false 51 (PV.ar 51 v7)),
  (4469,
    Ent.box false 53
      (PV.ar 53
        v8))]) (kNorm tau 0 nx17_5 k) = lp17_5 f (fun x0 x1 x2 x3 x4 x5 x6 x7 => k (Ex.exit
  10) (fillS nx17_5 N17 [PV.ptr 4464 [], PV.ptr 4465 [], PV.ptr 4466 [], PV.ow 5 4467 [] 0 x0 none, PV.ptr 4468 [], PV.sc (Value.int IntKind.i64 x1),
  PV.ptr 4469
    []] [(4464, Ent.box false 26 (PV.ar 26 x2)), (4465, Ent.box false 51 (PV.ar 51 x3)), (4466, Ent.box false 53 (PV.ar 53 x4)), (4467, Ent.vec false 5 false x5),
  (4468, Ent.box false 51 (PV.ar 51 x6)), (4469, Ent.box false 53 (PV.ar 53 x7))])) n v0 v1 v2 v3 v4 v5 v6 v7 v8
  | 0, _, _, _, _, _, _, _, _, _ => rfl
  | n + 1, v0, v1, v2, v3, v4, v5, v6, v7, v8 => (lpR17_5 f k n v0 v1 v2 v3 v4 v5 v6 v7 v8).trans (congrArg (fun r => lpS17_5 f r (fun x0 x1 x2 x3 x4 x5 x6 x7 => k (Ex.exit
  10) (fillS nx17_5 N17 [PV.ptr 4464 [], PV.ptr 4465 [], PV.ptr 4466 [], PV.ow 5 4467 [] 0 x0 none, PV.ptr 4468 [], PV.sc (Value.int IntKind.i64 x1),
  PV.ptr 4469
    []] [(4464, Ent.box false 26 (PV.ar 26 x2)), (4465, Ent.box false 51 (PV.ar 51 x3)), (4466, Ent.box false 53 (PV.ar 53 x4)), (4467, Ent.vec false 5 false x5),
  (4468, Ent.box false 51 (PV.ar 51 x6)), (4469, Ent.box false 53 (PV.ar 53 x7))])) v0 v1 v2 v3 v4 v5 v6 v7 v8) (by funext v0 v1 v2 v3 v4 v5 v6 v7 v8; exact lpE17_5 f k n v0 v1 v2 v3 v4 v5 v6 v7 v8))
def r17_5 (f : Nat) : List PV → List (Nat × Ent) → Kont → Option Res
  | [PV.ptr 4464 [], PV.ptr 4465 [], PV.ptr 4466 [], PV.ow 5 4467 [] 0 v0 none, PV.ptr 4468 [], PV.sc (Value.int IntKind.i64 v1), PV.ptr 4469 [],
  PV.sc
    (Value.int IntKind.i64
      v2)], [(4464, Ent.box false 26 (PV.ar 26 v3)), (4465, Ent.box false 51 (PV.ar 51 v4)), (4466, Ent.box false 53 (PV.ar 53 v5)), (4467, Ent.vec false 5 false v6),
  (4468, Ent.box false 51 (PV.ar 51 v7)),
  (4469,
    Ent.box false 53
      (PV.ar 53
        v8))], k => lp17_5 f (fun x0 x1 x2 x3 x4 x5 x6 x7 => k (Ex.exit
  10) (fillS nx17_5 N17 [PV.ptr 4464 [], PV.ptr 4465 [], PV.ptr 4466 [], PV.ow 5 4467 [] 0 x0 none, PV.ptr 4468 [], PV.sc (Value.int IntKind.i64 x1),
  PV.ptr 4469
    []] [(4464, Ent.box false 26 (PV.ar 26 x2)), (4465, Ent.box false 51 (PV.ar 51 x3)), (4466, Ent.box false 53 (PV.ar 53 x4)), (4467, Ent.vec false 5 false x5),
  (4468, Ent.box false 51 (PV.ar 51 x6)), (4469, Ent.box false 53 (PV.ar 53 x7))])) f v0 v1 v2 v3 v4 v5 v6 v7 v8
  | _, _, _ => none
theorem it17_5 (f : Nat) : items c17_5 x17_5 = [] := by kernel_rfl
theorem i17_5 (f : Nat) : (Item.l c17_5 nm17_5 N17 (r17_5 f)).Ok tau Try.prog 0 := loop_item tabOk F17_ok mixed (x := x17_5) (nm2 := nx17_5) (anOk_items _ _ (by rw [it17_5 f]; intro q hq; cases hq)) fun vs hp k res hr => by
  unfold r17_5 at hr
  split at hr
  · exact ⟨f, 0, (lpE17_5 f _ f _ _ _ _ _ _ _ _ _ ).trans hr⟩
  · cases hr
def lpS17_6 (f : Nat) (rc : Nat → Int → Int → List
  PV → List
  PV → List
  PV → List
  PV → List
  PV → List
  PV → Option Res) (k0 : Nat → Int → List
  PV → List PV → List PV → List PV → List PV → Option Res) (v0 : Nat) (v1 : Int) (v2 : Int) (v3 : List PV) (v4 : List PV) (v5 : List PV) (v6 : List PV) (v7 : List PV) (v8 : List PV) : Option Res :=
  bif decide (v2 < 8) then
    bif decide (0 ≤ v2) && decide (v2 < zi 8) && true then
      bif PV.isInt IntKind.u32 (getP (PV.ar 53 v5) [v2.toNat]) && true then
        bif decide (0 ≤ v2) && decide (v2 < zi 8) && true then
          bif PV.isInt IntKind.u32 (getP (PV.ar 53 v8) [v2.toNat]) && true then
            bif decide (0 ≤ v2) && decide (v2 < zi 8) && true then
              rc v0 v1 (IntKind.i64.wrap
                (v2 + 1)) v3 v4 (v5.set v2.toNat (PV.sc (Value.int IntKind.u32 (IntKind.u32.wrap ((getP (PV.ar 53 v5) [v2.toNat]).int + (getP (PV.ar 53 v8) [v2.toNat]).int))))) v6 v7 v8
            else none
          else none
        else none
      else none
    else none
  else k0 v0 v1 v3 v4 v5 v6 v7
def lp17_6 (f : Nat) (k0 : Nat → Int → List PV → List PV → List PV → List PV → List PV → Option Res) : Nat → Nat → Int → Int → List PV → List PV → List PV → List PV → List PV → List PV → Option Res
  | 0, _, _, _, _, _, _, _, _, _ => none
  | n + 1, v0, v1, v2, v3, v4, v5, v6, v7, v8 => lpS17_6 f (lp17_6 f k0 n) k0 v0 v1 v2 v3 v4 v5 v6 v7 v8
theorem lpR17_6 (f : Nat) (k : Kont) (n : Nat) (v0 : Nat) (v1 : Int) (v2 : Int) (v3 : List
  PV) (v4 : List
  PV) (v5 : List
  PV) (v6 : List
  PV) (v7 : List
  PV) (v8 : List
  PV) : evLoop tau 0 nm17_6 (fun s k => ev tau F17 0 0 c17_6 (x17_6 ) s k) (n + 1) (fillS nm17_6 N17 [PV.ptr 4464 [], PV.ptr 4465 [], PV.ptr 4466 [], PV.ow 5 4467 [] 0 v0 none, PV.ptr 4468 [],
  PV.sc (Value.int IntKind.i64 v1), PV.ptr 4469 [],
  PV.sc
    (Value.int IntKind.i64
      v2)] [(4464, Ent.box false 26 (PV.ar 26 v3)), (4465, Ent.box false 51 (PV.ar 51 v4)), (4466, Ent.box false 53 (PV.ar 53 v5)), (4467, Ent.vec false 5 false v6),
  (4468, Ent.box false 51 (PV.ar 51 v7)),
  (4469,
    Ent.box false 53
      (PV.ar 53
        v8))]) (kNorm tau 0 nx17_6 k) = lpS17_6 f (fun v0 v1 v2 v3 v4 v5 v6 v7 v8 => evLoop tau 0 nm17_6 (fun s k => ev tau F17 0 0 c17_6 (x17_6 ) s k) n (fillS nm17_6 N17 [PV.ptr 4464 [],
  PV.ptr 4465 [], PV.ptr 4466 [], PV.ow 5 4467 [] 0 v0 none, PV.ptr 4468 [], PV.sc (Value.int IntKind.i64 v1), PV.ptr 4469 [],
  PV.sc
    (Value.int IntKind.i64
      v2)] [(4464, Ent.box false 26 (PV.ar 26 v3)), (4465, Ent.box false 51 (PV.ar 51 v4)), (4466, Ent.box false 53 (PV.ar 53 v5)), (4467, Ent.vec false 5 false v6),
  (4468, Ent.box false 51 (PV.ar 51 v7)),
  (4469,
    Ent.box false 53
      (PV.ar 53
        v8))]) (kNorm tau 0 nx17_6 k)) (fun x0 x1 x2 x3 x4 x5 x6 => k (Ex.exit
  12) (fillS nx17_6 N17 [PV.ptr 4464 [], PV.ptr 4465 [], PV.ptr 4466 [], PV.ow 5 4467 [] 0 x0 none, PV.ptr 4468 [],
  PV.sc
    (Value.int IntKind.i64
      x1)] [(4464, Ent.box false 26 (PV.ar 26 x2)), (4465, Ent.box false 51 (PV.ar 51 x3)), (4466, Ent.box false 53 (PV.ar 53 x4)), (4467, Ent.vec false 5 false x5),
  (4468, Ent.box false 51 (PV.ar 51 x6))])) v0 v1 v2 v3 v4 v5 v6 v7 v8 := by kernel_rfl
theorem lpE17_6 (f : Nat) (k : Kont) : ∀ (n : Nat) (v0 : Nat) (v1 : Int) (v2 : Int) (v3 : List
  PV) (v4 : List
  PV) (v5 : List
  PV) (v6 : List
  PV) (v7 : List
  PV) (v8 : List
  PV), evLoop tau 0 nm17_6 (fun s k => ev tau F17 0 0 c17_6 (x17_6 ) s k) n (fillS nm17_6 N17 [PV.ptr 4464 [], PV.ptr 4465 [], PV.ptr 4466 [], PV.ow 5 4467 [] 0 v0 none, PV.ptr 4468 [],
  PV.sc (Value.int IntKind.i64 v1), PV.ptr 4469 [],
  PV.sc
    (Value.int IntKind.i64
      v2)] [(4464, Ent.box false 26 (PV.ar 26 v3)), (4465, Ent.box false 51 (PV.ar 51 v4)), (4466, Ent.box false 53 (PV.ar 53 v5)), (4467, Ent.vec false 5 false v6),
  (4468, Ent.box false 51 (PV.ar 51 v7)),
  (4469,
    Ent.box false 53
      (PV.ar 53
        v8))]) (kNorm tau 0 nx17_6 k) = lp17_6 f (fun x0 x1 x2 x3 x4 x5 x6 => k (Ex.exit
  12) (fillS nx17_6 N17 [PV.ptr 4464 [], PV.ptr 4465 [], PV.ptr 4466 [], PV.ow 5 4467 [] 0 x0 none, PV.ptr 4468 [],
  PV.sc
    (Value.int IntKind.i64
      x1)] [(4464, Ent.box false 26 (PV.ar 26 x2)), (4465, Ent.box false 51 (PV.ar 51 x3)), (4466, Ent.box false 53 (PV.ar 53 x4)), (4467, Ent.vec false 5 false x5),
  (4468, Ent.box false 51 (PV.ar 51 x6))])) n v0 v1 v2 v3 v4 v5 v6 v7 v8
  | 0, _, _, _, _, _, _, _, _, _ => rfl
  | n + 1, v0, v1, v2, v3, v4, v5, v6, v7, v8 => (lpR17_6 f k n v0 v1 v2 v3 v4 v5 v6 v7 v8).trans (congrArg (fun r => lpS17_6 f r (fun x0 x1 x2 x3 x4 x5 x6 => k (Ex.exit
  12) (fillS nx17_6 N17 [PV.ptr 4464 [], PV.ptr 4465 [], PV.ptr 4466 [], PV.ow 5 4467 [] 0 x0 none, PV.ptr 4468 [],
  PV.sc
    (Value.int IntKind.i64
      x1)] [(4464, Ent.box false 26 (PV.ar 26 x2)), (4465, Ent.box false 51 (PV.ar 51 x3)), (4466, Ent.box false 53 (PV.ar 53 x4)), (4467, Ent.vec false 5 false x5),
  (4468, Ent.box false 51 (PV.ar 51 x6))])) v0 v1 v2 v3 v4 v5 v6 v7 v8) (by funext v0 v1 v2 v3 v4 v5 v6 v7 v8; exact lpE17_6 f k n v0 v1 v2 v3 v4 v5 v6 v7 v8))
def r17_6 (f : Nat) : List PV → List (Nat × Ent) → Kont → Option Res
  | [PV.ptr 4464 [], PV.ptr 4465 [], PV.ptr 4466 [], PV.ow 5 4467 [] 0 v0 none, PV.ptr 4468 [], PV.sc (Value.int IntKind.i64 v1), PV.ptr 4469 [],
  PV.sc
    (Value.int IntKind.i64
      v2)], [(4464, Ent.box false 26 (PV.ar 26 v3)), (4465, Ent.box false 51 (PV.ar 51 v4)), (4466, Ent.box false 53 (PV.ar 53 v5)), (4467, Ent.vec false 5 false v6),
  (4468, Ent.box false 51 (PV.ar 51 v7)),
  (4469,
    Ent.box false 53
      (PV.ar 53
        v8))], k => lp17_6 f (fun x0 x1 x2 x3 x4 x5 x6 => k (Ex.exit
  12) (fillS nx17_6 N17 [PV.ptr 4464 [], PV.ptr 4465 [], PV.ptr 4466 [], PV.ow 5 4467 [] 0 x0 none, PV.ptr 4468 [],
  PV.sc
    (Value.int IntKind.i64
      x1)] [(4464, Ent.box false 26 (PV.ar 26 x2)), (4465, Ent.box false 51 (PV.ar 51 x3)), (4466, Ent.box false 53 (PV.ar 53 x4)), (4467, Ent.vec false 5 false x5),
  (4468, Ent.box false 51 (PV.ar 51 x6))])) f v0 v1 v2 v3 v4 v5 v6 v7 v8
  | _, _, _ => none
theorem it17_6 (f : Nat) : items c17_6 x17_6 = [] := by kernel_rfl
theorem i17_6 (f : Nat) : (Item.l c17_6 nm17_6 N17 (r17_6 f)).Ok tau Try.prog 0 := loop_item tabOk F17_ok mixed (x := x17_6) (nm2 := nx17_6) (anOk_items _ _ (by rw [it17_6 f]; intro q hq; cases hq)) fun vs hp k res hr => by
  unfold r17_6 at hr
  split at hr
  · exact ⟨f, 0, (lpE17_6 f _ f _ _ _ _ _ _ _ _ _ ).trans hr⟩
  · cases hr
def lpS17_2 (f : Nat) (rc : Nat → Int → List
  PV → List
  PV → List PV → List PV → List PV → Option Res) (k0 : List PV → List PV → Option Res) (v0 : Nat) (v1 : Int) (v2 : List PV) (v3 : List PV) (v4 : List PV) (v5 : List PV) (v6 : List PV) : Option Res :=
  bif decide (v1 < zi v0) then
    lp17_3 f (fun x0_2 x1_2 x2_2 x3_2 x4_2 x5_2 x6_2 =>
      lp17_4 f (fun x0_3 x1_3 x2_3 x3_3 x4_3 x5_3 x6_3 =>
        lp17_5 f (fun x0_4 x1_4 x2_4 x3_4 x4_4 x5_4 x6_4 x7_4 =>
          lp17_6 f (fun x0_5 x1_5 x2_5 x3_5 x4_5 x5_5 x6_5 =>
            rc x0_5 (IntKind.i64.wrap
              (x1_5 +
                64)) x2_5 x3_5 x4_5 x5_5 x6_5) f x0_4 x1_4 (0) x2_4 x3_4 x4_4 x5_4 x6_4 x7_4) f x0_3 x1_3 (0) x2_3 x3_3 x4_3 x5_3 x6_3 x4_3) f x0_2 x1_2 (16) x2_2 x3_2 x4_2 x5_2 x6_2) f v0 v1 (0) v2 v3 v4 v5 v6
  else k0 v2 v4
def lp17_2 (f : Nat) (k0 : List PV → List PV → Option Res) : Nat → Nat → Int → List PV → List PV → List PV → List PV → List PV → Option Res
  | 0, _, _, _, _, _, _, _ => none
  | n + 1, v0, v1, v2, v3, v4, v5, v6 => lpS17_2 f (lp17_2 f k0 n) k0 v0 v1 v2 v3 v4 v5 v6
theorem lpR17_2 (f : Nat) (k : Kont) (n : Nat) (v0 : Nat) (v1 : Int) (v2 : List
  PV) (v3 : List
  PV) (v4 : List
  PV) (v5 : List
  PV) (v6 : List
  PV) : evLoop tau 0 nm17_2 (fun s k => ev tau F17 0 0 c17_2 (x17_2 (r17_3 f) (r17_4 f) (r17_5 f) (r17_6 f)) s k) (n + 1) (fillS nm17_2 N17 [PV.ptr 4464 [], PV.ptr 4465 [], PV.ptr 4466 [], PV.ow 5 4467 [] 0 v0 none, PV.ptr 4468 [],
  PV.sc
    (Value.int IntKind.i64
      v1)] [(4464, Ent.box false 26 (PV.ar 26 v2)), (4465, Ent.box false 51 (PV.ar 51 v3)), (4466, Ent.box false 53 (PV.ar 53 v4)), (4467, Ent.vec false 5 false v5),
  (4468,
    Ent.box false 51
      (PV.ar 51
        v6))]) (kNorm tau 0 nx17_2 k) = lpS17_2 f (fun v0 v1 v2 v3 v4 v5 v6 => evLoop tau 0 nm17_2 (fun s k => ev tau F17 0 0 c17_2 (x17_2 (r17_3 f) (r17_4 f) (r17_5 f) (r17_6 f)) s k) n (fillS nm17_2 N17 [PV.ptr 4464 [],
  PV.ptr 4465 [], PV.ptr 4466 [], PV.ow 5 4467 [] 0 v0 none, PV.ptr 4468 [],
  PV.sc
    (Value.int IntKind.i64
      v1)] [(4464, Ent.box false 26 (PV.ar 26 v2)), (4465, Ent.box false 51 (PV.ar 51 v3)), (4466, Ent.box false 53 (PV.ar 53 v4)), (4467, Ent.vec false 5 false v5),
  (4468,
    Ent.box false 51
      (PV.ar 51
        v6))]) (kNorm tau 0 nx17_2 k)) (fun x0 x1 => k (Ex.exit
  4) (fillS nx17_2 N17 [PV.ptr 4464 [], PV.ptr 4465 []] [(4464, Ent.box false 26 (PV.ar 26 x0)), (4465, Ent.box false 53 (PV.ar 53 x1))])) v0 v1 v2 v3 v4 v5 v6 := by kernel_rfl
theorem lpE17_2 (f : Nat) (k : Kont) : ∀ (n : Nat) (v0 : Nat) (v1 : Int) (v2 : List
  PV) (v3 : List
  PV) (v4 : List
  PV) (v5 : List
  PV) (v6 : List
  PV), evLoop tau 0 nm17_2 (fun s k => ev tau F17 0 0 c17_2 (x17_2 (r17_3 f) (r17_4 f) (r17_5 f) (r17_6 f)) s k) n (fillS nm17_2 N17 [PV.ptr 4464 [], PV.ptr 4465 [], PV.ptr 4466 [], PV.ow 5 4467 [] 0 v0 none, PV.ptr 4468 [],
  PV.sc
    (Value.int IntKind.i64
      v1)] [(4464, Ent.box false 26 (PV.ar 26 v2)), (4465, Ent.box false 51 (PV.ar 51 v3)), (4466, Ent.box false 53 (PV.ar 53 v4)), (4467, Ent.vec false 5 false v5),
  (4468,
    Ent.box false 51
      (PV.ar 51
        v6))]) (kNorm tau 0 nx17_2 k) = lp17_2 f (fun x0 x1 => k (Ex.exit
  4) (fillS nx17_2 N17 [PV.ptr 4464 [], PV.ptr 4465 []] [(4464, Ent.box false 26 (PV.ar 26 x0)), (4465, Ent.box false 53 (PV.ar 53 x1))])) n v0 v1 v2 v3 v4 v5 v6
  | 0, _, _, _, _, _, _, _ => rfl
  | n + 1, v0, v1, v2, v3, v4, v5, v6 => (lpR17_2 f k n v0 v1 v2 v3 v4 v5 v6).trans (congrArg (fun r => lpS17_2 f r (fun x0 x1 => k (Ex.exit
  4) (fillS nx17_2 N17 [PV.ptr 4464 [],
  PV.ptr 4465 []] [(4464, Ent.box false 26 (PV.ar 26 x0)), (4465, Ent.box false 53 (PV.ar 53 x1))])) v0 v1 v2 v3 v4 v5 v6) (by funext v0 v1 v2 v3 v4 v5 v6; exact lpE17_2 f k n v0 v1 v2 v3 v4 v5 v6))
def r17_2 (f : Nat) : List PV → List (Nat × Ent) → Kont → Option Res
  | [PV.ptr 4464 [], PV.ptr 4465 [], PV.ptr 4466 [], PV.ow 5 4467 [] 0 v0 none, PV.ptr 4468 [],
  PV.sc
    (Value.int IntKind.i64
      v1)], [(4464, Ent.box false 26 (PV.ar 26 v2)), (4465, Ent.box false 51 (PV.ar 51 v3)), (4466, Ent.box false 53 (PV.ar 53 v4)), (4467, Ent.vec false 5 false v5),
  (4468,
    Ent.box false 51
      (PV.ar 51
        v6))], k => lp17_2 f (fun x0 x1 => k (Ex.exit
  4) (fillS nx17_2 N17 [PV.ptr 4464 [], PV.ptr 4465 []] [(4464, Ent.box false 26 (PV.ar 26 x0)), (4465, Ent.box false 53 (PV.ar 53 x1))])) f v0 v1 v2 v3 v4 v5 v6
  | _, _, _ => none
theorem it17_2 (f : Nat) : items c17_2 (x17_2 (r17_3 f) (r17_4 f) (r17_5 f) (r17_6 f)) = [.l c17_3 nm17_3 N17 (r17_3 f), .l c17_4 nm17_4 N17 (r17_4 f), .l c17_5 nm17_5 N17 (r17_5 f), .l c17_6 nm17_6 N17 (r17_6 f)] := by kernel_rfl
theorem i17_2 (f : Nat) : (Item.l c17_2 nm17_2 N17 (r17_2 f)).Ok tau Try.prog 0 := loop_item tabOk F17_ok mixed (x := (x17_2 (r17_3 f) (r17_4 f) (r17_5 f) (r17_6 f))) (nm2 := nx17_2) (anOk_items _ _ (by rw [it17_2 f]; simp only [List.forall_mem_cons, List.not_mem_nil, false_implies, implies_true, and_true]; exact ⟨i17_3 f, i17_4 f, i17_5 f, i17_6 f⟩)) fun vs hp k res hr => by
  unfold r17_2 at hr
  split at hr
  · exact ⟨f, 0, (lpE17_2 f _ f _ _ _ _ _ _ _ ).trans hr⟩
  · cases hr
def lpS17_7 (f : Nat) (rc : Int → List PV → List PV → List PV → Option Res) (k0 : List PV → List PV → Option Res) (v0 : Int) (v1 : List PV) (v2 : List PV) (v3 : List PV) : Option Res :=
  bif decide (v0 < 8) then
    bif decide (0 ≤ v0) && decide (v0 < zi 8) && true then
      bif PV.isInt IntKind.u32 (getP (PV.ar 53 v2) [v0.toNat]) && true then
        bif decide (0 ≤ v0) && decide (v0 < zi 8) && true then
          bif PV.isInt IntKind.u32 (getP (PV.ar 53 v2) [v0.toNat]) && true then
            bif decide (0 ≤ v0) && decide (v0 < zi 8) && true then
              bif PV.isInt IntKind.u32 (getP (PV.ar 53 v2) [v0.toNat]) && true then
                bif decide (0 ≤ v0) && decide (v0 < zi 8) && true then
                  bif PV.isInt IntKind.u32 (getP (PV.ar 53 v2) [v0.toNat]) && true then
                    bif decide (0 ≤ IntKind.i64.wrap (4 * v0)) && decide (IntKind.i64.wrap (4 * v0) < zi 32) && true then
                      bif decide (0 ≤ IntKind.i64.wrap (IntKind.i64.wrap (4 * v0) + 1)) && decide (IntKind.i64.wrap (IntKind.i64.wrap (4 * v0) + 1) < zi 32) && true then
                        bif decide (0 ≤ IntKind.i64.wrap (IntKind.i64.wrap (4 * v0) + 2)) && decide (IntKind.i64.wrap (IntKind.i64.wrap (4 * v0) + 2) < zi 32) && true then
                          bif decide (0 ≤ IntKind.i64.wrap (IntKind.i64.wrap (4 * v0) + 3)) && decide (IntKind.i64.wrap (IntKind.i64.wrap (4 * v0) + 3) < zi 32) && true then
                            rc (IntKind.i64.wrap
                              (v0 +
                                1)) v1 v2 ((((v3.set (IntKind.i64.wrap (4 * v0)).toNat (PV.sc (Value.int IntKind.u8 (IntKind.u8.wrap (shrI IntKind.u32 (getP (PV.ar 53 v2) [v0.toNat]).int 24))))).set
                                      (IntKind.i64.wrap (IntKind.i64.wrap (4 * v0) + 1)).toNat
                                      (PV.sc (Value.int IntKind.u8 (IntKind.u8.wrap (shrI IntKind.u32 (getP (PV.ar 53 v2) [v0.toNat]).int 16))))).set
                                  (IntKind.i64.wrap (IntKind.i64.wrap (4 * v0) + 2)).toNat
                                  (PV.sc (Value.int IntKind.u8 (IntKind.u8.wrap (shrI IntKind.u32 (getP (PV.ar 53 v2) [v0.toNat]).int 8))))).set
                              (IntKind.i64.wrap (IntKind.i64.wrap (4 * v0) + 3)).toNat (PV.sc (Value.int IntKind.u8 (IntKind.u8.wrap (getP (PV.ar 53 v2) [v0.toNat]).int))))
                          else none
                        else none
                      else none
                    else none
                  else none
                else none
              else none
            else none
          else none
        else none
      else none
    else none
  else k0 v1 v3
def lp17_7 (f : Nat) (k0 : List PV → List PV → Option Res) : Nat → Int → List PV → List PV → List PV → Option Res
  | 0, _, _, _, _ => none
  | n + 1, v0, v1, v2, v3 => lpS17_7 f (lp17_7 f k0 n) k0 v0 v1 v2 v3
theorem lpR17_7 (f : Nat) (k : Kont) (n : Nat) (v0 : Int) (v1 : List
  PV) (v2 : List
  PV) (v3 : List
  PV) : evLoop tau 0 nm17_7 (fun s k => ev tau F17 0 0 c17_7 (x17_7 ) s k) (n + 1) (fillS nm17_7 N17 [PV.ptr 4464 [], PV.ptr 4465 [], PV.ptr 4466 [],
  PV.sc
    (Value.int IntKind.i64
      v0)] [(4464, Ent.box false 26 (PV.ar 26 v1)), (4465, Ent.box false 53 (PV.ar 53 v2)),
  (4466,
    Ent.box false 26
      (PV.ar 26
        v3))]) (kNorm tau 0 nx17_7 k) = lpS17_7 f (fun v0 v1 v2 v3 => evLoop tau 0 nm17_7 (fun s k => ev tau F17 0 0 c17_7 (x17_7 ) s k) n (fillS nm17_7 N17 [PV.ptr 4464 [], PV.ptr 4465 [],
  PV.ptr 4466 [],
  PV.sc
    (Value.int IntKind.i64
      v0)] [(4464, Ent.box false 26 (PV.ar 26 v1)), (4465, Ent.box false 53 (PV.ar 53 v2)),
  (4466,
    Ent.box false 26
      (PV.ar 26
        v3))]) (kNorm tau 0 nx17_7 k)) (fun x0 x1 => k (Ex.exit
  14) (fillS nx17_7 N17 [PV.ptr 4464 [], PV.ptr 4465 []] [(4464, Ent.box false 26 (PV.ar 26 x0)), (4465, Ent.box false 26 (PV.ar 26 x1))])) v0 v1 v2 v3 := by kernel_rfl
theorem lpE17_7 (f : Nat) (k : Kont) : ∀ (n : Nat) (v0 : Int) (v1 : List
  PV) (v2 : List
  PV) (v3 : List
  PV), evLoop tau 0 nm17_7 (fun s k => ev tau F17 0 0 c17_7 (x17_7 ) s k) n (fillS nm17_7 N17 [PV.ptr 4464 [], PV.ptr 4465 [], PV.ptr 4466 [],
  PV.sc
    (Value.int IntKind.i64
      v0)] [(4464, Ent.box false 26 (PV.ar 26 v1)), (4465, Ent.box false 53 (PV.ar 53 v2)),
  (4466,
    Ent.box false 26
      (PV.ar 26
        v3))]) (kNorm tau 0 nx17_7 k) = lp17_7 f (fun x0 x1 => k (Ex.exit
  14) (fillS nx17_7 N17 [PV.ptr 4464 [], PV.ptr 4465 []] [(4464, Ent.box false 26 (PV.ar 26 x0)), (4465, Ent.box false 26 (PV.ar 26 x1))])) n v0 v1 v2 v3
  | 0, _, _, _, _ => rfl
  | n + 1, v0, v1, v2, v3 => (lpR17_7 f k n v0 v1 v2 v3).trans (congrArg (fun r => lpS17_7 f r (fun x0 x1 => k (Ex.exit
  14) (fillS nx17_7 N17 [PV.ptr 4464 [],
  PV.ptr 4465 []] [(4464, Ent.box false 26 (PV.ar 26 x0)), (4465, Ent.box false 26 (PV.ar 26 x1))])) v0 v1 v2 v3) (by funext v0 v1 v2 v3; exact lpE17_7 f k n v0 v1 v2 v3))
def r17_7 (f : Nat) : List PV → List (Nat × Ent) → Kont → Option Res
  | [PV.ptr 4464 [], PV.ptr 4465 [], PV.ptr 4466 [],
  PV.sc
    (Value.int IntKind.i64
      v0)], [(4464, Ent.box false 26 (PV.ar 26 v1)), (4465, Ent.box false 53 (PV.ar 53 v2)),
  (4466,
    Ent.box false 26
      (PV.ar 26
        v3))], k => lp17_7 f (fun x0 x1 => k (Ex.exit
  14) (fillS nx17_7 N17 [PV.ptr 4464 [], PV.ptr 4465 []] [(4464, Ent.box false 26 (PV.ar 26 x0)), (4465, Ent.box false 26 (PV.ar 26 x1))])) f v0 v1 v2 v3
  | _, _, _ => none
theorem it17_7 (f : Nat) : items c17_7 x17_7 = [] := by kernel_rfl
theorem i17_7 (f : Nat) : (Item.l c17_7 nm17_7 N17 (r17_7 f)).Ok tau Try.prog 0 := loop_item tabOk F17_ok mixed (x := x17_7) (nm2 := nx17_7) (anOk_items _ _ (by rw [it17_7 f]; intro q hq; cases hq)) fun vs hp k res hr => by
  unfold r17_7 at hr
  split at hr
  · exact ⟨f, 0, (lpE17_7 f _ f _ _ _ _ ).trans hr⟩
  · cases hr
def g17 (f : Nat) (nl : Bool) (fl : Bool) (b : List PV) (k : Res → Option Res) : Option Res :=
  bif roomy (0 + b.length) 1 && true then
    bif roomy (0 + b.length + 1) 1 && true then
      lp17_0 f (fun x0_0 x1_0 x2_0 x3_0 x4_0 x5_0 x6_0 x7_0 =>
        lp17_1 f (fun x0_1 x1_1 x2_1 x3_1 x4_1 =>
          lp17_2 f (fun x0_6 x1_6 =>
            lp17_7 f (fun x0_7 x1_7 =>
              k (Res.mk (PV.ar 26 x1_7) []
                [])) f (0) x0_6 x1_6 ([PV.sc (Value.int IntKind.u8 0), PV.sc (Value.int IntKind.u8 0), PV.sc (Value.int IntKind.u8 0), PV.sc (Value.int IntKind.u8 0), PV.sc (Value.int IntKind.u8 0),
              PV.sc (Value.int IntKind.u8 0), PV.sc (Value.int IntKind.u8 0), PV.sc (Value.int IntKind.u8 0), PV.sc (Value.int IntKind.u8 0), PV.sc (Value.int IntKind.u8 0),
              PV.sc (Value.int IntKind.u8 0), PV.sc (Value.int IntKind.u8 0), PV.sc (Value.int IntKind.u8 0), PV.sc (Value.int IntKind.u8 0), PV.sc (Value.int IntKind.u8 0),
              PV.sc (Value.int IntKind.u8 0), PV.sc (Value.int IntKind.u8 0), PV.sc (Value.int IntKind.u8 0), PV.sc (Value.int IntKind.u8 0), PV.sc (Value.int IntKind.u8 0),
              PV.sc (Value.int IntKind.u8 0), PV.sc (Value.int IntKind.u8 0), PV.sc (Value.int IntKind.u8 0), PV.sc (Value.int IntKind.u8 0), PV.sc (Value.int IntKind.u8 0),
              PV.sc (Value.int IntKind.u8 0), PV.sc (Value.int IntKind.u8 0), PV.sc (Value.int IntKind.u8 0), PV.sc (Value.int IntKind.u8 0), PV.sc (Value.int IntKind.u8 0),
              PV.sc (Value.int IntKind.u8 0),
              PV.sc
                (Value.int IntKind.u8
                  0)])) f x0_1 (0) x1_1 x2_1 x3_1 x4_1 ([PV.sc (Value.int IntKind.u32 0), PV.sc (Value.int IntKind.u32 0), PV.sc (Value.int IntKind.u32 0), PV.sc (Value.int IntKind.u32 0),
            PV.sc (Value.int IntKind.u32 0), PV.sc (Value.int IntKind.u32 0), PV.sc (Value.int IntKind.u32 0), PV.sc (Value.int IntKind.u32 0), PV.sc (Value.int IntKind.u32 0),
            PV.sc (Value.int IntKind.u32 0), PV.sc (Value.int IntKind.u32 0), PV.sc (Value.int IntKind.u32 0), PV.sc (Value.int IntKind.u32 0), PV.sc (Value.int IntKind.u32 0),
            PV.sc (Value.int IntKind.u32 0), PV.sc (Value.int IntKind.u32 0), PV.sc (Value.int IntKind.u32 0), PV.sc (Value.int IntKind.u32 0), PV.sc (Value.int IntKind.u32 0),
            PV.sc (Value.int IntKind.u32 0), PV.sc (Value.int IntKind.u32 0), PV.sc (Value.int IntKind.u32 0), PV.sc (Value.int IntKind.u32 0), PV.sc (Value.int IntKind.u32 0),
            PV.sc (Value.int IntKind.u32 0), PV.sc (Value.int IntKind.u32 0), PV.sc (Value.int IntKind.u32 0), PV.sc (Value.int IntKind.u32 0), PV.sc (Value.int IntKind.u32 0),
            PV.sc (Value.int IntKind.u32 0), PV.sc (Value.int IntKind.u32 0), PV.sc (Value.int IntKind.u32 0), PV.sc (Value.int IntKind.u32 0), PV.sc (Value.int IntKind.u32 0),
            PV.sc (Value.int IntKind.u32 0), PV.sc (Value.int IntKind.u32 0), PV.sc (Value.int IntKind.u32 0), PV.sc (Value.int IntKind.u32 0), PV.sc (Value.int IntKind.u32 0),
            PV.sc (Value.int IntKind.u32 0), PV.sc (Value.int IntKind.u32 0), PV.sc (Value.int IntKind.u32 0), PV.sc (Value.int IntKind.u32 0), PV.sc (Value.int IntKind.u32 0),
            PV.sc (Value.int IntKind.u32 0), PV.sc (Value.int IntKind.u32 0), PV.sc (Value.int IntKind.u32 0), PV.sc (Value.int IntKind.u32 0), PV.sc (Value.int IntKind.u32 0),
            PV.sc (Value.int IntKind.u32 0), PV.sc (Value.int IntKind.u32 0), PV.sc (Value.int IntKind.u32 0), PV.sc (Value.int IntKind.u32 0), PV.sc (Value.int IntKind.u32 0),
            PV.sc (Value.int IntKind.u32 0), PV.sc (Value.int IntKind.u32 0), PV.sc (Value.int IntKind.u32 0), PV.sc (Value.int IntKind.u32 0), PV.sc (Value.int IntKind.u32 0),
            PV.sc (Value.int IntKind.u32 0), PV.sc (Value.int IntKind.u32 0), PV.sc (Value.int IntKind.u32 0), PV.sc (Value.int IntKind.u32 0),
            PV.sc
              (Value.int IntKind.u32
                0)])) f x3_0 (IntKind.u64.wrap
          (IntKind.u64.wrap (zi x2_0.length) *
            8)) (7) x4_0 x5_0 x6_0 x7_0) f nl fl b (0 + b.length +
        1) ([PV.sc (Value.int IntKind.u8 0), PV.sc (Value.int IntKind.u8 0), PV.sc (Value.int IntKind.u8 0), PV.sc (Value.int IntKind.u8 0), PV.sc (Value.int IntKind.u8 0),
        PV.sc (Value.int IntKind.u8 0), PV.sc (Value.int IntKind.u8 0), PV.sc (Value.int IntKind.u8 0), PV.sc (Value.int IntKind.u8 0), PV.sc (Value.int IntKind.u8 0), PV.sc (Value.int IntKind.u8 0),
        PV.sc (Value.int IntKind.u8 0), PV.sc (Value.int IntKind.u8 0), PV.sc (Value.int IntKind.u8 0), PV.sc (Value.int IntKind.u8 0), PV.sc (Value.int IntKind.u8 0), PV.sc (Value.int IntKind.u8 0),
        PV.sc (Value.int IntKind.u8 0), PV.sc (Value.int IntKind.u8 0), PV.sc (Value.int IntKind.u8 0), PV.sc (Value.int IntKind.u8 0), PV.sc (Value.int IntKind.u8 0), PV.sc (Value.int IntKind.u8 0),
        PV.sc (Value.int IntKind.u8 0), PV.sc (Value.int IntKind.u8 0), PV.sc (Value.int IntKind.u8 0), PV.sc (Value.int IntKind.u8 0), PV.sc (Value.int IntKind.u8 0), PV.sc (Value.int IntKind.u8 0),
        PV.sc (Value.int IntKind.u8 0), PV.sc (Value.int IntKind.u8 0),
        PV.sc
          (Value.int IntKind.u8
            0)]) ([PV.sc (Value.int IntKind.u32 1116352408), PV.sc (Value.int IntKind.u32 1899447441), PV.sc (Value.int IntKind.u32 3049323471), PV.sc (Value.int IntKind.u32 3921009573),
        PV.sc (Value.int IntKind.u32 961987163), PV.sc (Value.int IntKind.u32 1508970993), PV.sc (Value.int IntKind.u32 2453635748), PV.sc (Value.int IntKind.u32 2870763221),
        PV.sc (Value.int IntKind.u32 3624381080), PV.sc (Value.int IntKind.u32 310598401), PV.sc (Value.int IntKind.u32 607225278), PV.sc (Value.int IntKind.u32 1426881987),
        PV.sc (Value.int IntKind.u32 1925078388), PV.sc (Value.int IntKind.u32 2162078206), PV.sc (Value.int IntKind.u32 2614888103), PV.sc (Value.int IntKind.u32 3248222580),
        PV.sc (Value.int IntKind.u32 3835390401), PV.sc (Value.int IntKind.u32 4022224774), PV.sc (Value.int IntKind.u32 264347078), PV.sc (Value.int IntKind.u32 604807628),
        PV.sc (Value.int IntKind.u32 770255983), PV.sc (Value.int IntKind.u32 1249150122), PV.sc (Value.int IntKind.u32 1555081692), PV.sc (Value.int IntKind.u32 1996064986),
        PV.sc (Value.int IntKind.u32 2554220882), PV.sc (Value.int IntKind.u32 2821834349), PV.sc (Value.int IntKind.u32 2952996808), PV.sc (Value.int IntKind.u32 3210313671),
        PV.sc (Value.int IntKind.u32 3336571891), PV.sc (Value.int IntKind.u32 3584528711), PV.sc (Value.int IntKind.u32 113926993), PV.sc (Value.int IntKind.u32 338241895),
        PV.sc (Value.int IntKind.u32 666307205), PV.sc (Value.int IntKind.u32 773529912), PV.sc (Value.int IntKind.u32 1294757372), PV.sc (Value.int IntKind.u32 1396182291),
        PV.sc (Value.int IntKind.u32 1695183700), PV.sc (Value.int IntKind.u32 1986661051), PV.sc (Value.int IntKind.u32 2177026350), PV.sc (Value.int IntKind.u32 2456956037),
        PV.sc (Value.int IntKind.u32 2730485921), PV.sc (Value.int IntKind.u32 2820302411), PV.sc (Value.int IntKind.u32 3259730800), PV.sc (Value.int IntKind.u32 3345764771),
        PV.sc (Value.int IntKind.u32 3516065817), PV.sc (Value.int IntKind.u32 3600352804), PV.sc (Value.int IntKind.u32 4094571909), PV.sc (Value.int IntKind.u32 275423344),
        PV.sc (Value.int IntKind.u32 430227734), PV.sc (Value.int IntKind.u32 506948616), PV.sc (Value.int IntKind.u32 659060556), PV.sc (Value.int IntKind.u32 883997877),
        PV.sc (Value.int IntKind.u32 958139571), PV.sc (Value.int IntKind.u32 1322822218), PV.sc (Value.int IntKind.u32 1537002063), PV.sc (Value.int IntKind.u32 1747873779),
        PV.sc (Value.int IntKind.u32 1955562222), PV.sc (Value.int IntKind.u32 2024104815), PV.sc (Value.int IntKind.u32 2227730452), PV.sc (Value.int IntKind.u32 2361852424),
        PV.sc (Value.int IntKind.u32 2428436474), PV.sc (Value.int IntKind.u32 2756734187), PV.sc (Value.int IntKind.u32 3204031479),
        PV.sc
          (Value.int IntKind.u32
            3329325298)]) ([PV.sc (Value.int IntKind.u32 1779033703), PV.sc (Value.int IntKind.u32 3144134277), PV.sc (Value.int IntKind.u32 1013904242), PV.sc (Value.int IntKind.u32 2773480762),
        PV.sc (Value.int IntKind.u32 1359893119), PV.sc (Value.int IntKind.u32 2600822924), PV.sc (Value.int IntKind.u32 528734635),
        PV.sc (Value.int IntKind.u32 1541459225)]) (List.take (0 + b.length) ([] ++ b) ++ [PV.sc (Value.int IntKind.u8 128)])
    else none
  else none
theorem e17 (f : Nat) (nl : Bool) (fl : Bool) (b : List PV) (k : Res → Option Res) : evFn tau F17 Try.f17 (Try.f17.body.get!) (an17 (r17_0 f) (r17_1 f) (r17_2 f) (r17_7 f)) [] 0 [.ro 5 nl fl b] [] k = g17 f nl fl b k := by kernel_rfl
theorem it17 (f : Nat) : items (Try.f17.body.get!) (an17 (r17_0 f) (r17_1 f) (r17_2 f) (r17_7 f)) = [.l c17_0 nm17_0 N17 (r17_0 f), .l c17_1 nm17_1 N17 (r17_1 f), .l c17_2 nm17_2 N17 (r17_2 f), .l c17_7 nm17_7 N17 (r17_7 f)] := by kernel_rfl
theorem ia17 (f : Nat) : ∀ q ∈ items (Try.f17.body.get!) (an17 (r17_0 f) (r17_1 f) (r17_2 f) (r17_7 f)), q.Ok tau Try.prog 0 := by
  rw [it17 f]; simp only [List.forall_mem_cons, List.not_mem_nil, false_implies, implies_true, and_true]; exact ⟨i17_0 f, i17_1 f, i17_2 f, i17_7 f⟩
theorem fo17 : Try.prog.funcs[17]? = some Try.f17 := by kernel_rfl
theorem bo17 : Try.f17.body = some (Try.f17.body.get!) := by kernel_rfl
theorem en17 : Enters Try.prog 17 := enters_of fo17 (by kernel_rfl) bo17
end Go.Proofs.Ytodldmomneecpaa.Rx

/- What comitia/sha.spread computes. Own work, printed by a program of the worker's own. -/
namespace Go.Proofs.Ytodldmomneecpaa.Rx
open Go
set_option linter.unusedVariables false
set_option maxRecDepth 100000
set_option maxHeartbeats 0
def N37 : Nat := 89
noncomputable def F37 : Fns := addF 39 s39' F0
theorem F37_ok : FnsOk tau Try.prog F37 := F0_ok.add ok39' en39
noncomputable def c37_0 : Code := subC (Try.f37.body.get!) [1, 1, 0, 1, 0, 0]
def nm37_0 : Nm := [(0, .any), (2, .any), (3, .any), (8, .any)]
def nx37_0 : Nm := [(2, .any), (3, .any)]
def x37_0 : An := (.seq .leaf (.seq (.cond .leaf .leaf) (.seq (.block none (.seq .leaf .leaf)) .leaf)))
noncomputable def c37_1 : Code := subC (Try.f37.body.get!) [1, 1, 1, 0, 1, 0, 0]
def nm37_1 : Nm := [(2, .any), (3, .any), (5, .any)]
def nx37_1 : Nm := [(2, .any), (3, .any)]
def x37_1 : An := (.seq (.seq .leaf (.cond .leaf .leaf)) (.seq (.block none (.seq .leaf .leaf)) .leaf))
def an37 (r0 : RunL) (r1 : RunL) : An := (.seq .leaf (.seq .leaf (.seq (.seq .leaf (.block none (.sum nm37_0 N37 r0))) (.seq (.seq .leaf (.block none (.sum nm37_1 N37 r1))) (.seq .leaf .leaf)))))
def lpS37_0 (f : Nat) (rc : Bool → Bool → List
  PV → Int → List PV → List PV → Option Res) (k0 : List PV → List PV → Option Res) (v0 : Bool) (v1 : Bool) (v2 : List PV) (v3 : Int) (v4 : List PV) (v5 : List PV) : Option Res :=
  bif decide (v3 < 16) then
    bif decide (0 ≤ IntKind.i64.wrap (4 * v3)) && decide (IntKind.i64.wrap (4 * v3) < zi v2.length) && PV.isInt IntKind.u8 (v2.getD (IntKind.i64.wrap (4 * v3)).toNat PV.top) && true then
      bif decide (0 ≤ IntKind.i64.wrap (IntKind.i64.wrap (4 * v3) + 1)) && decide (IntKind.i64.wrap (IntKind.i64.wrap (4 * v3) + 1) < zi v2.length) &&
          PV.isInt IntKind.u8 (v2.getD (IntKind.i64.wrap (IntKind.i64.wrap (4 * v3) + 1)).toNat PV.top) &&
        true then
        bif decide (0 ≤ IntKind.i64.wrap (IntKind.i64.wrap (4 * v3) + 2)) && decide (IntKind.i64.wrap (IntKind.i64.wrap (4 * v3) + 2) < zi v2.length) &&
            PV.isInt IntKind.u8 (v2.getD (IntKind.i64.wrap (IntKind.i64.wrap (4 * v3) + 2)).toNat PV.top) &&
          true then
          bif decide (0 ≤ IntKind.i64.wrap (IntKind.i64.wrap (4 * v3) + 3)) && decide (IntKind.i64.wrap (IntKind.i64.wrap (4 * v3) + 3) < zi v2.length) &&
              PV.isInt IntKind.u8 (v2.getD (IntKind.i64.wrap (IntKind.i64.wrap (4 * v3) + 3)).toNat PV.top) &&
            true then
            bif decide (0 ≤ v3) && decide (v3 < zi 64) && true then
              rc v0 v1 v2 (IntKind.i64.wrap
                (v3 +
                  1)) v4 (v5.set v3.toNat
                (PV.sc
                  (Value.int IntKind.u32
                    (bitI BinOp.or IntKind.u32
                      (bitI BinOp.or IntKind.u32
                        (bitI BinOp.or IntKind.u32 (shlI IntKind.u32 (IntKind.u32.wrap (v2.getD (IntKind.i64.wrap (4 * v3)).toNat PV.top).int) 24)
                          (shlI IntKind.u32 (IntKind.u32.wrap (v2.getD (IntKind.i64.wrap (IntKind.i64.wrap (4 * v3) + 1)).toNat PV.top).int) 16))
                        (shlI IntKind.u32 (IntKind.u32.wrap (v2.getD (IntKind.i64.wrap (IntKind.i64.wrap (4 * v3) + 2)).toNat PV.top).int) 8))
                      (IntKind.u32.wrap (v2.getD (IntKind.i64.wrap (IntKind.i64.wrap (4 * v3) + 3)).toNat PV.top).int)))))
            else none
          else none
        else none
      else none
    else none
  else k0 v4 v5
def lp37_0 (f : Nat) (k0 : List PV → List PV → Option Res) : Nat → Bool → Bool → List PV → Int → List PV → List PV → Option Res
  | 0, _, _, _, _, _, _ => none
  | n + 1, v0, v1, v2, v3, v4, v5 => lpS37_0 f (lp37_0 f k0 n) k0 v0 v1 v2 v3 v4 v5
theorem lpR37_0 (f : Nat) (k : Kont) (n : Nat) (v0 : Bool) (v1 : Bool) (v2 : List
  PV) (v3 : Int) (v4 : List
  PV) (v5 : List
  PV) : evLoop tau 0 nm37_0 (fun s k => ev tau F37 0 0 c37_0 (x37_0 ) s k) (n + 1) (fillS nm37_0 N37 [PV.ro 5 v0 v1 v2, PV.ptr 1440 [], PV.ptr 1441 [],
  PV.sc
    (Value.int IntKind.i64
      v3)] [(1440, Ent.box false 51 (PV.ar 51 v4)),
  (1441,
    Ent.box false 51
      (PV.ar 51
        v5))]) (kNorm tau 0 nx37_0 k) = lpS37_0 f (fun v0 v1 v2 v3 v4 v5 => evLoop tau 0 nm37_0 (fun s k => ev tau F37 0 0 c37_0 (x37_0 ) s k) n (fillS nm37_0 N37 [PV.ro 5 v0 v1 v2,
  PV.ptr 1440 [], PV.ptr 1441 [],
  PV.sc
    (Value.int IntKind.i64
      v3)] [(1440, Ent.box false 51 (PV.ar 51 v4)),
  (1441,
    Ent.box false 51
      (PV.ar 51
        v5))]) (kNorm tau 0 nx37_0 k)) (fun x0 x1 => k (Ex.exit
  0) (fillS nx37_0 N37 [PV.ptr 1440 [], PV.ptr 1441 []] [(1440, Ent.box false 51 (PV.ar 51 x0)), (1441, Ent.box false 51 (PV.ar 51 x1))])) v0 v1 v2 v3 v4 v5 := by kernel_rfl
theorem lpE37_0 (f : Nat) (k : Kont) : ∀ (n : Nat) (v0 : Bool) (v1 : Bool) (v2 : List
  PV) (v3 : Int) (v4 : List
  PV) (v5 : List
  PV), evLoop tau 0 nm37_0 (fun s k => ev tau F37 0 0 c37_0 (x37_0 ) s k) n (fillS nm37_0 N37 [PV.ro 5 v0 v1 v2, PV.ptr 1440 [], PV.ptr 1441 [],
  PV.sc
    (Value.int IntKind.i64
      v3)] [(1440, Ent.box false 51 (PV.ar 51 v4)),
  (1441,
    Ent.box false 51
      (PV.ar 51
        v5))]) (kNorm tau 0 nx37_0 k) = lp37_0 f (fun x0 x1 => k (Ex.exit
  0) (fillS nx37_0 N37 [PV.ptr 1440 [], PV.ptr 1441 []] [(1440, Ent.box false 51 (PV.ar 51 x0)), (1441, Ent.box false 51 (PV.ar 51 x1))])) n v0 v1 v2 v3 v4 v5
  | 0, _, _, _, _, _, _ => rfl
  | n + 1, v0, v1, v2, v3, v4, v5 => (lpR37_0 f k n v0 v1 v2 v3 v4 v5).trans (congrArg (fun r => lpS37_0 f r (fun x0 x1 => k (Ex.exit
  0) (fillS nx37_0 N37 [PV.ptr 1440 [],
  PV.ptr 1441 []] [(1440, Ent.box false 51 (PV.ar 51 x0)), (1441, Ent.box false 51 (PV.ar 51 x1))])) v0 v1 v2 v3 v4 v5) (by funext v0 v1 v2 v3 v4 v5; exact lpE37_0 f k n v0 v1 v2 v3 v4 v5))
def r37_0 (f : Nat) : List PV → List (Nat × Ent) → Kont → Option Res
  | [PV.ro 5 v0 v1 v2, PV.ptr 1440 [], PV.ptr 1441 [],
  PV.sc
    (Value.int IntKind.i64
      v3)], [(1440, Ent.box false 51 (PV.ar 51 v4)),
  (1441,
    Ent.box false 51
      (PV.ar 51
        v5))], k => lp37_0 f (fun x0 x1 => k (Ex.exit
  0) (fillS nx37_0 N37 [PV.ptr 1440 [], PV.ptr 1441 []] [(1440, Ent.box false 51 (PV.ar 51 x0)), (1441, Ent.box false 51 (PV.ar 51 x1))])) f v0 v1 v2 v3 v4 v5
  | _, _, _ => none
theorem it37_0 (f : Nat) : items c37_0 x37_0 = [] := by kernel_rfl
theorem i37_0 (f : Nat) : (Item.l c37_0 nm37_0 N37 (r37_0 f)).Ok tau Try.prog 0 := loop_item tabOk F37_ok mixed (x := x37_0) (nm2 := nx37_0) (anOk_items _ _ (by rw [it37_0 f]; intro q hq; cases hq)) fun vs hp k res hr => by
  unfold r37_0 at hr
  split at hr
  · exact ⟨f, 0, (lpE37_0 f _ f _ _ _ _ _ _ ).trans hr⟩
  · cases hr
def lpS37_1 (f : Nat) (rc : Int → List PV → List PV → Option Res) (k0 : List PV → List PV → Option Res) (v0 : Int) (v1 : List PV) (v2 : List PV) : Option Res :=
  bif decide (v0 < 64) then
    bif decide (0 ≤ IntKind.i64.wrap (v0 - 15)) && decide (IntKind.i64.wrap (v0 - 15) < zi 64) && true then
      bif PV.isInt IntKind.u32 (getP (PV.ar 51 v2) [(IntKind.i64.wrap (v0 - 15)).toNat]) && true then
        bif decide (0 ≤ IntKind.i64.wrap (v0 - 2)) && decide (IntKind.i64.wrap (v0 - 2) < zi 64) && true then
          bif PV.isInt IntKind.u32 (getP (PV.ar 51 v2) [(IntKind.i64.wrap (v0 - 2)).toNat]) && true then
            bif decide (0 ≤ IntKind.i64.wrap (v0 - 16)) && decide (IntKind.i64.wrap (v0 - 16) < zi 64) && true then
              bif PV.isInt IntKind.u32 (getP (PV.ar 51 v2) [(IntKind.i64.wrap (v0 - 16)).toNat]) && true then
                bif decide (0 ≤ IntKind.i64.wrap (v0 - 7)) && decide (IntKind.i64.wrap (v0 - 7) < zi 64) && true then
                  bif PV.isInt IntKind.u32 (getP (PV.ar 51 v2) [(IntKind.i64.wrap (v0 - 7)).toNat]) && true then
                    bif decide (0 ≤ v0) && decide (v0 < zi 64) && true then
                      rc (IntKind.i64.wrap
                        (v0 +
                          1)) v1 (v2.set v0.toNat
                        (PV.sc
                          (Value.int IntKind.u32
                            (IntKind.u32.wrap
                              (IntKind.u32.wrap
                                  (IntKind.u32.wrap
                                      ((getP (PV.ar 51 v2) [(IntKind.i64.wrap (v0 - 16)).toNat]).int +
                                        bitI BinOp.xor IntKind.u32
                                          (bitI BinOp.xor IntKind.u32 (rr (getP (PV.ar 51 v2) [(IntKind.i64.wrap (v0 - 15)).toNat]).int 7)
                                            (rr (getP (PV.ar 51 v2) [(IntKind.i64.wrap (v0 - 15)).toNat]).int 18))
                                          (shrI IntKind.u32 (getP (PV.ar 51 v2) [(IntKind.i64.wrap (v0 - 15)).toNat]).int 3)) +
                                    (getP (PV.ar 51 v2) [(IntKind.i64.wrap (v0 - 7)).toNat]).int) +
                                bitI BinOp.xor IntKind.u32
                                  (bitI BinOp.xor IntKind.u32 (rr (getP (PV.ar 51 v2) [(IntKind.i64.wrap (v0 - 2)).toNat]).int 17) (rr (getP (PV.ar 51 v2) [(IntKind.i64.wrap (v0 - 2)).toNat]).int 19))
                                  (shrI IntKind.u32 (getP (PV.ar 51 v2) [(IntKind.i64.wrap (v0 - 2)).toNat]).int 10))))))
                    else none
                  else none
                else none
              else none
            else none
          else none
        else none
      else none
    else none
  else k0 v1 v2
def lp37_1 (f : Nat) (k0 : List PV → List PV → Option Res) : Nat → Int → List PV → List PV → Option Res
  | 0, _, _, _ => none
  | n + 1, v0, v1, v2 => lpS37_1 f (lp37_1 f k0 n) k0 v0 v1 v2
theorem lpR37_1 (f : Nat) (k : Kont) (n : Nat) (v0 : Int) (v1 : List
  PV) (v2 : List
  PV) : evLoop tau 0 nm37_1 (fun s k => ev tau F37 0 0 c37_1 (x37_1 ) s k) (n + 1) (fillS nm37_1 N37 [PV.ptr 1440 [], PV.ptr 1441 [],
  PV.sc
    (Value.int IntKind.i64
      v0)] [(1440, Ent.box false 51 (PV.ar 51 v1)),
  (1441,
    Ent.box false 51
      (PV.ar 51
        v2))]) (kNorm tau 0 nx37_1 k) = lpS37_1 f (fun v0 v1 v2 => evLoop tau 0 nm37_1 (fun s k => ev tau F37 0 0 c37_1 (x37_1 ) s k) n (fillS nm37_1 N37 [PV.ptr 1440 [], PV.ptr 1441 [],
  PV.sc
    (Value.int IntKind.i64
      v0)] [(1440, Ent.box false 51 (PV.ar 51 v1)),
  (1441,
    Ent.box false 51
      (PV.ar 51
        v2))]) (kNorm tau 0 nx37_1 k)) (fun x0 x1 => k (Ex.exit
  2) (fillS nx37_1 N37 [PV.ptr 1440 [], PV.ptr 1441 []] [(1440, Ent.box false 51 (PV.ar 51 x0)), (1441, Ent.box false 51 (PV.ar 51 x1))])) v0 v1 v2 := by kernel_rfl
theorem lpE37_1 (f : Nat) (k : Kont) : ∀ (n : Nat) (v0 : Int) (v1 : List
  PV) (v2 : List
  PV), evLoop tau 0 nm37_1 (fun s k => ev tau F37 0 0 c37_1 (x37_1 ) s k) n (fillS nm37_1 N37 [PV.ptr 1440 [], PV.ptr 1441 [],
  PV.sc
    (Value.int IntKind.i64
      v0)] [(1440, Ent.box false 51 (PV.ar 51 v1)),
  (1441,
    Ent.box false 51
      (PV.ar 51
        v2))]) (kNorm tau 0 nx37_1 k) = lp37_1 f (fun x0 x1 => k (Ex.exit
  2) (fillS nx37_1 N37 [PV.ptr 1440 [], PV.ptr 1441 []] [(1440, Ent.box false 51 (PV.ar 51 x0)), (1441, Ent.box false 51 (PV.ar 51 x1))])) n v0 v1 v2
  | 0, _, _, _ => rfl
  | n + 1, v0, v1, v2 => (lpR37_1 f k n v0 v1 v2).trans (congrArg (fun r => lpS37_1 f r (fun x0 x1 => k (Ex.exit
  2) (fillS nx37_1 N37 [PV.ptr 1440 [], PV.ptr 1441 []] [(1440, Ent.box false 51 (PV.ar 51 x0)), (1441, Ent.box false 51 (PV.ar 51 x1))])) v0 v1 v2) (by funext v0 v1 v2; exact lpE37_1 f k n v0 v1 v2))
def r37_1 (f : Nat) : List PV → List (Nat × Ent) → Kont → Option Res
  | [PV.ptr 1440 [], PV.ptr 1441 [],
  PV.sc
    (Value.int IntKind.i64
      v0)], [(1440, Ent.box false 51 (PV.ar 51 v1)),
  (1441,
    Ent.box false 51
      (PV.ar 51
        v2))], k => lp37_1 f (fun x0 x1 => k (Ex.exit
  2) (fillS nx37_1 N37 [PV.ptr 1440 [], PV.ptr 1441 []] [(1440, Ent.box false 51 (PV.ar 51 x0)), (1441, Ent.box false 51 (PV.ar 51 x1))])) f v0 v1 v2
  | _, _, _ => none
theorem it37_1 (f : Nat) : items c37_1 x37_1 = [] := by kernel_rfl
theorem i37_1 (f : Nat) : (Item.l c37_1 nm37_1 N37 (r37_1 f)).Ok tau Try.prog 0 := loop_item tabOk F37_ok mixed (x := x37_1) (nm2 := nx37_1) (anOk_items _ _ (by rw [it37_1 f]; intro q hq; cases hq)) fun vs hp k res hr => by
  unfold r37_1 at hr
  split at hr
  · exact ⟨f, 0, (lpE37_1 f _ f _ _ _ ).trans hr⟩
  · cases hr
def g37 (f : Nat) (nl : Bool) (fl : Bool) (b : List PV) (k : Res → Option Res) : Option Res :=
  lp37_0 f (fun x0_0 x1_0 =>
    lp37_1 f (fun x0_1 x1_1 =>
      k (Res.mk (PV.ar 51 x1_1) []
        [])) f (16) x0_0 x1_0) f nl fl b (0) ([PV.sc (Value.int IntKind.u32 0), PV.sc (Value.int IntKind.u32 0), PV.sc (Value.int IntKind.u32 0), PV.sc (Value.int IntKind.u32 0),
    PV.sc (Value.int IntKind.u32 0), PV.sc (Value.int IntKind.u32 0), PV.sc (Value.int IntKind.u32 0), PV.sc (Value.int IntKind.u32 0), PV.sc (Value.int IntKind.u32 0),
    PV.sc (Value.int IntKind.u32 0), PV.sc (Value.int IntKind.u32 0), PV.sc (Value.int IntKind.u32 0), PV.sc (Value.int IntKind.u32 0), PV.sc (Value.int IntKind.u32 0),
    PV.sc (Value.int IntKind.u32 0), PV.sc (Value.int IntKind.u32 0), PV.sc (Value.int IntKind.u32 0), PV.sc (Value.int IntKind.u32 0), PV.sc (Value.int IntKind.u32 0),
    PV.sc (Value.int IntKind.u32 0), PV.sc (Value.int IntKind.u32 0), PV.sc (Value.int IntKind.u32 0), PV.sc (Value.int IntKind.u32 0), PV.sc (Value.int IntKind.u32 0),
    PV.sc (Value.int IntKind.u32 0), PV.sc (Value.int IntKind.u32 0), PV.sc (Value.int IntKind.u32 0), PV.sc (Value.int IntKind.u32 0), PV.sc (Value.int IntKind.u32 0),
    PV.sc (Value.int IntKind.u32 0), PV.sc (Value.int IntKind.u32 0), PV.sc (Value.int IntKind.u32 0), PV.sc (Value.int IntKind.u32 0), PV.sc (Value.int IntKind.u32 0),
    PV.sc (Value.int IntKind.u32 0), PV.sc (Value.int IntKind.u32 0), PV.sc (Value.int IntKind.u32 0), PV.sc (Value.int IntKind.u32 0), PV.sc (Value.int IntKind.u32 0),
    PV.sc (Value.int IntKind.u32 0), PV.sc (Value.int IntKind.u32 0), PV.sc (Value.int IntKind.u32 0), PV.sc (Value.int IntKind.u32 0), PV.sc (Value.int IntKind.u32 0),
    PV.sc (Value.int IntKind.u32 0), PV.sc (Value.int IntKind.u32 0), PV.sc (Value.int IntKind.u32 0), PV.sc (Value.int IntKind.u32 0), PV.sc (Value.int IntKind.u32 0),
    PV.sc (Value.int IntKind.u32 0), PV.sc (Value.int IntKind.u32 0), PV.sc (Value.int IntKind.u32 0), PV.sc (Value.int IntKind.u32 0), PV.sc (Value.int IntKind.u32 0),
    PV.sc (Value.int IntKind.u32 0), PV.sc (Value.int IntKind.u32 0), PV.sc (Value.int IntKind.u32 0), PV.sc (Value.int IntKind.u32 0), PV.sc (Value.int IntKind.u32 0),
    PV.sc (Value.int IntKind.u32 0), PV.sc (Value.int IntKind.u32 0), PV.sc (Value.int IntKind.u32 0), PV.sc (Value.int IntKind.u32 0),
    PV.sc
      (Value.int IntKind.u32
        0)]) ([PV.sc (Value.int IntKind.u32 0), PV.sc (Value.int IntKind.u32 0), PV.sc (Value.int IntKind.u32 0), PV.sc (Value.int IntKind.u32 0), PV.sc (Value.int IntKind.u32 0),
    PV.sc (Value.int IntKind.u32 0), PV.sc (Value.int IntKind.u32 0), PV.sc (Value.int IntKind.u32 0), PV.sc (Value.int IntKind.u32 0), PV.sc (Value.int IntKind.u32 0),
    PV.sc (Value.int IntKind.u32 0), PV.sc (Value.int IntKind.u32 0), PV.sc (Value.int IntKind.u32 0), PV.sc (Value.int IntKind.u32 0), PV.sc (Value.int IntKind.u32 0),
    PV.sc (Value.int IntKind.u32 0), PV.sc (Value.int IntKind.u32 0), PV.sc (Value.int IntKind.u32 0), PV.sc (Value.int IntKind.u32 0), PV.sc (Value.int IntKind.u32 0),
    PV.sc (Value.int IntKind.u32 0), PV.sc (Value.int IntKind.u32 0), PV.sc (Value.int IntKind.u32 0), PV.sc (Value.int IntKind.u32 0), PV.sc (Value.int IntKind.u32 0),
    PV.sc (Value.int IntKind.u32 0), PV.sc (Value.int IntKind.u32 0), PV.sc (Value.int IntKind.u32 0), PV.sc (Value.int IntKind.u32 0), PV.sc (Value.int IntKind.u32 0),
    PV.sc (Value.int IntKind.u32 0), PV.sc (Value.int IntKind.u32 0), PV.sc (Value.int IntKind.u32 0), PV.sc (Value.int IntKind.u32 0), PV.sc (Value.int IntKind.u32 0),
    PV.sc (Value.int IntKind.u32 0), PV.sc (Value.int IntKind.u32 0), PV.sc (Value.int IntKind.u32 0), PV.sc (Value.int IntKind.u32 0), PV.sc (Value.int IntKind.u32 0),
    PV.sc (Value.int IntKind.u32 0), PV.sc (Value.int IntKind.u32 0), PV.sc (Value.int IntKind.u32 0), PV.sc (Value.int IntKind.u32 0), PV.sc (Value.int IntKind.u32 0),
    PV.sc (Value.int IntKind.u32 0), PV.sc (Value.int IntKind.u32 0), PV.sc (Value.int IntKind.u32 0), PV.sc (Value.int IntKind.u32 0), PV.sc (Value.int IntKind.u32 0),
    PV.sc (Value.int IntKind.u32 0), PV.sc (Value.int IntKind.u32 0), PV.sc (Value.int IntKind.u32 0), PV.sc (Value.int IntKind.u32 0), PV.sc (Value.int IntKind.u32 0),
    PV.sc (Value.int IntKind.u32 0), PV.sc (Value.int IntKind.u32 0), PV.sc (Value.int IntKind.u32 0), PV.sc (Value.int IntKind.u32 0), PV.sc (Value.int IntKind.u32 0),
    PV.sc (Value.int IntKind.u32 0), PV.sc (Value.int IntKind.u32 0), PV.sc (Value.int IntKind.u32 0), PV.sc (Value.int IntKind.u32 0)])
theorem e37 (f : Nat) (nl : Bool) (fl : Bool) (b : List PV) (k : Res → Option Res) : evFn tau F37 Try.f37 (Try.f37.body.get!) (an37 (r37_0 f) (r37_1 f)) [] 0 [.ro 5 nl fl b] [] k = g37 f nl fl b k := by kernel_rfl
theorem it37 (f : Nat) : items (Try.f37.body.get!) (an37 (r37_0 f) (r37_1 f)) = [.l c37_0 nm37_0 N37 (r37_0 f), .l c37_1 nm37_1 N37 (r37_1 f)] := by kernel_rfl
theorem ia37 (f : Nat) : ∀ q ∈ items (Try.f37.body.get!) (an37 (r37_0 f) (r37_1 f)), q.Ok tau Try.prog 0 := by
  rw [it37 f]; simp only [List.forall_mem_cons, List.not_mem_nil, false_implies, implies_true, and_true]; exact ⟨i37_0 f, i37_1 f⟩
theorem fo37 : Try.prog.funcs[37]? = some Try.f37 := by kernel_rfl
theorem bo37 : Try.f37.body = some (Try.f37.body.get!) := by kernel_rfl
theorem en37 : Enters Try.prog 37 := enters_of fo37 (by kernel_rfl) bo37
end Go.Proofs.Ytodldmomneecpaa.Rx

/- The words of a piece, one for each round. Own work. -/
namespace Go.Proofs.Ytodldmomneecpaa.Rx
open Go
set_option linter.unusedVariables false
set_option maxRecDepth 100000
abbrev ww (x : Int) : Int := IntKind.u32.wrap x
def word4 (a b c d : Int) : Int := bitI .or .u32 (bitI .or .u32 (bitI .or .u32 (shlI .u32 (ww a) 24) (shlI .u32 (ww b) 16)) (shlI .u32 (ww c) 8)) (ww d)
def sg0 (x : Int) : Int := bitI .xor .u32 (bitI .xor .u32 (rr x 7) (rr x 18)) (shrI .u32 x 3)
def sg1 (x : Int) : Int := bitI .xor .u32 (bitI .xor .u32 (rr x 17) (rr x 19)) (shrI .u32 x 10)
def nxtW (w16 w15 w7 w2 : Int) : Int := ww (ww (ww (w16 + sg0 w15) + w7) + sg1 w2)
def word (bs : List Int) (j : Nat) : Int := word4 (bs.getD (4 * j) 0) (bs.getD (4 * j + 1) 0) (bs.getD (4 * j + 2) 0) (bs.getD (4 * j + 3) 0)
def sched (bs : List Int) : Nat → List Int
  | 0 => (List.range 16).map (word bs)
  | i + 1 => sched bs i ++ [nxtW ((sched bs i).getD i 0) ((sched bs i).getD (i + 1) 0) ((sched bs i).getD (i + 9) 0) ((sched bs i).getD (i + 14) 0)]
def spreadP (bs : List Int) : List Int := sched bs 48
theorem sched_length (bs : List Int) : ∀ i, (sched bs i).length = 16 + i
  | 0 => by simp [sched]
  | i + 1 => by simp [sched, sched_length bs i]; omega
def fill0 (bs : List Int) (i : Nat) : List Int := (List.range i).map (word bs) ++ List.replicate (64 - i) 0
def fill1 (bs : List Int) (i : Nat) : List Int := sched bs i ++ List.replicate (48 - i) 0
theorem fill0_length (bs : List Int) (i : Nat) (h : i ≤ 64) : (fill0 bs i).length = 64 := by simp [fill0]; omega
theorem fill1_length (bs : List Int) (i : Nat) (h : i ≤ 48) : (fill1 bs i).length = 64 := by simp [fill1, sched_length]; omega
theorem set_fill (L : List Int) (m : Nat) (x : Int) : (L ++ List.replicate (m + 1) 0).set L.length x = (L ++ [x]) ++ List.replicate m 0 := by
  simp [List.replicate_succ]
theorem fill0_set (bs : List Int) (i : Nat) (h : i < 64) : (fill0 bs i).set i (word bs i) = fill0 bs (i + 1) := by
  have := set_fill ((List.range i).map (word bs)) (63 - i) (word bs i)
  simp only [List.length_map, List.length_range] at this
  simp only [fill0, show 64 - i = 63 - i + 1 from by omega, this, show 64 - (i + 1) = 63 - i from by omega, List.range_succ, List.map_append, List.map_cons, List.map_nil]
theorem fill1_get (bs : List Int) (i j : Nat) (h : j < 16 + i) : (fill1 bs i).getD j 0 = (sched bs i).getD j 0 := by
  simp only [fill1, List.getD_eq_getElem?_getD]
  rw [List.getElem?_append_left (by rw [sched_length]; exact h)]
theorem fill1_set (bs : List Int) (i : Nat) (h : i < 48) (x : Int) : (fill1 bs i).set (i + 16) x = (sched bs i ++ [x]) ++ List.replicate (48 - (i + 1)) 0 := by
  have := set_fill (sched bs i) (47 - i) x
  rw [sched_length] at this
  rw [fill1, show 48 - i = 47 - i + 1 from by omega, show i + 16 = 16 + i from by omega, this, show 48 - (i + 1) = 47 - i from by omega]
theorem l37_0 (bs : List Int) (hb : bs.length = 64) (f : Nat) (k0 : List PV → List PV → Option Res) (nl fl : Bool) (w : List PV) : ∀ (d i n : Nat), i + d = 16 → d < n →
    lp37_0 f k0 n nl fl (pu .u8 bs) (i : Int) w (pu .u32 (fill0 bs i)) = k0 w (pu .u32 (fill0 bs 16))
  | 0, i, n + 1, h, hn => by
      obtain rfl : i = 16 := by omega
      simp only [lp37_0, lpS37_0]
      exact bif_f (by decide)
  | d + 1, i, n + 1, h, hn => by
      have h4 : IntKind.i64.wrap (4 * (i : Int)) = ((4 * i : Nat) : Int) := by rw [wrap_i64 (by omega) (by omega)]; omega
      have h41 : IntKind.i64.wrap (((4 * i : Nat) : Int) + 1) = ((4 * i + 1 : Nat) : Int) := by rw [wrap_i64 (by omega) (by omega)]; omega
      have h42 : IntKind.i64.wrap (((4 * i : Nat) : Int) + 2) = ((4 * i + 2 : Nat) : Int) := by rw [wrap_i64 (by omega) (by omega)]; omega
      have h43 : IntKind.i64.wrap (((4 * i : Nat) : Int) + 3) = ((4 * i + 3 : Nat) : Int) := by rw [wrap_i64 (by omega) (by omega)]; omega
      have h5 : IntKind.i64.wrap ((i : Int) + 1) = ((i + 1 : Nat) : Int) := by rw [wrap_i64 (by omega) (by omega)]; omega
      simp only [lp37_0, lpS37_0, h4, h41, h42, h43, h5, Int.toNat_natCast, zi]
      rw [pu_isInt (by omega), pu_isInt (by omega), pu_isInt (by omega), pu_isInt (by omega), pu_int (by omega), pu_int (by omega), pu_int (by omega), pu_int (by omega), pu_length, pu_set]
      refine (bif_t (by simp; omega)).trans ?_
      refine (bif_t (by simp; omega)).trans ?_
      refine (bif_t (by simp; omega)).trans ?_
      refine (bif_t (by simp; omega)).trans ?_
      refine (bif_t (by simp; omega)).trans ?_
      refine (bif_t (by simp; omega)).trans ?_
      have := l37_0 bs hb f k0 nl fl w d (i + 1) n (by omega) (by omega)
      rw [← fill0_set bs i (by omega)] at this
      exact this
theorem l37_1 (bs : List Int) (f : Nat) (k0 : List PV → List PV → Option Res) (w : List PV) : ∀ (d i n : Nat), i + d = 48 → d < n →
    lp37_1 f k0 n ((i + 16 : Nat) : Int) w (pu .u32 (fill1 bs i)) = k0 w (pu .u32 (sched bs 48))
  | 0, i, n + 1, h, hn => by
      obtain rfl : i = 48 := by omega
      simp only [lp37_1, lpS37_1]
      exact (bif_f (by decide)).trans (by simp [fill1])
  | d + 1, i, n + 1, h, hn => by
      have h15 : IntKind.i64.wrap (((i + 16 : Nat) : Int) - 15) = ((i + 1 : Nat) : Int) := by rw [wrap_i64 (by omega) (by omega)]; omega
      have h2 : IntKind.i64.wrap (((i + 16 : Nat) : Int) - 2) = ((i + 14 : Nat) : Int) := by rw [wrap_i64 (by omega) (by omega)]; omega
      have h16 : IntKind.i64.wrap (((i + 16 : Nat) : Int) - 16) = ((i : Nat) : Int) := by rw [wrap_i64 (by omega) (by omega)]; omega
      have h7 : IntKind.i64.wrap (((i + 16 : Nat) : Int) - 7) = ((i + 9 : Nat) : Int) := by rw [wrap_i64 (by omega) (by omega)]; omega
      have h1 : IntKind.i64.wrap (((i + 16 : Nat) : Int) + 1) = ((i + 1 + 16 : Nat) : Int) := by rw [wrap_i64 (by omega) (by omega)]; omega
      have hl := fill1_length bs i (by omega)
      simp only [lp37_1, lpS37_1, h15, h2, h16, h7, h1, Int.toNat_natCast, zi, getP_ar]
      rw [pu_isInt (by omega), pu_isInt (by omega), pu_isInt (by omega), pu_isInt (by omega), pu_int (by omega), pu_int (by omega), pu_int (by omega), pu_int (by omega), pu_set]
      refine (bif_t (by simp; omega)).trans ?_
      refine (bif_t (by simp; omega)).trans ?_
      refine (bif_t (by simp)).trans ?_
      refine (bif_t (by simp; omega)).trans ?_
      refine (bif_t (by simp)).trans ?_
      refine (bif_t (by simp; omega)).trans ?_
      refine (bif_t (by simp)).trans ?_
      refine (bif_t (by simp; omega)).trans ?_
      refine (bif_t (by simp)).trans ?_
      refine (bif_t (by simp; omega)).trans ?_
      have := l37_1 bs f k0 w d (i + 1) n (by omega) (by omega)
      rw [fill1_get bs i i (by omega), fill1_get bs i (i + 1) (by omega), fill1_get bs i (i + 9) (by omega), fill1_get bs i (i + 14) (by omega), fill1_set bs i (by omega)]
      exact this
theorem g37_eq (bs : List Int) (hb : bs.length = 64) (nl fl : Bool) (k : Res → Option Res) : g37 100 nl fl (pu .u8 bs) k = k ⟨.ar 51 (pu .u32 (spreadP bs)), [], []⟩ := by
  have h0 : ∀ k0 w, lp37_0 100 k0 100 nl fl (pu .u8 bs) 0 w (pu .u32 (List.replicate 64 0)) = k0 w (pu .u32 (fill0 bs 16)) := fun k0 w => l37_0 bs hb 100 k0 nl fl w 16 0 100 (by omega) (by omega)
  have h1 : ∀ k0 w, lp37_1 100 k0 100 16 w (pu .u32 (fill0 bs 16)) = k0 w (pu .u32 (sched bs 48)) := fun k0 w => l37_1 bs 100 k0 w 48 0 100 (by omega) (by omega)
  exact (h0 _ _).trans (h1 _ _)
def run37' : List PV → List Ent → (Res → Option Res) → Option Res
  | [.ro 5 nl fl b], [], k => bif allInt .u8 b && decide (b.length = 64) then k ⟨.ar 51 (pu .u32 (spreadP (ints b))), [], []⟩ else none
  | _, _, _ => none
def s37' : Sig := { own := [], run := run37' }
theorem ok37' : CallOk tau Try.prog 37 s37' := fn_ok tabOk F37_ok mixed fo37 bo37 _ [] 0 [] run37' (ia37 100) fun xs es k res hr => by
  unfold run37' at hr
  split at hr
  · obtain ⟨hc, hr⟩ := of_bif hr
    simp only [Bool.and_eq_true, decide_eq_true_eq] at hc
    refine ⟨rfl, 0, (e37 100 _ _ _ _).trans ?_⟩
    rw [pu_ints hc.1, g37_eq _ (by simpa using hc.2)]
    exact hr
  · cases hr
end Go.Proofs.Ytodldmomneecpaa.Rx

/- The sum, as plain arithmetic on rows of numbers. Own work. -/
namespace Go.Proofs.Ytodldmomneecpaa.Rx
open Go
set_option linter.unusedVariables false
set_option maxRecDepth 100000
/-- a row that is filled from its beginning on -/
def fillM (g : Nat → Int) (t : List Int) (i : Nat) : List Int := (List.range i).map g ++ t.drop i
theorem fillM_zero (g : Nat → Int) (t : List Int) : fillM g t 0 = t := by simp [fillM]
theorem fillM_full (g : Nat → Int) (t : List Int) : fillM g t t.length = (List.range t.length).map g := by simp [fillM]
theorem fillM_length (g : Nat → Int) (t : List Int) (i : Nat) (h : i ≤ t.length) : (fillM g t i).length = t.length := by simp [fillM]; omega
theorem fillM_set (g : Nat → Int) (t : List Int) (i : Nat) (h : i < t.length) : (fillM g t i).set i (g i) = fillM g t (i + 1) := by
  rw [fillM, List.set_append_right _ _ (by simp), List.drop_eq_getElem_cons h, List.length_map, List.length_range, Nat.sub_self, List.set_cons_zero]
  simp [fillM, List.range_succ]
theorem fillM_get (g : Nat → Int) (t : List Int) (i : Nat) (h : i < t.length) : (fillM g t i).getD i 0 = t.getD i 0 := by
  simp only [fillM, List.getD_eq_getElem?_getD]
  rw [List.getElem?_append_right (by simp)]
  simp
def kks : List Int := [1116352408, 1899447441, 3049323471, 3921009573, 961987163, 1508970993, 2453635748, 2870763221, 3624381080, 310598401, 607225278, 1426881987, 1925078388, 2162078206, 2614888103, 3248222580, 3835390401, 4022224774, 264347078, 604807628, 770255983, 1249150122, 1555081692, 1996064986, 2554220882, 2821834349, 2952996808, 3210313671, 3336571891, 3584528711, 113926993, 338241895, 666307205, 773529912, 1294757372, 1396182291, 1695183700, 1986661051, 2177026350, 2456956037, 2730485921, 2820302411, 3259730800, 3345764771, 3516065817, 3600352804, 4094571909, 275423344, 430227734, 506948616, 659060556, 883997877, 958139571, 1322822218, 1537002063, 1747873779, 1955562222, 2024104815, 2227730452, 2361852424, 2428436474, 2756734187, 3204031479, 3329325298]
def iv : List Int := [1779033703, 3144134277, 1013904242, 2773480762, 1359893119, 2600822924, 528734635, 1541459225]
def xW (k w h e f g : Int) : Int := ww (ww (ww (ww (h + bitI .xor .u32 (bitI .xor .u32 (rr e 6) (rr e 11)) (rr e 25)) + bitI .xor .u32 (bitI .and .u32 e f) (bitI .and .u32 (bitI .xor .u32 (Int.ofNat (2 ^ IntKind.u32.bits - Nat.succ 0)) e) g)) + k) + w)
def yW (a b c : Int) : Int := ww (bitI .xor .u32 (bitI .xor .u32 (rr a 2) (rr a 13)) (rr a 22) + bitI .xor .u32 (bitI .xor .u32 (bitI .and .u32 a b) (bitI .and .u32 a c)) (bitI .and .u32 b c))
def rnd (k w : Int) (t : List Int) : List Int :=
  [ww (xW k w (t.getD 7 0) (t.getD 4 0) (t.getD 5 0) (t.getD 6 0) + yW (t.getD 0 0) (t.getD 1 0) (t.getD 2 0)), t.getD 0 0, t.getD 1 0, t.getD 2 0,
    ww (t.getD 3 0 + xW k w (t.getD 7 0) (t.getD 4 0) (t.getD 5 0) (t.getD 6 0)), t.getD 4 0, t.getD 5 0, t.getD 6 0]
def rnds (W s : List Int) : Nat → List Int
  | 0 => s
  | i + 1 => rnd (kks.getD i 0) (W.getD i 0) (rnds W s i)
theorem rnds_length (W s : List Int) (h : s.length = 8) : ∀ i, (rnds W s i).length = 8
  | 0 => h
  | i + 1 => rfl
/-- a piece is taken -/
def addP (s bs : List Int) : List Int := (List.range 8).map fun i => ww ((rnds (spreadP bs) s 64).getD i 0 + s.getD i 0)
theorem addP_length (s bs : List Int) : (addP s bs).length = 8 := by simp [addP]
/-- so many pieces are taken -/
def foldB (s b : List Int) : Nat → List Int
  | 0 => s
  | n + 1 => addP (foldB s b n) ((b.drop (64 * n)).take 64)
theorem foldB_length (s b : List Int) (h : s.length = 8) : ∀ n, (foldB s b n).length = 8
  | 0 => h
  | n + 1 => addP_length _ _
def zs (m : Nat) : Nat := (120 - m % 64) % 64
def lenB (n : Nat) : List Int := (List.range 8).map fun (i : Nat) => IntKind.u8.wrap (shrI .u64 (IntKind.u64.wrap (IntKind.u64.wrap (n : Int) * 8)) (56 - 8 * (i : Int)))
def padP (bs : List Int) : List Int := (bs ++ [128] ++ List.replicate (zs (bs.length + 1)) 0) ++ lenB bs.length
theorem padP_length (bs : List Int) : (padP bs).length = 64 * ((padP bs).length / 64) := by
  have : (padP bs).length = bs.length + 1 + zs (bs.length + 1) + 8 := by simp [padP, lenB]; omega
  rw [this]; unfold zs; omega
def outB (s : List Int) (i : Nat) : Int := IntKind.u8.wrap (shrI .u32 (s.getD (i / 4) 0) (24 - 8 * ((i % 4 : Nat) : Int)))
def outP (s : List Int) : List Int := (List.range 32).map (outB s)
/-- the sum -/
def sumP (bs : List Int) : List Int := outP (foldB iv (padP bs) ((padP bs).length / 64))
theorem sumP_length (bs : List Int) : (sumP bs).length = 32 := by simp [sumP, outP]
theorem tmod64 (n : Nat) : (zi n).tmod 64 = ((n % 64 : Nat) : Int) := by
  show (n : Int).tmod 64 = _
  rw [Int.tmod_eq_emod_of_nonneg (by omega)]; omega
end Go.Proofs.Ytodldmomneecpaa.Rx

/- The document's sum. Own work. -/
namespace Go.Proofs.Ytodldmomneecpaa.Rx
open Go
set_option linter.unusedVariables false
set_option maxRecDepth 100000
set_option maxHeartbeats 1000000
theorem getP_nil (v : PV) : getP v [] = v := rfl
theorem getD8' {R : List Int} (h : R.length = 8) (j : Nat) (hj : j < 8) : (pu .u32 R).getD j .top = .sc (.int .u32 (R.getD j 0)) := pu_get (by omega)
theorem m17_0 (f : Nat) (a b : Bool) (c x y w : List PV) (k0 : Bool → Bool → List PV → Nat → List PV → List PV → List PV → List PV → Option Res) : ∀ (d n : Nat) (L : List Int), zs L.length = d → d < n → L.length + d ≤ 140737488355200 →
    lp17_0 f k0 n a b c L.length x y w (pu .u8 L) = k0 a b c (L.length + d) x y w (pu .u8 (L ++ List.replicate d 0))
  | 0, n + 1, L, hd, hn, hL => by
      simp only [lp17_0, lpS17_0, tmod64]
      refine (bif_f (by simp [zs] at hd ⊢; omega)).trans ?_
      simp
  | d + 1, n + 1, L, hd, hn, hL => by
      have hlt : d + 1 < 64 := by rw [← hd]; unfold zs; omega
      have c3 : roomy (L.length + 1) 1 = true := by simp [roomy]; omega
      simp only [lp17_0, lpS17_0, tmod64, c3, Bool.and_true, cond_true, pu_take]
      refine (bif_t (by simp [zs] at hd ⊢; omega)).trans ?_
      rw [List.take_of_length_le (Nat.le_refl _)]
      have := m17_0 f a b c x y w k0 d n (L ++ [0]) (by simp [zs] at hd ⊢; omega) (by omega) (by simp; omega)
      simp only [List.length_append, List.length_cons, List.length_nil, Nat.zero_add, pu_append] at this
      refine this.trans ?_
      rw [show L.length + 1 + d = L.length + (d + 1) from by omega, List.replicate_succ]
      simp
def lenR (N : Int) (i : Nat) : Int := IntKind.u8.wrap (shrI .u64 N (56 - 8 * (i : Int)))
theorem m17_1 (f : Nat) (N : Int) (x y w : List PV) (k0 : Nat → List PV → List PV → List PV → List PV → Option Res) (L : List Int) (hL : L.length ≤ 140737488355300) : ∀ (d i n : Nat), i + d = 8 → d < n →
    lp17_1 f k0 n (L.length + i) N (7 - (i : Int)) x y w (pu .u8 (L ++ (List.range i).map (lenR N))) = k0 (L.length + 8) x y w (pu .u8 (L ++ (List.range 8).map (lenR N)))
  | 0, i, n + 1, h, hn => by
      obtain rfl : i = 8 := by omega
      simp only [lp17_1, lpS17_1]
      exact bif_f (by decide)
  | d + 1, i, n + 1, h, hn => by
      have h1 : IntKind.i64.wrap (7 - (i : Int) - 1) = 7 - ((i + 1 : Nat) : Int) := by rw [wrap_i64 (by omega) (by omega)]; omega
      have h8 : IntKind.u64.wrap (7 - (i : Int)) = 7 - (i : Int) := by rw [wrap_u64_eq]; omega
      have h9 : IntKind.u64.wrap (8 * (7 - (i : Int))) = 56 - 8 * (i : Int) := by rw [wrap_u64_eq]; omega
      have c1 : decide (7 - (i : Int) ≥ 0) = true := by simp; omega
      have c2 : decide (0 ≤ 56 - 8 * (i : Int)) = true := by simp; omega
      have c3 : roomy (L.length + i + 1) 1 = true := by simp [roomy]; omega
      have hlen : (L ++ (List.range i).map (lenR N)).length = L.length + i := by simp
      simp only [lp17_1, lpS17_1, h1, h8, h9, c1, c2, c3, Bool.and_true, cond_true, pu_take]
      rw [List.take_of_length_le (by omega)]
      have := m17_1 f N x y w k0 L hL d (i + 1) n (by omega) (by omega)
      rw [List.range_succ, List.map_append, ← List.append_assoc, pu_append] at this
      exact this
theorem blk_get (P : List Int) (q j : Nat) (hj : j < 64) : ((P.drop (64 * q)).take 64).getD j 0 = P.getD (64 * q + j) 0 := by
  simp [List.getD_eq_getElem?_getD, hj, List.getElem?_drop]
theorem m17_3 (P : List Int) (q : Nat) (hq : 64 * q + 64 ≤ P.length) (hP : P.length ≤ 140737488356000) (T : List Int) (hT : T.length = 64) (f : Nat) (x y w : List PV) (k0 : Nat → Int → List PV → List PV → List PV → List PV → List PV → Option Res) : ∀ (d i n : Nat), i + d = 16 → d < n →
    lp17_3 f k0 n P.length ((64 * q : Nat) : Int) (i : Int) x y w (pu .u8 P) (pu .u32 (fillM (word ((P.drop (64 * q)).take 64)) T i)) = k0 P.length ((64 * q : Nat) : Int) x y w (pu .u8 P) (pu .u32 (fillM (word ((P.drop (64 * q)).take 64)) T 16))
  | 0, i, n + 1, h, hn => by
      obtain rfl : i = 16 := by omega
      simp only [lp17_3, lpS17_3]
      exact bif_f (by decide)
  | d + 1, i, n + 1, h, hn => by
      have h4 : IntKind.i64.wrap (4 * (i : Int)) = ((4 * i : Nat) : Int) := by rw [wrap_i64 (by omega) (by omega)]; omega
      have h40 : IntKind.i64.wrap (((64 * q : Nat) : Int) + ((4 * i : Nat) : Int)) = ((64 * q + 4 * i : Nat) : Int) := by rw [wrap_i64 (by omega) (by omega)]; omega
      have h41 : IntKind.i64.wrap (((64 * q + 4 * i : Nat) : Int) + 1) = ((64 * q + (4 * i + 1) : Nat) : Int) := by rw [wrap_i64 (by omega) (by omega)]; omega
      have h42 : IntKind.i64.wrap (((64 * q + 4 * i : Nat) : Int) + 2) = ((64 * q + (4 * i + 2) : Nat) : Int) := by rw [wrap_i64 (by omega) (by omega)]; omega
      have h43 : IntKind.i64.wrap (((64 * q + 4 * i : Nat) : Int) + 3) = ((64 * q + (4 * i + 3) : Nat) : Int) := by rw [wrap_i64 (by omega) (by omega)]; omega
      have h5 : IntKind.i64.wrap ((i : Int) + 1) = ((i + 1 : Nat) : Int) := by rw [wrap_i64 (by omega) (by omega)]; omega
      simp only [lp17_3, lpS17_3, h4, h40, h41, h42, h43, h5, Int.toNat_natCast, Nat.zero_add, getP_nil, zi]
      rw [pu_isInt (by omega), pu_isInt (by omega), pu_isInt (by omega), pu_isInt (by omega), pu_int (by omega), pu_int (by omega), pu_int (by omega), pu_int (by omega), pu_set]
      refine (bif_t (by simp; omega)).trans ?_
      refine (bif_t (by simp only [Bool.and_true, Bool.and_eq_true, decide_eq_true_eq]; omega)).trans ?_
      refine (bif_t rfl).trans ?_
      refine (bif_t (by simp only [Bool.and_true, Bool.and_eq_true, decide_eq_true_eq]; omega)).trans ?_
      refine (bif_t rfl).trans ?_
      refine (bif_t (by simp only [Bool.and_true, Bool.and_eq_true, decide_eq_true_eq]; omega)).trans ?_
      refine (bif_t rfl).trans ?_
      refine (bif_t (by simp only [Bool.and_true, Bool.and_eq_true, decide_eq_true_eq]; omega)).trans ?_
      refine (bif_t rfl).trans ?_
      refine (bif_t (by simp only [Bool.and_true, Bool.and_eq_true, decide_eq_true_eq]; omega)).trans ?_
      have := m17_3 P q hq hP T hT f x y w k0 d (i + 1) n (by omega) (by omega)
      rw [← fillM_set _ T i (by omega), word, blk_get P q _ (by omega), blk_get P q _ (by omega), blk_get P q _ (by omega), blk_get P q _ (by omega)] at this
      exact this
def fillT (bs T : List Int) (i : Nat) : List Int := sched bs i ++ T.drop (16 + i)
theorem fillT_length (bs T : List Int) (hT : T.length = 64) (i : Nat) (h : i ≤ 48) : (fillT bs T i).length = 64 := by simp [fillT, sched_length, hT]; omega
theorem fillT_get (bs T : List Int) (i j : Nat) (h : j < 16 + i) : (fillT bs T i).getD j 0 = (sched bs i).getD j 0 := by
  simp only [fillT, List.getD_eq_getElem?_getD]
  rw [List.getElem?_append_left (by rw [sched_length]; exact h)]
theorem fillT_set (bs T : List Int) (hT : T.length = 64) (i : Nat) (h : i < 48) (x : Int) : (fillT bs T i).set (i + 16) x = (sched bs i ++ [x]) ++ T.drop (16 + (i + 1)) := by
  rw [fillT, List.set_append_right _ _ (by rw [sched_length]; omega), sched_length, List.drop_eq_getElem_cons (by omega), show i + 16 - (16 + i) = 0 from by omega, List.set_cons_zero]
  simp [Nat.add_assoc]
theorem nxtW_eq (w16 w15 w7 w2 : Int) : ww (ww (ww (sg1 w2 + w7) + sg0 w15) + w16) = nxtW w16 w15 w7 w2 := by
  simp only [nxtW, ww, wrap_u32_eq]; omega
theorem m17_4 (bs T : List Int) (hT : T.length = 64) (f : Nat) (l : Nat) (p : Int) (x y w e : List PV) (k0 : Nat → Int → List PV → List PV → List PV → List PV → List PV → Option Res) : ∀ (d i n : Nat), i + d = 48 → d < n →
    lp17_4 f k0 n l p ((i + 16 : Nat) : Int) x y w e (pu .u32 (fillT bs T i)) = k0 l p x y w e (pu .u32 (spreadP bs))
  | 0, i, n + 1, h, hn => by
      obtain rfl : i = 48 := by omega
      simp only [lp17_4, lpS17_4]
      refine (bif_f (by decide)).trans ?_
      rw [fillT, List.drop_of_length_le (by omega), List.append_nil]; rfl
  | d + 1, i, n + 1, h, hn => by
      have h15 : IntKind.i64.wrap (((i + 16 : Nat) : Int) - 15) = ((i + 1 : Nat) : Int) := by rw [wrap_i64 (by omega) (by omega)]; omega
      have h2 : IntKind.i64.wrap (((i + 16 : Nat) : Int) - 2) = ((i + 14 : Nat) : Int) := by rw [wrap_i64 (by omega) (by omega)]; omega
      have h16 : IntKind.i64.wrap (((i + 16 : Nat) : Int) - 16) = ((i : Nat) : Int) := by rw [wrap_i64 (by omega) (by omega)]; omega
      have h7 : IntKind.i64.wrap (((i + 16 : Nat) : Int) - 7) = ((i + 9 : Nat) : Int) := by rw [wrap_i64 (by omega) (by omega)]; omega
      have h1 : IntKind.i64.wrap (((i + 16 : Nat) : Int) + 1) = ((i + 1 + 16 : Nat) : Int) := by rw [wrap_i64 (by omega) (by omega)]; omega
      have hl := fillT_length bs T hT i (by omega)
      simp only [lp17_4, lpS17_4, h15, h2, h16, h7, h1, Int.toNat_natCast, zi, getP_ar]
      rw [pu_isInt (by omega), pu_isInt (by omega), pu_isInt (by omega), pu_isInt (by omega), pu_int (by omega), pu_int (by omega), pu_int (by omega), pu_int (by omega), pu_set]
      refine (bif_t (by simp; omega)).trans ?_
      refine (bif_t (by simp; omega)).trans ?_
      refine (bif_t rfl).trans ?_
      refine (bif_t (by simp; omega)).trans ?_
      refine (bif_t rfl).trans ?_
      refine (bif_t (by simp; omega)).trans ?_
      refine (bif_t rfl).trans ?_
      refine (bif_t (by simp; omega)).trans ?_
      refine (bif_t rfl).trans ?_
      refine (bif_t (by simp; omega)).trans ?_
      have := m17_4 bs T hT f l p x y w e k0 d (i + 1) n (by omega) (by omega)
      rw [fillT_get bs T i i (by omega), fillT_get bs T i (i + 1) (by omega), fillT_get bs T i (i + 9) (by omega), fillT_get bs T i (i + 14) (by omega), fillT_set bs T hT i (by omega)]
      have hn := nxtW_eq ((sched bs i).getD i 0) ((sched bs i).getD (i + 1) 0) ((sched bs i).getD (i + 9) 0) ((sched bs i).getD (i + 14) 0)
      rw [fillT, sched, ← hn] at this
      exact this
theorem m17_5 (W s : List Int) (hW : W.length = 64) (hs : s.length = 8) (f : Nat) (l : Nat) (p : Int) (x w e : List PV) (k0 : Nat → Int → List PV → List PV → List PV → List PV → List PV → List PV → Option Res) : ∀ (d i n : Nat), i + d = 64 → d < n →
    lp17_5 f k0 n l p (i : Int) x (pu .u32 kks) w e (pu .u32 W) (pu .u32 (rnds W s i)) = k0 l p x (pu .u32 kks) w e (pu .u32 W) (pu .u32 (rnds W s 64))
  | 0, i, n + 1, h, hn => by
      obtain rfl : i = 64 := by omega
      simp only [lp17_5, lpS17_5]
      exact bif_f (by decide)
  | d + 1, i, n + 1, h, hn => by
      have hl := rnds_length W s hs i
      have h1 : IntKind.i64.wrap ((i : Int) + 1) = ((i + 1 : Nat) : Int) := by rw [wrap_i64 (by omega) (by omega)]; omega
      have hk : (pu .u32 kks).getD i .top = .sc (.int .u32 (kks.getD i 0)) := pu_get (by show i < 64; omega)
      have hw : (pu .u32 W).getD i .top = .sc (.int .u32 (W.getD i 0)) := pu_get (by omega)
      have c1 : decide ((i : Int) < 64) = true := by simp; omega
      have c2 : decide (0 ≤ (i : Int)) = true := by simp
      have c3 : decide ((i : Int) < zi 64) = true := by simp; omega
      simp only [lp17_5, lpS17_5, getP_ar, Int.toNat_natCast, h1, hk, hw, c1, c2, c3, getD8' hl 0 (by omega), getD8' hl 1 (by omega), getD8' hl 2 (by omega), getD8' hl 3 (by omega), getD8' hl 4 (by omega), getD8' hl 5 (by omega), getD8' hl 6 (by omega), getD8' hl 7 (by omega), PV.isInt, PV.int, decide_true, Bool.and_true, cond_true]
      exact m17_5 W s hW hs f l p x w e k0 d (i + 1) n (by omega) (by omega)
theorem m17_6 (t s : List Int) (ht : t.length = 8) (hs : s.length = 8) (f : Nat) (l : Nat) (p : Int) (x y e u : List PV) (k0 : Nat → Int → List PV → List PV → List PV → List PV → List PV → Option Res) : ∀ (d i n : Nat), i + d = 8 → d < n →
    lp17_6 f k0 n l p (i : Int) x y (pu .u32 (fillM (fun j => ww (t.getD j 0 + s.getD j 0)) s i)) e u (pu .u32 t) = k0 l p x y (pu .u32 ((List.range 8).map fun j => ww (t.getD j 0 + s.getD j 0))) e u
  | 0, i, n + 1, h, hn => by
      obtain rfl : i = 8 := by omega
      simp only [lp17_6, lpS17_6]
      refine (bif_f (by decide)).trans ?_
      have := fillM_full (fun j => ww (t.getD j 0 + s.getD j 0)) s
      rw [hs] at this; rw [this]
  | d + 1, i, n + 1, h, hn => by
      have hl : (fillM (fun j => ww (t.getD j 0 + s.getD j 0)) s i).length = 8 := by rw [fillM_length _ _ _ (by omega), hs]
      have h1 : IntKind.i64.wrap ((i : Int) + 1) = ((i + 1 : Nat) : Int) := by rw [wrap_i64 (by omega) (by omega)]; omega
      have c1 : decide ((i : Int) < 8) = true := by simp; omega
      have c2 : decide (0 ≤ (i : Int)) = true := by simp
      have c3 : decide ((i : Int) < zi 8) = true := by simp; omega
      have g1 : ((i : Int)).toNat = i := by omega
      simp only [lp17_6, lpS17_6, getP_ar, g1, h1, c1, c2, c3, getD8' hl i (by omega), getD8' ht i (by omega), fillM_get _ s i (by omega), PV.isInt, PV.int, decide_true, Bool.and_true, cond_true, pu_set]
      have := m17_6 t s ht hs f l p x y e u k0 d (i + 1) n (by omega) (by omega)
      rw [← fillM_set _ s i (by omega), Int.add_comm (t.getD i 0)] at this
      exact this
theorem outB0 (s : List Int) (i : Nat) : outB s (4 * i) = IntKind.u8.wrap (shrI .u32 (s.getD i 0) 24) := by
  rw [outB, show 4 * i / 4 = i from by omega, show 4 * i % 4 = 0 from by omega]; rfl
theorem outB1 (s : List Int) (i : Nat) : outB s (4 * i + 1) = IntKind.u8.wrap (shrI .u32 (s.getD i 0) 16) := by
  rw [outB, show (4 * i + 1) / 4 = i from by omega, show (4 * i + 1) % 4 = 1 from by omega]; rfl
theorem outB2 (s : List Int) (i : Nat) : outB s (4 * i + 2) = IntKind.u8.wrap (shrI .u32 (s.getD i 0) 8) := by
  rw [outB, show (4 * i + 2) / 4 = i from by omega, show (4 * i + 2) % 4 = 2 from by omega]; rfl
theorem outB3 (s : List Int) (i : Nat) : outB s (4 * i + 3) = IntKind.u8.wrap (s.getD i 0) := by
  rw [outB, show (4 * i + 3) / 4 = i from by omega, show (4 * i + 3) % 4 = 3 from by omega]
  have : shrI .u32 (s.getD i 0) (24 - 8 * ((3 : Nat) : Int)) = s.getD i 0 := by
    have h0 : (24 - 8 * ((3 : Nat) : Int)) = 0 := by decide
    rw [h0]; simp [shrI]
  rw [this]
theorem m17_7 (s : List Int) (hs : s.length = 8) (f : Nat) (k0 : List PV → List PV → Option Res) (a : List PV) (t : List Int) (ht : t.length = 32) : ∀ (d i n : Nat), i + d = 8 → d < n →
    lp17_7 f k0 n (i : Int) a (pu .u32 s) (pu .u8 (fillM (outB s) t (4 * i))) = k0 a (pu .u8 (outP s))
  | 0, i, n + 1, h, hn => by
      obtain rfl : i = 8 := by omega
      simp only [lp17_7, lpS17_7]
      refine (bif_f (by decide)).trans ?_
      have := fillM_full (outB s) t
      rw [ht] at this; rw [show 4 * 8 = 32 from rfl, this]; rfl
  | d + 1, i, n + 1, h, hn => by
      have h1 : IntKind.i64.wrap ((i : Int) + 1) = ((i + 1 : Nat) : Int) := by rw [wrap_i64 (by omega) (by omega)]; omega
      have h4 : IntKind.i64.wrap (4 * (i : Int)) = ((4 * i : Nat) : Int) := by rw [wrap_i64 (by omega) (by omega)]; omega
      have h41 : IntKind.i64.wrap (((4 * i : Nat) : Int) + 1) = ((4 * i + 1 : Nat) : Int) := by rw [wrap_i64 (by omega) (by omega)]; omega
      have h42 : IntKind.i64.wrap (((4 * i : Nat) : Int) + 2) = ((4 * i + 2 : Nat) : Int) := by rw [wrap_i64 (by omega) (by omega)]; omega
      have h43 : IntKind.i64.wrap (((4 * i : Nat) : Int) + 3) = ((4 * i + 3 : Nat) : Int) := by rw [wrap_i64 (by omega) (by omega)]; omega
      have c1 : decide ((i : Int) < 8) = true := by simp; omega
      have c2 : decide (0 ≤ (i : Int)) = true := by simp
      have c3 : decide ((i : Int) < zi 8) = true := by simp; omega
      have b0 : (decide (0 ≤ ((4 * i : Nat) : Int)) && decide (((4 * i : Nat) : Int) < zi 32) && true) = true := by simp; omega
      have b1 : (decide (0 ≤ ((4 * i + 1 : Nat) : Int)) && decide (((4 * i + 1 : Nat) : Int) < zi 32) && true) = true := by simp; omega
      have b2 : (decide (0 ≤ ((4 * i + 2 : Nat) : Int)) && decide (((4 * i + 2 : Nat) : Int) < zi 32) && true) = true := by simp; omega
      have b3 : (decide (0 ≤ ((4 * i + 3 : Nat) : Int)) && decide (((4 * i + 3 : Nat) : Int) < zi 32) && true) = true := by simp; omega
      have g1 : ((i : Int)).toNat = i := by omega
      have g2 : (((4 * i : Nat) : Int)).toNat = 4 * i := by omega
      have g3 : (((4 * i + 1 : Nat) : Int)).toNat = 4 * i + 1 := by omega
      have g4 : (((4 * i + 2 : Nat) : Int)).toNat = 4 * i + 2 := by omega
      have g5 : (((4 * i + 3 : Nat) : Int)).toNat = 4 * i + 3 := by omega
      simp only [lp17_7, lpS17_7, h1, h4, h41, h42, h43, b0, b1, b2, b3, g1, g2, g3, g4, g5, getP_ar, c1, c2, c3, getD8' hs i (by omega), PV.isInt, PV.int, decide_true, Bool.and_true, cond_true, pu_set]
      have := m17_7 s hs f k0 a t ht d (i + 1) n (by omega) (by omega)
      rw [show 4 * (i + 1) = 4 * i + 3 + 1 from by omega, ← fillM_set (outB s) t (4 * i + 3) (by omega), ← fillM_set (outB s) t (4 * i + 2) (by omega), ← fillM_set (outB s) t (4 * i + 1) (by omega), ← fillM_set (outB s) t (4 * i) (by omega), outB0, outB1, outB2, outB3] at this
      exact this
theorem m17_2 (P : List Int) (m : Nat) (hP : P.length = 64 * m) (hb : P.length ≤ 140737488356000) (f : Nat) (hf : 100 ≤ f) (x : List PV) (k0 : List PV → List PV → Option Res) : ∀ (d i n : Nat) (T : List Int), i + d = m → d < n → T.length = 64 →
    lp17_2 f k0 n P.length ((64 * i : Nat) : Int) x (pu .u32 kks) (pu .u32 (foldB iv P i)) (pu .u8 P) (pu .u32 T) = k0 x (pu .u32 (foldB iv P m))
  | 0, i, n + 1, T, h, hn, hT => by
      obtain rfl : i = m := by omega
      simp only [lp17_2, lpS17_2]
      exact bif_f (by simp [zi]; omega)
  | d + 1, i, n + 1, T, h, hn, hT => by
      have hfl := foldB_length iv P rfl i
      simp only [lp17_2, lpS17_2]
      refine (bif_t (by simp [zi]; omega)).trans ?_
      have e3 := fun kk => m17_3 P i (by omega) hb T hT f x (pu .u32 kks) (pu .u32 (foldB iv P i)) kk 16 0 f (by omega) (by omega)
      have e4 := fun kk => m17_4 ((P.drop (64 * i)).take 64) T hT f P.length ((64 * i : Nat) : Int) x (pu .u32 kks) (pu .u32 (foldB iv P i)) (pu .u8 P) kk 48 0 f (by omega) (by omega)
      have hW : (spreadP ((P.drop (64 * i)).take 64)).length = 64 := sched_length _ 48
      have e5 := fun kk => m17_5 (spreadP ((P.drop (64 * i)).take 64)) (foldB iv P i) hW hfl f P.length ((64 * i : Nat) : Int) x (pu .u32 (foldB iv P i)) (pu .u8 P) kk 64 0 f (by omega) (by omega)
      have e6 := fun kk => m17_6 (rnds (spreadP ((P.drop (64 * i)).take 64)) (foldB iv P i) 64) (foldB iv P i) (rnds_length _ _ hfl 64) hfl f P.length ((64 * i : Nat) : Int) x (pu .u32 kks) (pu .u8 P) (pu .u32 (spreadP ((P.drop (64 * i)).take 64))) kk 8 0 f (by omega) (by omega)
      have h0 : fillM (word ((P.drop (64 * i)).take 64)) T 16 = fillT ((P.drop (64 * i)).take 64) T 0 := rfl
      rw [fillM_zero] at e6
      simp only [fillM_zero] at e3
      refine (e3 _).trans ?_
      rw [h0]
      refine (e4 _).trans ?_
      refine (e5 _).trans ?_
      refine (e6 _).trans ?_
      have h1 : IntKind.i64.wrap (((64 * i : Nat) : Int) + 64) = ((64 * (i + 1) : Nat) : Int) := by rw [wrap_i64 (by omega) (by omega)]; omega
      rw [h1]
      exact m17_2 P m hP hb f hf x k0 d (i + 1) n (spreadP ((P.drop (64 * i)).take 64)) (by omega) (by omega) hW
theorem g17_eq (bs : List Int) (hb : bs.length ≤ 140737488355000) (nl fl : Bool) (k : Res → Option Res) : g17 ((padP bs).length / 64 + 100) nl fl (pu .u8 bs) k = k ⟨.ar 26 (pu .u8 (sumP bs)), [], []⟩ := by
  have hlen : (padP bs).length = bs.length + 1 + zs (bs.length + 1) + 8 := by simp [padP, lenB]; omega
  have hz : zs (bs.length + 1) < 64 := by unfold zs; omega
  have h64 : (padP bs).length = 64 * ((padP bs).length / 64) := padP_length bs
  generalize hf : (padP bs).length / 64 + 100 = f
  refine (bif_t (by simp [roomy]; omega)).trans ?_
  refine (bif_t (by simp [roomy]; omega)).trans ?_
  have hL : List.take (0 + (pu .u8 bs).length) ([] ++ pu .u8 bs) ++ [PV.sc (Value.int IntKind.u8 128)] = pu .u8 (bs ++ [128]) := by
    rw [List.take_of_length_le (by simp)]; simp
  rw [hL]
  have e0 := fun kk x y w => m17_0 f nl fl (pu .u8 bs) x y w kk (zs (bs.length + 1)) f (bs ++ [128]) (by simp) (by omega) (by simp; omega)
  simp only [List.length_append, List.length_cons, List.length_nil, Nat.zero_add] at e0
  have hl1 : 0 + (pu .u8 bs).length + 1 = bs.length + 1 := by simp
  rw [hl1]
  refine (e0 _ _ _ _).trans ?_
  have e1 := fun kk x y w => m17_1 f (IntKind.u64.wrap (IntKind.u64.wrap (zi (pu .u8 bs).length) * 8)) x y w kk (bs ++ [128] ++ List.replicate (zs (bs.length + 1)) 0) (by simp; omega) 8 0 f (by omega) (by omega)
  have hl2 : (bs ++ [128] ++ List.replicate (zs (bs.length + 1)) 0).length = bs.length + 1 + zs (bs.length + 1) := by simp; omega
  rw [hl2] at e1
  simp only [List.range_zero, List.map_nil, List.append_nil, Nat.add_zero] at e1
  refine (e1 _ _ _ _).trans ?_
  have hPd : bs ++ [128] ++ List.replicate (zs (bs.length + 1)) 0 ++ (List.range 8).map (lenR (IntKind.u64.wrap (IntKind.u64.wrap (zi (pu .u8 bs).length) * 8))) = padP bs := by
    rw [pu_length]; rfl
  rw [hPd, ← hlen]
  have e2 := fun kk x => m17_2 (padP bs) ((padP bs).length / 64) h64 (by omega) f (by omega) x kk ((padP bs).length / 64) 0 f (List.replicate 64 0) (by omega) (by omega) (by simp)
  refine (e2 _ _).trans ?_
  have hfl := foldB_length iv (padP bs) rfl ((padP bs).length / 64)
  have e7 := fun kk a => m17_7 (foldB iv (padP bs) ((padP bs).length / 64)) hfl f kk a (List.replicate 32 0) (by simp) 8 0 f (by omega) (by omega)
  simp only [Nat.mul_zero, fillM_zero] at e7
  exact e7 _ _
def run17' : List PV → List Ent → (Res → Option Res) → Option Res
  | [.ro 5 nl fl b], [], k => bif allInt .u8 b && decide (b.length ≤ 140737488355000) then k ⟨.ar 26 (pu .u8 (sumP (ints b))), [], []⟩ else none
  | _, _, _ => none
def s17' : Sig := { own := [], run := run17' }
theorem ok17' : CallOk tau Try.prog 17 s17' := fn_ok2 tabOk F17_ok mixed fo17 bo17 (fun n => an17 (r17_0 n) (r17_1 n) (r17_2 n) (r17_7 n)) [] 0 [] run17' (fun n => ia17 n) fun xs es k res hr => by
  unfold run17' at hr
  split at hr
  · rename_i nl fl l
    obtain ⟨hc, hr⟩ := of_bif hr
    simp only [Bool.and_eq_true, decide_eq_true_eq] at hc
    refine ⟨rfl, (padP (ints l)).length / 64 + 100, 0, (e17 _ _ _ _ _).trans ?_⟩
    have he := pu_ints hc.1
    have := g17_eq (ints l) (by simpa using hc.2) nl fl k
    rw [← he] at this
    rw [this]; exact hr
  · cases hr
end Go.Proofs.Ytodldmomneecpaa.Rx

/- What comitia/sha.keys computes. Own work, printed by a program of the worker's own. -/
namespace Go.Proofs.Ytodldmomneecpaa.Rx
open Go
set_option linter.unusedVariables false
set_option maxRecDepth 100000
set_option maxHeartbeats 0
def N38 : Nat := 2
noncomputable def F38 : Fns := F0
theorem F38_ok : FnsOk tau Try.prog F38 := F0_ok
def an38 : An := (.seq .leaf (.seq .leaf .leaf))
def g38 (f : Nat)  (k : Res → Option Res) : Option Res :=
  k (Res.mk
    (PV.ar 51
      [PV.sc (Value.int IntKind.u32 1116352408), PV.sc (Value.int IntKind.u32 1899447441), PV.sc (Value.int IntKind.u32 3049323471), PV.sc (Value.int IntKind.u32 3921009573),
        PV.sc (Value.int IntKind.u32 961987163), PV.sc (Value.int IntKind.u32 1508970993), PV.sc (Value.int IntKind.u32 2453635748), PV.sc (Value.int IntKind.u32 2870763221),
        PV.sc (Value.int IntKind.u32 3624381080), PV.sc (Value.int IntKind.u32 310598401), PV.sc (Value.int IntKind.u32 607225278), PV.sc (Value.int IntKind.u32 1426881987),
        PV.sc (Value.int IntKind.u32 1925078388), PV.sc (Value.int IntKind.u32 2162078206), PV.sc (Value.int IntKind.u32 2614888103), PV.sc (Value.int IntKind.u32 3248222580),
        PV.sc (Value.int IntKind.u32 3835390401), PV.sc (Value.int IntKind.u32 4022224774), PV.sc (Value.int IntKind.u32 264347078), PV.sc (Value.int IntKind.u32 604807628),
        PV.sc (Value.int IntKind.u32 770255983), PV.sc (Value.int IntKind.u32 1249150122), PV.sc (Value.int IntKind.u32 1555081692), PV.sc (Value.int IntKind.u32 1996064986),
        PV.sc (Value.int IntKind.u32 2554220882), PV.sc (Value.int IntKind.u32 2821834349), PV.sc (Value.int IntKind.u32 2952996808), PV.sc (Value.int IntKind.u32 3210313671),
        PV.sc (Value.int IntKind.u32 3336571891), PV.sc (Value.int IntKind.u32 3584528711), PV.sc (Value.int IntKind.u32 113926993), PV.sc (Value.int IntKind.u32 338241895),
        PV.sc (Value.int IntKind.u32 666307205), PV.sc (Value.int IntKind.u32 773529912), PV.sc (Value.int IntKind.u32 1294757372), PV.sc (Value.int IntKind.u32 1396182291),
        PV.sc (Value.int IntKind.u32 1695183700), PV.sc (Value.int IntKind.u32 1986661051), PV.sc (Value.int IntKind.u32 2177026350), PV.sc (Value.int IntKind.u32 2456956037),
        PV.sc (Value.int IntKind.u32 2730485921), PV.sc (Value.int IntKind.u32 2820302411), PV.sc (Value.int IntKind.u32 3259730800), PV.sc (Value.int IntKind.u32 3345764771),
        PV.sc (Value.int IntKind.u32 3516065817), PV.sc (Value.int IntKind.u32 3600352804), PV.sc (Value.int IntKind.u32 4094571909), PV.sc (Value.int IntKind.u32 275423344),
        PV.sc (Value.int IntKind.u32 430227734), PV.sc (Value.int IntKind.u32 506948616), PV.sc (Value.int IntKind.u32 659060556), PV.sc (Value.int IntKind.u32 883997877),
        PV.sc (Value.int IntKind.u32 958139571), PV.sc (Value.int IntKind.u32 1322822218), PV.sc (Value.int IntKind.u32 1537002063), PV.sc (Value.int IntKind.u32 1747873779),
        PV.sc (Value.int IntKind.u32 1955562222), PV.sc (Value.int IntKind.u32 2024104815), PV.sc (Value.int IntKind.u32 2227730452), PV.sc (Value.int IntKind.u32 2361852424),
        PV.sc (Value.int IntKind.u32 2428436474), PV.sc (Value.int IntKind.u32 2756734187), PV.sc (Value.int IntKind.u32 3204031479), PV.sc (Value.int IntKind.u32 3329325298)])
    [] [])
theorem e38 (f : Nat)  (k : Res → Option Res) : evFn tau F38 Try.f38 (Try.f38.body.get!) an38 [] 0 [] [] k = g38 f  k := by kernel_rfl
theorem it38 (f : Nat) : items (Try.f38.body.get!) an38 = [] := by kernel_rfl
theorem ia38 (f : Nat) : ∀ q ∈ items (Try.f38.body.get!) an38, q.Ok tau Try.prog 0 := by
  rw [it38 f]; intro q hq; cases hq
theorem fo38 : Try.prog.funcs[38]? = some Try.f38 := by kernel_rfl
theorem bo38 : Try.f38.body = some (Try.f38.body.get!) := by kernel_rfl
theorem en38 : Enters Try.prog 38 := enters_of fo38 (by kernel_rfl) bo38
def run38 : List PV → List Ent → (Res → Option Res) → Option Res
  | [], [], k => g38 0  k
  | _, _, _ => none
def s38 : Sig := { own := [], run := run38 }
theorem ok38 : CallOk tau Try.prog 38 s38 := fn_ok tabOk F38_ok mixed fo38 bo38 an38 [] 0 [] run38 (ia38 0) fun xs es k res hr => by
  unfold run38 at hr
  split at hr
  · exact ⟨rfl, 0, (e38 0  _).trans hr⟩
  · cases hr
end Go.Proofs.Ytodldmomneecpaa.Rx

/- What (comitia/sha.state).add computes. Own work, printed by a program of the worker's own. -/
namespace Go.Proofs.Ytodldmomneecpaa.Rx
open Go
set_option linter.unusedVariables false
set_option maxRecDepth 100000
set_option maxHeartbeats 0
def N31 : Nat := 113
noncomputable def F31 : Fns := addF 38 s38 (addF 37 s37' (addF 39 s39' F0))
theorem F31_ok : FnsOk tau Try.prog F31 := ((F0_ok.add ok39' en39).add ok37' en37).add ok38 en38
noncomputable def c31_0 : Code := subC (Try.f31.body.get!) [1, 1, 1, 0, 1, 0, 0]
def nm31_0 : Nm := [(2, .any), (4, .any), (5, .any), (6, .any), (7, .any), (18, .any)]
def nx31_0 : Nm := [(2, .any), (4, .any), (7, .any)]
def x31_0 : An := (.seq .leaf (.seq (.cond .leaf .leaf) (.seq (.block none (.seq .leaf (.seq .leaf (.seq .leaf (.seq .leaf .leaf))))) .leaf)))
noncomputable def c31_1 : Code := subC (Try.f31.body.get!) [1, 1, 1, 1, 0, 1, 0, 0]
def nm31_1 : Nm := [(2, .any), (4, .any), (7, .any), (100, .any)]
def nx31_1 : Nm := [(4, .any), (7, .any)]
def x31_1 : An := (.seq .leaf (.seq (.cond .leaf .leaf) (.seq (.block none (.seq .leaf .leaf)) .leaf)))
def an31 (r0 : RunL) (r1 : RunL) : An := (.seq .leaf (.seq .leaf (.seq .leaf (.seq (.seq .leaf (.block none (.sum nm31_0 N31 r0))) (.seq (.seq .leaf (.block none (.sum nm31_1 N31 r1))) (.seq .leaf .leaf))))))
def lpS31_0 (f : Nat) (rc : Int → List
  PV → List
  PV → List PV → List PV → List PV → Option Res) (k0 : List PV → List PV → List PV → Option Res) (v0 : Int) (v1 : List PV) (v2 : List PV) (v3 : List PV) (v4 : List PV) (v5 : List PV) : Option Res :=
  bif decide (v0 < 64) then
    bif PV.isInt IntKind.u32 (getP (PV.ar 57 v5) [4]) && true then
      bif PV.isInt IntKind.u32 (getP (PV.ar 57 v5) [0]) && true then
        bif PV.isInt IntKind.u32 (getP (PV.ar 57 v5) [7]) && true then
          bif PV.isInt IntKind.u32 (getP (PV.ar 57 v5) [5]) && true then
            bif PV.isInt IntKind.u32 (getP (PV.ar 57 v5) [6]) && true then
              bif decide (0 ≤ v0) && decide (v0 < zi 64) && true then
                bif PV.isInt IntKind.u32 (getP (PV.ar 51 v4) [v0.toNat]) && true then
                  bif decide (0 ≤ v0) && decide (v0 < zi 64) && true then
                    bif PV.isInt IntKind.u32 (getP (PV.ar 51 v3) [v0.toNat]) && true then
                      bif PV.isInt IntKind.u32 (getP (PV.ar 57 v5) [1]) && true then
                        bif PV.isInt IntKind.u32 (getP (PV.ar 57 v5) [2]) && true then
                          bif PV.isInt IntKind.u32 (getP (PV.ar 57 v5) [1]) && true then
                            bif PV.isInt IntKind.u32 (getP (PV.ar 57 v5) [2]) && true then
                              bif PV.isInt IntKind.u32 (getP (PV.ar 57 v5) [0]) && true then
                                bif PV.isInt IntKind.u32 (getP (PV.ar 57 v5) [1]) && true then
                                  bif PV.isInt IntKind.u32 (getP (PV.ar 57 v5) [2]) && true then
                                    bif PV.isInt IntKind.u32 (getP (PV.ar 57 v5) [3]) && true then
                                      bif PV.isInt IntKind.u32 (getP (PV.ar 57 v5) [4]) && true then
                                        bif PV.isInt IntKind.u32 (getP (PV.ar 57 v5) [5]) && true then
                                          bif PV.isInt IntKind.u32 (getP (PV.ar 57 v5) [6]) && true then
                                            rc (IntKind.i64.wrap
                                              (v0 +
                                                1)) v1 v2 v3 v4 ([PV.sc
                                                (Value.int IntKind.u32
                                                  (IntKind.u32.wrap
                                                    (IntKind.u32.wrap
                                                        (IntKind.u32.wrap
                                                            (IntKind.u32.wrap
                                                                (IntKind.u32.wrap
                                                                    ((getP (PV.ar 57 v5) [7]).int +
                                                                      bitI BinOp.xor IntKind.u32 (bitI BinOp.xor IntKind.u32 (rr (getP (PV.ar 57 v5) [4]).int 6) (rr (getP (PV.ar 57 v5) [4]).int 11))
                                                                        (rr (getP (PV.ar 57 v5) [4]).int 25)) +
                                                                  bitI BinOp.xor IntKind.u32 (bitI BinOp.and IntKind.u32 (getP (PV.ar 57 v5) [4]).int (getP (PV.ar 57 v5) [5]).int)
                                                                    (bitI BinOp.and IntKind.u32
                                                                      (bitI BinOp.xor IntKind.u32 (Int.ofNat (2 ^ IntKind.u32.bits - Nat.succ 0)) (getP (PV.ar 57 v5) [4]).int)
                                                                      (getP (PV.ar 57 v5) [6]).int)) +
                                                              (getP (PV.ar 51 v4) [v0.toNat]).int) +
                                                          (getP (PV.ar 51 v3) [v0.toNat]).int) +
                                                      IntKind.u32.wrap
                                                        (bitI BinOp.xor IntKind.u32 (bitI BinOp.xor IntKind.u32 (rr (getP (PV.ar 57 v5) [0]).int 2) (rr (getP (PV.ar 57 v5) [0]).int 13))
                                                            (rr (getP (PV.ar 57 v5) [0]).int 22) +
                                                          bitI BinOp.xor IntKind.u32
                                                            (bitI BinOp.xor IntKind.u32 (bitI BinOp.and IntKind.u32 (getP (PV.ar 57 v5) [0]).int (getP (PV.ar 57 v5) [1]).int)
                                                              (bitI BinOp.and IntKind.u32 (getP (PV.ar 57 v5) [0]).int (getP (PV.ar 57 v5) [2]).int))
                                                            (bitI BinOp.and IntKind.u32 (getP (PV.ar 57 v5) [1]).int (getP (PV.ar 57 v5) [2]).int))))),
                                              PV.sc (Value.int IntKind.u32 (getP (PV.ar 57 v5) [0]).int), PV.sc (Value.int IntKind.u32 (getP (PV.ar 57 v5) [1]).int),
                                              PV.sc (Value.int IntKind.u32 (getP (PV.ar 57 v5) [2]).int),
                                              PV.sc
                                                (Value.int IntKind.u32
                                                  (IntKind.u32.wrap
                                                    ((getP (PV.ar 57 v5) [3]).int +
                                                      IntKind.u32.wrap
                                                        (IntKind.u32.wrap
                                                            (IntKind.u32.wrap
                                                                (IntKind.u32.wrap
                                                                    ((getP (PV.ar 57 v5) [7]).int +
                                                                      bitI BinOp.xor IntKind.u32 (bitI BinOp.xor IntKind.u32 (rr (getP (PV.ar 57 v5) [4]).int 6) (rr (getP (PV.ar 57 v5) [4]).int 11))
                                                                        (rr (getP (PV.ar 57 v5) [4]).int 25)) +
                                                                  bitI BinOp.xor IntKind.u32 (bitI BinOp.and IntKind.u32 (getP (PV.ar 57 v5) [4]).int (getP (PV.ar 57 v5) [5]).int)
                                                                    (bitI BinOp.and IntKind.u32
                                                                      (bitI BinOp.xor IntKind.u32 (Int.ofNat (2 ^ IntKind.u32.bits - Nat.succ 0)) (getP (PV.ar 57 v5) [4]).int)
                                                                      (getP (PV.ar 57 v5) [6]).int)) +
                                                              (getP (PV.ar 51 v4) [v0.toNat]).int) +
                                                          (getP (PV.ar 51 v3) [v0.toNat]).int)))),
                                              PV.sc (Value.int IntKind.u32 (getP (PV.ar 57 v5) [4]).int), PV.sc (Value.int IntKind.u32 (getP (PV.ar 57 v5) [5]).int),
                                              PV.sc (Value.int IntKind.u32 (getP (PV.ar 57 v5) [6]).int)])
                                          else none
                                        else none
                                      else none
                                    else none
                                  else none
                                else none
                              else none
                            else none
                          else none
                        else none
                      else none
                    else none
                  else none
                else none
              else none
            else none
          else none
        else none
      else none
    else none
  else k0 v1 v2 v5
def lp31_0 (f : Nat) (k0 : List PV → List PV → List PV → Option Res) : Nat → Int → List PV → List PV → List PV → List PV → List PV → Option Res
  | 0, _, _, _, _, _, _ => none
  | n + 1, v0, v1, v2, v3, v4, v5 => lpS31_0 f (lp31_0 f k0 n) k0 v0 v1 v2 v3 v4 v5
theorem lpR31_0 (f : Nat) (k : Kont) (n : Nat) (v0 : Int) (v1 : List
  PV) (v2 : List
  PV) (v3 : List
  PV) (v4 : List
  PV) (v5 : List
  PV) : evLoop tau 0 nm31_0 (fun s k => ev tau F31 0 0 c31_0 (x31_0 ) s k) (n + 1) (fillS nm31_0 N31 [PV.ptr 1824 [], PV.ptr 1825 [], PV.ptr 1826 [], PV.ptr 1827 [], PV.ptr 1828 [],
  PV.sc
    (Value.int IntKind.i64
      v0)] [(1824, Ent.box false 57 (PV.ar 57 v1)), (1825, Ent.box false 57 (PV.ar 57 v2)), (1826, Ent.box false 51 (PV.ar 51 v3)), (1827, Ent.box false 51 (PV.ar 51 v4)),
  (1828,
    Ent.box false 57
      (PV.ar 57
        v5))]) (kNorm tau 0 nx31_0 k) = lpS31_0 f (fun v0 v1 v2 v3 v4 v5 => evLoop tau 0 nm31_0 (fun s k => ev tau F31 0 0 c31_0 (x31_0 ) s k) n (fillS nm31_0 N31 [PV.ptr 1824 [], PV.ptr 1825 [],
  PV.ptr 1826 [], PV.ptr 1827 [], PV.ptr 1828 [],
  PV.sc
    (Value.int IntKind.i64
      v0)] [(1824, Ent.box false 57 (PV.ar 57 v1)), (1825, Ent.box false 57 (PV.ar 57 v2)), (1826, Ent.box false 51 (PV.ar 51 v3)), (1827, Ent.box false 51 (PV.ar 51 v4)),
  (1828,
    Ent.box false 57
      (PV.ar 57
        v5))]) (kNorm tau 0 nx31_0 k)) (fun x0 x1 x2 => k (Ex.exit
  0) (fillS nx31_0 N31 [PV.ptr 1824 [], PV.ptr 1825 [],
  PV.ptr 1826 []] [(1824, Ent.box false 57 (PV.ar 57 x0)), (1825, Ent.box false 57 (PV.ar 57 x1)), (1826, Ent.box false 57 (PV.ar 57 x2))])) v0 v1 v2 v3 v4 v5 := by kernel_rfl
theorem lpE31_0 (f : Nat) (k : Kont) : ∀ (n : Nat) (v0 : Int) (v1 : List
  PV) (v2 : List
  PV) (v3 : List
  PV) (v4 : List
  PV) (v5 : List
  PV), evLoop tau 0 nm31_0 (fun s k => ev tau F31 0 0 c31_0 (x31_0 ) s k) n (fillS nm31_0 N31 [PV.ptr 1824 [], PV.ptr 1825 [], PV.ptr 1826 [], PV.ptr 1827 [], PV.ptr 1828 [],
  PV.sc
    (Value.int IntKind.i64
      v0)] [(1824, Ent.box false 57 (PV.ar 57 v1)), (1825, Ent.box false 57 (PV.ar 57 v2)), (1826, Ent.box false 51 (PV.ar 51 v3)), (1827, Ent.box false 51 (PV.ar 51 v4)),
  (1828,
    Ent.box false 57
      (PV.ar 57
        v5))]) (kNorm tau 0 nx31_0 k) = lp31_0 f (fun x0 x1 x2 => k (Ex.exit
  0) (fillS nx31_0 N31 [PV.ptr 1824 [], PV.ptr 1825 [],
  PV.ptr 1826 []] [(1824, Ent.box false 57 (PV.ar 57 x0)), (1825, Ent.box false 57 (PV.ar 57 x1)), (1826, Ent.box false 57 (PV.ar 57 x2))])) n v0 v1 v2 v3 v4 v5
  | 0, _, _, _, _, _, _ => rfl
  | n + 1, v0, v1, v2, v3, v4, v5 => (lpR31_0 f k n v0 v1 v2 v3 v4 v5).trans (congrArg (fun r => lpS31_0 f r (fun x0 x1 x2 => k (Ex.exit
  0) (fillS nx31_0 N31 [PV.ptr 1824 [], PV.ptr 1825 [],
  PV.ptr 1826
    []] [(1824, Ent.box false 57 (PV.ar 57 x0)), (1825, Ent.box false 57 (PV.ar 57 x1)),
  (1826, Ent.box false 57 (PV.ar 57 x2))])) v0 v1 v2 v3 v4 v5) (by funext v0 v1 v2 v3 v4 v5; exact lpE31_0 f k n v0 v1 v2 v3 v4 v5))
def r31_0 (f : Nat) : List PV → List (Nat × Ent) → Kont → Option Res
  | [PV.ptr 1824 [], PV.ptr 1825 [], PV.ptr 1826 [], PV.ptr 1827 [], PV.ptr 1828 [],
  PV.sc
    (Value.int IntKind.i64
      v0)], [(1824, Ent.box false 57 (PV.ar 57 v1)), (1825, Ent.box false 57 (PV.ar 57 v2)), (1826, Ent.box false 51 (PV.ar 51 v3)), (1827, Ent.box false 51 (PV.ar 51 v4)),
  (1828,
    Ent.box false 57
      (PV.ar 57
        v5))], k => lp31_0 f (fun x0 x1 x2 => k (Ex.exit
  0) (fillS nx31_0 N31 [PV.ptr 1824 [], PV.ptr 1825 [],
  PV.ptr 1826 []] [(1824, Ent.box false 57 (PV.ar 57 x0)), (1825, Ent.box false 57 (PV.ar 57 x1)), (1826, Ent.box false 57 (PV.ar 57 x2))])) f v0 v1 v2 v3 v4 v5
  | _, _, _ => none
theorem it31_0 (f : Nat) : items c31_0 x31_0 = [] := by kernel_rfl
theorem i31_0 (f : Nat) : (Item.l c31_0 nm31_0 N31 (r31_0 f)).Ok tau Try.prog 0 := loop_item tabOk F31_ok mixed (x := x31_0) (nm2 := nx31_0) (anOk_items _ _ (by rw [it31_0 f]; intro q hq; cases hq)) fun vs hp k res hr => by
  unfold r31_0 at hr
  split at hr
  · exact ⟨f, 0, (lpE31_0 f _ f _ _ _ _ _ _ ).trans hr⟩
  · cases hr
def lpS31_1 (f : Nat) (rc : Int → List PV → List PV → List PV → Option Res) (k0 : List PV → List PV → Option Res) (v0 : Int) (v1 : List PV) (v2 : List PV) (v3 : List PV) : Option Res :=
  bif decide (v0 < 8) then
    bif decide (0 ≤ v0) && decide (v0 < zi 8) && true then
      bif PV.isInt IntKind.u32 (getP (PV.ar 57 v3) [v0.toNat]) && true then
        bif decide (0 ≤ v0) && decide (v0 < zi 8) && true then
          bif PV.isInt IntKind.u32 (getP (PV.ar 57 v1) [v0.toNat]) && true then
            bif decide (0 ≤ v0) && decide (v0 < zi 8) && true then
              rc (IntKind.i64.wrap (v0 + 1)) v1 v2 (v3.set v0.toNat (PV.sc (Value.int IntKind.u32 (IntKind.u32.wrap ((getP (PV.ar 57 v3) [v0.toNat]).int + (getP (PV.ar 57 v1) [v0.toNat]).int)))))
            else none
          else none
        else none
      else none
    else none
  else k0 v2 v3
def lp31_1 (f : Nat) (k0 : List PV → List PV → Option Res) : Nat → Int → List PV → List PV → List PV → Option Res
  | 0, _, _, _, _ => none
  | n + 1, v0, v1, v2, v3 => lpS31_1 f (lp31_1 f k0 n) k0 v0 v1 v2 v3
theorem lpR31_1 (f : Nat) (k : Kont) (n : Nat) (v0 : Int) (v1 : List
  PV) (v2 : List
  PV) (v3 : List
  PV) : evLoop tau 0 nm31_1 (fun s k => ev tau F31 0 0 c31_1 (x31_1 ) s k) (n + 1) (fillS nm31_1 N31 [PV.ptr 1824 [], PV.ptr 1825 [], PV.ptr 1826 [],
  PV.sc
    (Value.int IntKind.i64
      v0)] [(1824, Ent.box false 57 (PV.ar 57 v1)), (1825, Ent.box false 57 (PV.ar 57 v2)),
  (1826,
    Ent.box false 57
      (PV.ar 57
        v3))]) (kNorm tau 0 nx31_1 k) = lpS31_1 f (fun v0 v1 v2 v3 => evLoop tau 0 nm31_1 (fun s k => ev tau F31 0 0 c31_1 (x31_1 ) s k) n (fillS nm31_1 N31 [PV.ptr 1824 [], PV.ptr 1825 [],
  PV.ptr 1826 [],
  PV.sc
    (Value.int IntKind.i64
      v0)] [(1824, Ent.box false 57 (PV.ar 57 v1)), (1825, Ent.box false 57 (PV.ar 57 v2)),
  (1826,
    Ent.box false 57
      (PV.ar 57
        v3))]) (kNorm tau 0 nx31_1 k)) (fun x0 x1 => k (Ex.exit
  2) (fillS nx31_1 N31 [PV.ptr 1824 [], PV.ptr 1825 []] [(1824, Ent.box false 57 (PV.ar 57 x0)), (1825, Ent.box false 57 (PV.ar 57 x1))])) v0 v1 v2 v3 := by kernel_rfl
theorem lpE31_1 (f : Nat) (k : Kont) : ∀ (n : Nat) (v0 : Int) (v1 : List
  PV) (v2 : List
  PV) (v3 : List
  PV), evLoop tau 0 nm31_1 (fun s k => ev tau F31 0 0 c31_1 (x31_1 ) s k) n (fillS nm31_1 N31 [PV.ptr 1824 [], PV.ptr 1825 [], PV.ptr 1826 [],
  PV.sc
    (Value.int IntKind.i64
      v0)] [(1824, Ent.box false 57 (PV.ar 57 v1)), (1825, Ent.box false 57 (PV.ar 57 v2)),
  (1826,
    Ent.box false 57
      (PV.ar 57
        v3))]) (kNorm tau 0 nx31_1 k) = lp31_1 f (fun x0 x1 => k (Ex.exit
  2) (fillS nx31_1 N31 [PV.ptr 1824 [], PV.ptr 1825 []] [(1824, Ent.box false 57 (PV.ar 57 x0)), (1825, Ent.box false 57 (PV.ar 57 x1))])) n v0 v1 v2 v3
  | 0, _, _, _, _ => rfl
  | n + 1, v0, v1, v2, v3 => (lpR31_1 f k n v0 v1 v2 v3).trans (congrArg (fun r => lpS31_1 f r (fun x0 x1 => k (Ex.exit
  2) (fillS nx31_1 N31 [PV.ptr 1824 [],
  PV.ptr 1825 []] [(1824, Ent.box false 57 (PV.ar 57 x0)), (1825, Ent.box false 57 (PV.ar 57 x1))])) v0 v1 v2 v3) (by funext v0 v1 v2 v3; exact lpE31_1 f k n v0 v1 v2 v3))
def r31_1 (f : Nat) : List PV → List (Nat × Ent) → Kont → Option Res
  | [PV.ptr 1824 [], PV.ptr 1825 [], PV.ptr 1826 [],
  PV.sc
    (Value.int IntKind.i64
      v0)], [(1824, Ent.box false 57 (PV.ar 57 v1)), (1825, Ent.box false 57 (PV.ar 57 v2)),
  (1826,
    Ent.box false 57
      (PV.ar 57
        v3))], k => lp31_1 f (fun x0 x1 => k (Ex.exit
  2) (fillS nx31_1 N31 [PV.ptr 1824 [], PV.ptr 1825 []] [(1824, Ent.box false 57 (PV.ar 57 x0)), (1825, Ent.box false 57 (PV.ar 57 x1))])) f v0 v1 v2 v3
  | _, _, _ => none
theorem it31_1 (f : Nat) : items c31_1 x31_1 = [] := by kernel_rfl
theorem i31_1 (f : Nat) : (Item.l c31_1 nm31_1 N31 (r31_1 f)).Ok tau Try.prog 0 := loop_item tabOk F31_ok mixed (x := x31_1) (nm2 := nx31_1) (anOk_items _ _ (by rw [it31_1 f]; intro q hq; cases hq)) fun vs hp k res hr => by
  unfold r31_1 at hr
  split at hr
  · exact ⟨f, 0, (lpE31_1 f _ f _ _ _ _ ).trans hr⟩
  · cases hr
def g31 (f : Nat) (s : List PV) (nl : Bool) (fl : Bool) (b : List PV) (k : Res → Option Res) : Option Res :=
  bif allInt IntKind.u8 b && decide (b.length = 64) then
    lp31_0 f (fun x0_0 x1_0 x2_0 =>
      lp31_1 f (fun x0_1 x1_1 =>
        k (Res.mk (PV.ar 57 x1_1) []
          [])) f (0) x0_0 x1_0 x2_0) f (0) s ([PV.sc (Value.int IntKind.u32 0), PV.sc (Value.int IntKind.u32 0), PV.sc (Value.int IntKind.u32 0), PV.sc (Value.int IntKind.u32 0),
      PV.sc (Value.int IntKind.u32 0), PV.sc (Value.int IntKind.u32 0), PV.sc (Value.int IntKind.u32 0),
      PV.sc
        (Value.int IntKind.u32
          0)]) (pu IntKind.u32
      (spreadP
        (ints
          b))) ([PV.sc (Value.int IntKind.u32 1116352408), PV.sc (Value.int IntKind.u32 1899447441), PV.sc (Value.int IntKind.u32 3049323471), PV.sc (Value.int IntKind.u32 3921009573),
      PV.sc (Value.int IntKind.u32 961987163), PV.sc (Value.int IntKind.u32 1508970993), PV.sc (Value.int IntKind.u32 2453635748), PV.sc (Value.int IntKind.u32 2870763221),
      PV.sc (Value.int IntKind.u32 3624381080), PV.sc (Value.int IntKind.u32 310598401), PV.sc (Value.int IntKind.u32 607225278), PV.sc (Value.int IntKind.u32 1426881987),
      PV.sc (Value.int IntKind.u32 1925078388), PV.sc (Value.int IntKind.u32 2162078206), PV.sc (Value.int IntKind.u32 2614888103), PV.sc (Value.int IntKind.u32 3248222580),
      PV.sc (Value.int IntKind.u32 3835390401), PV.sc (Value.int IntKind.u32 4022224774), PV.sc (Value.int IntKind.u32 264347078), PV.sc (Value.int IntKind.u32 604807628),
      PV.sc (Value.int IntKind.u32 770255983), PV.sc (Value.int IntKind.u32 1249150122), PV.sc (Value.int IntKind.u32 1555081692), PV.sc (Value.int IntKind.u32 1996064986),
      PV.sc (Value.int IntKind.u32 2554220882), PV.sc (Value.int IntKind.u32 2821834349), PV.sc (Value.int IntKind.u32 2952996808), PV.sc (Value.int IntKind.u32 3210313671),
      PV.sc (Value.int IntKind.u32 3336571891), PV.sc (Value.int IntKind.u32 3584528711), PV.sc (Value.int IntKind.u32 113926993), PV.sc (Value.int IntKind.u32 338241895),
      PV.sc (Value.int IntKind.u32 666307205), PV.sc (Value.int IntKind.u32 773529912), PV.sc (Value.int IntKind.u32 1294757372), PV.sc (Value.int IntKind.u32 1396182291),
      PV.sc (Value.int IntKind.u32 1695183700), PV.sc (Value.int IntKind.u32 1986661051), PV.sc (Value.int IntKind.u32 2177026350), PV.sc (Value.int IntKind.u32 2456956037),
      PV.sc (Value.int IntKind.u32 2730485921), PV.sc (Value.int IntKind.u32 2820302411), PV.sc (Value.int IntKind.u32 3259730800), PV.sc (Value.int IntKind.u32 3345764771),
      PV.sc (Value.int IntKind.u32 3516065817), PV.sc (Value.int IntKind.u32 3600352804), PV.sc (Value.int IntKind.u32 4094571909), PV.sc (Value.int IntKind.u32 275423344),
      PV.sc (Value.int IntKind.u32 430227734), PV.sc (Value.int IntKind.u32 506948616), PV.sc (Value.int IntKind.u32 659060556), PV.sc (Value.int IntKind.u32 883997877),
      PV.sc (Value.int IntKind.u32 958139571), PV.sc (Value.int IntKind.u32 1322822218), PV.sc (Value.int IntKind.u32 1537002063), PV.sc (Value.int IntKind.u32 1747873779),
      PV.sc (Value.int IntKind.u32 1955562222), PV.sc (Value.int IntKind.u32 2024104815), PV.sc (Value.int IntKind.u32 2227730452), PV.sc (Value.int IntKind.u32 2361852424),
      PV.sc (Value.int IntKind.u32 2428436474), PV.sc (Value.int IntKind.u32 2756734187), PV.sc (Value.int IntKind.u32 3204031479), PV.sc (Value.int IntKind.u32 3329325298)]) s
  else none
theorem e31 (f : Nat) (s : List PV) (nl : Bool) (fl : Bool) (b : List PV) (k : Res → Option Res) : evFn tau F31 Try.f31 (Try.f31.body.get!) (an31 (r31_0 f) (r31_1 f)) [] 0 [.ar 57 s, .ro 5 nl fl b] [] k = g31 f s nl fl b k := by kernel_rfl
theorem it31 (f : Nat) : items (Try.f31.body.get!) (an31 (r31_0 f) (r31_1 f)) = [.l c31_0 nm31_0 N31 (r31_0 f), .l c31_1 nm31_1 N31 (r31_1 f)] := by kernel_rfl
theorem ia31 (f : Nat) : ∀ q ∈ items (Try.f31.body.get!) (an31 (r31_0 f) (r31_1 f)), q.Ok tau Try.prog 0 := by
  rw [it31 f]; simp only [List.forall_mem_cons, List.not_mem_nil, false_implies, implies_true, and_true]; exact ⟨i31_0 f, i31_1 f⟩
theorem fo31 : Try.prog.funcs[31]? = some Try.f31 := by kernel_rfl
theorem bo31 : Try.f31.body = some (Try.f31.body.get!) := by kernel_rfl
theorem en31 : Enters Try.prog 31 := enters_of fo31 (by kernel_rfl) bo31
end Go.Proofs.Ytodldmomneecpaa.Rx

/- A piece is taken: what it makes of a sum on its way. Own work. -/
namespace Go.Proofs.Ytodldmomneecpaa.Rx
open Go
set_option linter.unusedVariables false
set_option maxRecDepth 100000
set_option maxHeartbeats 1000000
theorem getD8 {R : List Int} (h : R.length = 8) (j : Nat) (hj : j < 8) : (pu .u32 R).getD j .top = .sc (.int .u32 (R.getD j 0)) := pu_get (by omega)
theorem l31_0 (W s : List Int) (hW : W.length = 64) (hs : s.length = 8) (f : Nat) (k0 : List PV → List PV → List PV → Option Res) (a b : List PV) : ∀ (d i n : Nat), i + d = 64 → d < n →
    lp31_0 f k0 n (i : Int) a b (pu .u32 W) (pu .u32 kks) (pu .u32 (rnds W s i)) = k0 a b (pu .u32 (rnds W s 64))
  | 0, i, n + 1, h, hn => by
      obtain rfl : i = 64 := by omega
      simp only [lp31_0, lpS31_0]
      exact bif_f (by decide)
  | d + 1, i, n + 1, h, hn => by
      have hl := rnds_length W s hs i
      have h1 : IntKind.i64.wrap ((i : Int) + 1) = ((i + 1 : Nat) : Int) := by rw [wrap_i64 (by omega) (by omega)]; omega
      have hk : (pu .u32 kks).getD i .top = .sc (.int .u32 (kks.getD i 0)) := pu_get (by show i < 64; omega)
      have hw : (pu .u32 W).getD i .top = .sc (.int .u32 (W.getD i 0)) := pu_get (by omega)
      have c1 : decide ((i : Int) < 64) = true := by simp; omega
      have c2 : decide (0 ≤ (i : Int)) = true := by simp
      have c3 : decide ((i : Int) < zi 64) = true := by simp; omega
      simp only [lp31_0, lpS31_0, getP_ar, Int.toNat_natCast, h1, hk, hw, c1, c2, c3, getD8 hl 0 (by omega), getD8 hl 1 (by omega), getD8 hl 2 (by omega), getD8 hl 3 (by omega), getD8 hl 4 (by omega), getD8 hl 5 (by omega), getD8 hl 6 (by omega), getD8 hl 7 (by omega), PV.isInt, PV.int, decide_true, Bool.and_true, cond_true]
      exact l31_0 W s hW hs f k0 a b d (i + 1) n (by omega) (by omega)
theorem l31_1 (t s : List Int) (ht : t.length = 8) (hs : s.length = 8) (f : Nat) (k0 : List PV → List PV → Option Res) (a : List PV) : ∀ (d i n : Nat), i + d = 8 → d < n →
    lp31_1 f k0 n (i : Int) (pu .u32 s) a (pu .u32 (fillM (fun j => ww (t.getD j 0 + s.getD j 0)) t i)) = k0 a (pu .u32 (fillM (fun j => ww (t.getD j 0 + s.getD j 0)) t 8))
  | 0, i, n + 1, h, hn => by
      obtain rfl : i = 8 := by omega
      simp only [lp31_1, lpS31_1]
      exact bif_f (by decide)
  | d + 1, i, n + 1, h, hn => by
      have hl : (fillM (fun j => ww (t.getD j 0 + s.getD j 0)) t i).length = 8 := by rw [fillM_length _ _ _ (by omega), ht]
      have h1 : IntKind.i64.wrap ((i : Int) + 1) = ((i + 1 : Nat) : Int) := by rw [wrap_i64 (by omega) (by omega)]; omega
      have c1 : decide ((i : Int) < 8) = true := by simp; omega
      have c2 : decide (0 ≤ (i : Int)) = true := by simp
      have c3 : decide ((i : Int) < zi 8) = true := by simp; omega
      have g1 : ((i : Int)).toNat = i := by omega
      simp only [lp31_1, lpS31_1, getP_ar, g1, h1, c1, c2, c3, getD8 hl i (by omega), getD8 hs i (by omega), fillM_get _ t i (by omega), PV.isInt, PV.int, decide_true, Bool.and_true, cond_true, pu_set]
      have := l31_1 t s ht hs f k0 a d (i + 1) n (by omega) (by omega)
      rw [← fillM_set _ t i (by omega)] at this
      exact this
theorem g31_eq (s bs : List Int) (hs : s.length = 8) (hb : bs.length = 64) (nl fl : Bool) (k : Res → Option Res) : g31 100 (pu .u32 s) nl fl (pu .u8 bs) k = k ⟨.ar 57 (pu .u32 (addP s bs)), [], []⟩ := by
  have hW : (spreadP bs).length = 64 := sched_length bs 48
  have hc : (allInt .u8 (pu .u8 bs) && decide ((pu .u8 bs).length = 64)) = true := by simp [hb]
  refine (bif_t hc).trans ?_
  rw [ints_pu]
  have h0 : ∀ k0 a b, lp31_0 100 k0 100 0 a b (pu .u32 (spreadP bs)) (pu .u32 kks) (pu .u32 s) = k0 a b (pu .u32 (rnds (spreadP bs) s 64)) := fun k0 a b => l31_0 (spreadP bs) s hW hs 100 k0 a b 64 0 100 (by omega) (by omega)
  have ht := rnds_length (spreadP bs) s hs 64
  have h1 : ∀ k0 a, lp31_1 100 k0 100 0 (pu .u32 s) a (pu .u32 (rnds (spreadP bs) s 64)) = k0 a (pu .u32 (addP s bs)) := by
    intro k0 a
    have := l31_1 (rnds (spreadP bs) s 64) s ht hs 100 k0 a 8 0 100 (by omega) (by omega)
    rw [fillM_zero] at this
    refine this.trans ?_
    have h2 := fillM_full (fun j => ww ((rnds (spreadP bs) s 64).getD j 0 + s.getD j 0)) (rnds (spreadP bs) s 64)
    rw [ht] at h2; rw [h2]; rfl
  exact (h0 _ _ _).trans (h1 _ _)
def run31' : List PV → List Ent → (Res → Option Res) → Option Res
  | [.ar 57 s, .ro 5 nl fl b], [], k => bif (allInt .u32 s && decide (s.length = 8)) && (allInt .u8 b && decide (b.length = 64)) then k ⟨.ar 57 (pu .u32 (addP (ints s) (ints b))), [], []⟩ else none
  | _, _, _ => none
def s31' : Sig := { own := [], run := run31' }
theorem ok31' : CallOk tau Try.prog 31 s31' := fn_ok tabOk F31_ok mixed fo31 bo31 _ [] 0 [] run31' (ia31 100) fun xs es k res hr => by
  unfold run31' at hr
  split at hr
  · obtain ⟨hc, hr⟩ := of_bif hr
    simp only [Bool.and_eq_true, decide_eq_true_eq] at hc
    refine ⟨rfl, 0, (e31 100 _ _ _ _ _).trans ?_⟩
    rw [pu_ints hc.2.1, pu_ints hc.1.1, g31_eq _ _ (by simpa using hc.1.2) (by simpa using hc.2.2)]
    exact hr
  · cases hr
end Go.Proofs.Ytodldmomneecpaa.Rx

/- What slices.Grow[[]byte,byte] computes. Own work, printed by a program of the worker's own. -/
namespace Go.Proofs.Ytodldmomneecpaa.Rx
open Go
set_option linter.unusedVariables false
set_option maxRecDepth 100000
set_option maxHeartbeats 0
def N36 : Nat := 27
noncomputable def F36 : Fns := F0
theorem F36_ok : FnsOk tau Try.prog F36 := F0_ok
def an36 : An := (.seq .leaf (.seq (.seq .leaf (.cond .leaf .leaf)) (.seq (.seq .leaf (.seq .leaf (.cond .leaf .leaf))) (.seq .leaf .leaf))))
def g36 (f : Nat) (n : Int) (k : Res → Option Res) : Option Res :=
  bif decide (n < 0) then
    none
  else bif decide (IntKind.i64.wrap (n - IntKind.i64.wrap (zi 0 - zi 0)) > 0) then
    bif decide (0 ≤ IntKind.i64.wrap (n - IntKind.i64.wrap (zi 0 - zi 0))) && roomy (IntKind.i64.wrap (n - IntKind.i64.wrap (zi 0 - zi 0))).toNat 1 && true then
      k (Res.mk (PV.ow 5 16 [] 0 0 none) []
        [Ent.vec false 5 (IntKind.i64.wrap (n - IntKind.i64.wrap (zi 0 - zi 0)) == 0) (List.replicate (IntKind.i64.wrap (n - IntKind.i64.wrap (zi 0 - zi 0))).toNat (PV.sc (Value.int IntKind.u8 0)))])
    else none
  else k (Res.mk (PV.ro 5 true true []) [] [])
theorem e36 (f : Nat) (n : Int) (k : Res → Option Res) : evFn tau F36 Try.f36 (Try.f36.body.get!) an36 [] 0 [.ro 5 true true [], .sc (.int .i64 n)] [] k = g36 f n k := by kernel_rfl
theorem it36 (f : Nat) : items (Try.f36.body.get!) an36 = [] := by kernel_rfl
theorem ia36 (f : Nat) : ∀ q ∈ items (Try.f36.body.get!) an36, q.Ok tau Try.prog 0 := by
  rw [it36 f]; intro q hq; cases hq
theorem fo36 : Try.prog.funcs[36]? = some Try.f36 := by kernel_rfl
theorem bo36 : Try.f36.body = some (Try.f36.body.get!) := by kernel_rfl
theorem en36 : Enters Try.prog 36 := enters_of fo36 (by kernel_rfl) bo36
def run36 : List PV → List Ent → (Res → Option Res) → Option Res
  | [.ro 5 true true [], .sc (.int .i64 n)], [], k => g36 0 n k
  | _, _, _ => none
def s36 : Sig := { own := [], run := run36 }
theorem ok36 : CallOk tau Try.prog 36 s36 := fn_ok tabOk F36_ok mixed fo36 bo36 an36 [] 0 [] run36 (ia36 0) fun xs es k res hr => by
  unfold run36 at hr
  split at hr
  · exact ⟨rfl, 0, (e36 0 _  _).trans hr⟩
  · cases hr
end Go.Proofs.Ytodldmomneecpaa.Rx

/- What slices.Concat[[]byte,byte] computes. Own work, printed by a program of the worker's own. -/
namespace Go.Proofs.Ytodldmomneecpaa.Rx
open Go
set_option linter.unusedVariables false
set_option maxRecDepth 100000
set_option maxHeartbeats 0
def N30 : Nat := 36
noncomputable def F30 : Fns := addF 36 s36 F0
theorem F30_ok : FnsOk tau Try.prog F30 := F0_ok.add ok36 en36
noncomputable def c30_0 : Code := subC (Try.f30.body.get!) [1, 1, 0, 1, 0, 0]
def nm30_0 : Nm := [(0, .any), (3, .any), (9, .any), (10, .any), (11, .any)]
def nx30_0 : Nm := [(0, .any), (3, .any)]
def x30_0 : An := (.seq .leaf (.seq (.cond .leaf .leaf) (.seq (.block none (.seq .leaf (.seq .leaf (.seq .leaf (.cond .leaf .leaf))))) .leaf)))
noncomputable def c30_1 : Code := subC (Try.f30.body.get!) [1, 1, 1, 1, 0, 1, 0, 0]
def nm30_1 : Nm := [(6, .own), (25, .any), (26, .any), (27, .any)]
def nx30_1 : Nm := [(6, .any)]
def x30_1 : An := (.seq .leaf (.seq (.cond .leaf .leaf) (.seq (.block none (.seq .leaf .leaf)) .leaf)))
def an30 (r0 : RunL) (r1 : RunL) : An := (.seq .leaf (.seq .leaf (.seq (.seq .leaf (.block none (.sum nm30_0 N30 r0))) (.seq .leaf (.seq (.seq .leaf (.block none (.sum nm30_1 N30 r1))) (.seq .leaf .leaf))))))
def lpS30_0 (f : Nat) (rc : Bool → Bool → List
  PV → Int → Bool → Bool → List
  PV → Int → Int → Option Res) (k0 : Bool → Bool → List
  PV → Int → Option Res) (v0 : Bool) (v1 : Bool) (v2 : List PV) (v3 : Int) (v4 : Bool) (v5 : Bool) (v6 : List PV) (v7 : Int) (v8 : Int) : Option Res :=
  bif decide (v8 < v7) then
    bif decide (0 ≤ v8) && decide (v8 < zi v6.length) && PV.isRo 5 (v6.getD v8.toNat PV.top) && true then
      bif decide (IntKind.i64.wrap (v3 + zi (v6.getD v8.toNat PV.top).els.length) < 0) then
        none
      else rc v0 v1 v2 (IntKind.i64.wrap (v3 + zi (v6.getD v8.toNat PV.top).els.length)) v4 v5 v6 v7 (IntKind.i64.wrap (v8 + 1))
    else none
  else k0 v0 v1 v2 v3
def lp30_0 (f : Nat) (k0 : Bool → Bool → List PV → Int → Option Res) : Nat → Bool → Bool → List PV → Int → Bool → Bool → List PV → Int → Int → Option Res
  | 0, _, _, _, _, _, _, _, _, _ => none
  | n + 1, v0, v1, v2, v3, v4, v5, v6, v7, v8 => lpS30_0 f (lp30_0 f k0 n) k0 v0 v1 v2 v3 v4 v5 v6 v7 v8
theorem lpR30_0 (f : Nat) (k : Kont) (n : Nat) (v0 : Bool) (v1 : Bool) (v2 : List
  PV) (v3 : Int) (v4 : Bool) (v5 : Bool) (v6 : List
  PV) (v7 : Int) (v8 : Int) : evLoop tau 0 nm30_0 (fun s k => ev tau F30 0 0 c30_0 (x30_0 ) s k) (n + 1) (fillS nm30_0 N30 [PV.ro 22 v0 v1 v2, PV.sc (Value.int IntKind.i64 v3), PV.ro 22 v4 v5 v6,
  PV.sc (Value.int IntKind.i64 v7),
  PV.sc
    (Value.int IntKind.i64
      v8)] []) (kNorm tau 0 nx30_0 k) = lpS30_0 f (fun v0 v1 v2 v3 v4 v5 v6 v7 v8 => evLoop tau 0 nm30_0 (fun s k => ev tau F30 0 0 c30_0 (x30_0 ) s k) n (fillS nm30_0 N30 [PV.ro 22 v0 v1 v2,
  PV.sc (Value.int IntKind.i64 v3), PV.ro 22 v4 v5 v6, PV.sc (Value.int IntKind.i64 v7),
  PV.sc
    (Value.int IntKind.i64
      v8)] []) (kNorm tau 0 nx30_0 k)) (fun x0 x1 x2 x3 => k (Ex.exit 0) (fillS nx30_0 N30 [PV.ro 22 x0 x1 x2, PV.sc (Value.int IntKind.i64 x3)] [])) v0 v1 v2 v3 v4 v5 v6 v7 v8 := by kernel_rfl
theorem lpE30_0 (f : Nat) (k : Kont) : ∀ (n : Nat) (v0 : Bool) (v1 : Bool) (v2 : List
  PV) (v3 : Int) (v4 : Bool) (v5 : Bool) (v6 : List
  PV) (v7 : Int) (v8 : Int), evLoop tau 0 nm30_0 (fun s k => ev tau F30 0 0 c30_0 (x30_0 ) s k) n (fillS nm30_0 N30 [PV.ro 22 v0 v1 v2, PV.sc (Value.int IntKind.i64 v3), PV.ro 22 v4 v5 v6,
  PV.sc (Value.int IntKind.i64 v7),
  PV.sc
    (Value.int IntKind.i64
      v8)] []) (kNorm tau 0 nx30_0 k) = lp30_0 f (fun x0 x1 x2 x3 => k (Ex.exit 0) (fillS nx30_0 N30 [PV.ro 22 x0 x1 x2, PV.sc (Value.int IntKind.i64 x3)] [])) n v0 v1 v2 v3 v4 v5 v6 v7 v8
  | 0, _, _, _, _, _, _, _, _, _ => rfl
  | n + 1, v0, v1, v2, v3, v4, v5, v6, v7, v8 => (lpR30_0 f k n v0 v1 v2 v3 v4 v5 v6 v7 v8).trans (congrArg (fun r => lpS30_0 f r (fun x0 x1 x2 x3 => k (Ex.exit
  0) (fillS nx30_0 N30 [PV.ro 22 x0 x1 x2, PV.sc (Value.int IntKind.i64 x3)] [])) v0 v1 v2 v3 v4 v5 v6 v7 v8) (by funext v0 v1 v2 v3 v4 v5 v6 v7 v8; exact lpE30_0 f k n v0 v1 v2 v3 v4 v5 v6 v7 v8))
def r30_0 (f : Nat) : List PV → List (Nat × Ent) → Kont → Option Res
  | [PV.ro 22 v0 v1 v2, PV.sc (Value.int IntKind.i64 v3), PV.ro 22 v4 v5 v6, PV.sc (Value.int IntKind.i64 v7),
  PV.sc (Value.int IntKind.i64 v8)], [], k => lp30_0 f (fun x0 x1 x2 x3 => k (Ex.exit 0) (fillS nx30_0 N30 [PV.ro 22 x0 x1 x2, PV.sc (Value.int IntKind.i64 x3)] [])) f v0 v1 v2 v3 v4 v5 v6 v7 v8
  | _, _, _ => none
theorem it30_0 (f : Nat) : items c30_0 x30_0 = [] := by kernel_rfl
theorem i30_0 (f : Nat) : (Item.l c30_0 nm30_0 N30 (r30_0 f)).Ok tau Try.prog 0 := loop_item tabOk F30_ok mixed (x := x30_0) (nm2 := nx30_0) (anOk_items _ _ (by rw [it30_0 f]; intro q hq; cases hq)) fun vs hp k res hr => by
  unfold r30_0 at hr
  split at hr
  · exact ⟨f, 0, (lpE30_0 f _ f _ _ _ _ _ _ _ _ _ ).trans hr⟩
  · cases hr
def lpS30_1 (f : Nat) (rc : Nat → Bool → Bool → List
  PV → Int → Int → Bool → List
  PV → Option Res) (k0 : Nat → Bool → List PV → Option Res) (v0 : Nat) (v1 : Bool) (v2 : Bool) (v3 : List PV) (v4 : Int) (v5 : Int) (v6 : Bool) (v7 : List PV) : Option Res :=
  bif decide (v5 < v4) then
    bif decide (0 ≤ v5) && decide (v5 < zi v3.length) && PV.isRo 5 (v3.getD v5.toNat PV.top) && true then
      bif roomy (v0 + (v3.getD v5.toNat PV.top).els.length) 1 && true then
        rc (v0 + (v3.getD v5.toNat PV.top).els.length) v1 v2 v3 v4 (IntKind.i64.wrap (v5 + 1)) (v6 && (v3.getD v5.toNat PV.top).els.isEmpty) (List.take v0 v7 ++ (v3.getD v5.toNat PV.top).els)
      else none
    else none
  else k0 v0 v6 v7
def lp30_1 (f : Nat) (k0 : Nat → Bool → List PV → Option Res) : Nat → Nat → Bool → Bool → List PV → Int → Int → Bool → List PV → Option Res
  | 0, _, _, _, _, _, _, _, _ => none
  | n + 1, v0, v1, v2, v3, v4, v5, v6, v7 => lpS30_1 f (lp30_1 f k0 n) k0 v0 v1 v2 v3 v4 v5 v6 v7
theorem lpR30_1 (f : Nat) (k : Kont) (n : Nat) (v0 : Nat) (v1 : Bool) (v2 : Bool) (v3 : List
  PV) (v4 : Int) (v5 : Int) (v6 : Bool) (v7 : List
  PV) : evLoop tau 0 nm30_1 (fun s k => ev tau F30 0 0 c30_1 (x30_1 ) s k) (n + 1) (fillS nm30_1 N30 [PV.ow 5 592 [] 0 v0 none, PV.ro 22 v1 v2 v3, PV.sc (Value.int IntKind.i64 v4),
  PV.sc
    (Value.int IntKind.i64
      v5)] [(592,
    Ent.vec false 5 v6
      v7)]) (kNorm tau 0 nx30_1 k) = lpS30_1 f (fun v0 v1 v2 v3 v4 v5 v6 v7 => evLoop tau 0 nm30_1 (fun s k => ev tau F30 0 0 c30_1 (x30_1 ) s k) n (fillS nm30_1 N30 [PV.ow 5 592 [] 0 v0 none,
  PV.ro 22 v1 v2 v3, PV.sc (Value.int IntKind.i64 v4),
  PV.sc
    (Value.int IntKind.i64
      v5)] [(592,
    Ent.vec false 5 v6
      v7)]) (kNorm tau 0 nx30_1 k)) (fun x0 x1 x2 => k (Ex.exit 2) (fillS nx30_1 N30 [PV.ow 5 592 [] 0 x0 none] [(592, Ent.vec false 5 x1 x2)])) v0 v1 v2 v3 v4 v5 v6 v7 := by kernel_rfl
theorem lpE30_1 (f : Nat) (k : Kont) : ∀ (n : Nat) (v0 : Nat) (v1 : Bool) (v2 : Bool) (v3 : List
  PV) (v4 : Int) (v5 : Int) (v6 : Bool) (v7 : List
  PV), evLoop tau 0 nm30_1 (fun s k => ev tau F30 0 0 c30_1 (x30_1 ) s k) n (fillS nm30_1 N30 [PV.ow 5 592 [] 0 v0 none, PV.ro 22 v1 v2 v3, PV.sc (Value.int IntKind.i64 v4),
  PV.sc
    (Value.int IntKind.i64
      v5)] [(592,
    Ent.vec false 5 v6 v7)]) (kNorm tau 0 nx30_1 k) = lp30_1 f (fun x0 x1 x2 => k (Ex.exit 2) (fillS nx30_1 N30 [PV.ow 5 592 [] 0 x0 none] [(592, Ent.vec false 5 x1 x2)])) n v0 v1 v2 v3 v4 v5 v6 v7
  | 0, _, _, _, _, _, _, _, _ => rfl
  | n + 1, v0, v1, v2, v3, v4, v5, v6, v7 => (lpR30_1 f k n v0 v1 v2 v3 v4 v5 v6 v7).trans (congrArg (fun r => lpS30_1 f r (fun x0 x1 x2 => k (Ex.exit
  2) (fillS nx30_1 N30 [PV.ow 5 592 [] 0 x0 none] [(592, Ent.vec false 5 x1 x2)])) v0 v1 v2 v3 v4 v5 v6 v7) (by funext v0 v1 v2 v3 v4 v5 v6 v7; exact lpE30_1 f k n v0 v1 v2 v3 v4 v5 v6 v7))
def r30_1 (f : Nat) : List PV → List (Nat × Ent) → Kont → Option Res
  | [PV.ow 5 592 [] 0 v0 none, PV.ro 22 v1 v2 v3, PV.sc (Value.int IntKind.i64 v4),
  PV.sc
    (Value.int IntKind.i64
      v5)], [(592, Ent.vec false 5 v6 v7)], k => lp30_1 f (fun x0 x1 x2 => k (Ex.exit 2) (fillS nx30_1 N30 [PV.ow 5 592 [] 0 x0 none] [(592, Ent.vec false 5 x1 x2)])) f v0 v1 v2 v3 v4 v5 v6 v7
  | _, _, _ => none
theorem it30_1 (f : Nat) : items c30_1 x30_1 = [] := by kernel_rfl
theorem i30_1 (f : Nat) : (Item.l c30_1 nm30_1 N30 (r30_1 f)).Ok tau Try.prog 0 := loop_item tabOk F30_ok mixed (x := x30_1) (nm2 := nx30_1) (anOk_items _ _ (by rw [it30_1 f]; intro q hq; cases hq)) fun vs hp k res hr => by
  unfold r30_1 at hr
  split at hr
  · exact ⟨f, 0, (lpE30_1 f _ f _ _ _ _ _ _ _ _ ).trans hr⟩
  · cases hr
def g30 (f : Nat) (nl : Bool) (fl : Bool) (l : List PV) (k : Res → Option Res) : Option Res :=
  lp30_0 f (fun x0_0 x1_0 x2_0 x3_0 =>
    bif decide (x3_0 < 0) then
      none
    else bif decide (IntKind.i64.wrap (x3_0 - IntKind.i64.wrap (zi 0 - zi 0)) > 0) then
      bif decide (0 ≤ IntKind.i64.wrap (x3_0 - IntKind.i64.wrap (zi 0 - zi 0))) && roomy (IntKind.i64.wrap (x3_0 - IntKind.i64.wrap (zi 0 - zi 0))).toNat 1 && true then
        lp30_1 f (fun x0_1 x1_1 x2_1 =>
          k (Res.mk (PV.ow 5 16 [] 0 x0_1 none) []
            [Ent.vec false 5 x1_1
                x2_1])) f (0) x0_0 x1_0 x2_0 (zi
          x2_0.length) (0) (IntKind.i64.wrap (x3_0 - IntKind.i64.wrap (zi 0 - zi 0)) ==
          0) (List.replicate (IntKind.i64.wrap (x3_0 - IntKind.i64.wrap (zi 0 - zi 0))).toNat (PV.sc (Value.int IntKind.u8 0)))
      else none
    else lp30_1 f (fun x0_2 x1_2 x2_2 =>
      k (Res.mk (PV.ow 5 16 [] 0 x0_2 none) [] [Ent.vec false 5 x1_2 x2_2])) f (0) x0_0 x1_0 x2_0 (zi x2_0.length) (0) true ([])) f nl fl l (0) nl fl l (zi l.length) (0)
theorem e30 (f : Nat) (nl : Bool) (fl : Bool) (l : List PV) (k : Res → Option Res) : evFn tau F30 Try.f30 (Try.f30.body.get!) (an30 (r30_0 f) (r30_1 f)) [] 0 [.ro 22 nl fl l] [] k = g30 f nl fl l k := by kernel_rfl
theorem it30 (f : Nat) : items (Try.f30.body.get!) (an30 (r30_0 f) (r30_1 f)) = [.l c30_0 nm30_0 N30 (r30_0 f), .l c30_1 nm30_1 N30 (r30_1 f)] := by kernel_rfl
theorem ia30 (f : Nat) : ∀ q ∈ items (Try.f30.body.get!) (an30 (r30_0 f) (r30_1 f)), q.Ok tau Try.prog 0 := by
  rw [it30 f]; simp only [List.forall_mem_cons, List.not_mem_nil, false_implies, implies_true, and_true]; exact ⟨i30_0 f, i30_1 f⟩
theorem fo30 : Try.prog.funcs[30]? = some Try.f30 := by kernel_rfl
theorem bo30 : Try.f30.body = some (Try.f30.body.get!) := by kernel_rfl
theorem en30 : Enters Try.prog 30 := enters_of fo30 (by kernel_rfl) bo30
end Go.Proofs.Ytodldmomneecpaa.Rx

/- Rows that are put one behind the other (slices.Concat). Own work. -/
namespace Go.Proofs.Ytodldmomneecpaa.Rx
open Go
set_option linter.unusedVariables false
set_option maxRecDepth 100000
def flat (l : List PV) : List PV := (l.map PV.els).flatten
@[simp] theorem flat_nil : flat [] = [] := rfl
@[simp] theorem flat_cons (p : PV) (l : List PV) : flat (p :: l) = p.els ++ flat l := by simp [flat]
theorem flat_append (a b : List PV) : flat (a ++ b) = flat a ++ flat b := by simp [flat]
theorem take_succ_getD (l : List PV) (i : Nat) (h : i < l.length) : l.take (i + 1) = l.take i ++ [l.getD i .top] := by
  rw [List.take_add_one, List.getD_eq_getElem?_getD, List.getElem?_eq_getElem h]; rfl
theorem drop_getD (l : List PV) (i : Nat) (h : i < l.length) : l.drop i = l.getD i .top :: l.drop (i + 1) := by
  rw [List.drop_eq_getElem_cons h, List.getD_eq_getElem?_getD, List.getElem?_eq_getElem h]; rfl
theorem flat_take (l : List PV) (i : Nat) (h : i < l.length) : flat (l.take (i + 1)) = flat (l.take i) ++ (l.getD i .top).els := by
  rw [take_succ_getD l i h, flat_append, flat_cons, flat_nil, List.append_nil]
theorem flat_take_le (l : List PV) (i : Nat) : (flat (l.take i)).length ≤ (flat l).length := by
  have : flat l = flat (l.take i) ++ flat (l.drop i) := by rw [← flat_append, List.take_append_drop]
  rw [this, List.length_append]; omega
theorem isRo_getD {l : List PV} (h : l.all (PV.isRo 5) = true) {i : Nat} (hi : i < l.length) : (l.getD i .top).isRo 5 = true := by
  rw [List.getD_eq_getElem?_getD, List.getElem?_eq_getElem hi]
  exact List.all_eq_true.1 h _ (List.getElem_mem hi)
theorem isEmpty_app {α : Type} (a b : List α) : (a ++ b).isEmpty = (a.isEmpty && b.isEmpty) := by cases a <;> rfl
theorem l30_0 (f : Nat) (k0 : Bool → Bool → List PV → Int → Option Res) (a b : Bool) (c : List PV) (nl fl : Bool) (l : List PV) (hl : l.all (PV.isRo 5) = true) (hs : (flat l).length ≤ 140737488355328) (hn : l.length ≤ 140737488355328) : ∀ (d i n : Nat), i + d = l.length → d < n →
    lp30_0 f k0 n a b c ((flat (l.take i)).length : Int) nl fl l (l.length : Int) (i : Int) = k0 a b c ((flat l).length : Int)
  | 0, i, n + 1, h, hd => by
      obtain rfl : i = l.length := by omega
      simp only [lp30_0, lpS30_0]
      exact (bif_f (by simp)).trans (by rw [List.take_length])
  | d + 1, i, n + 1, h, hd => by
      have hle := flat_take_le l (i + 1)
      have hadd : (flat (l.take (i + 1))).length = (flat (l.take i)).length + (l.getD i .top).els.length := by rw [flat_take l i (by omega), List.length_append]
      have h1 : IntKind.i64.wrap ((i : Int) + 1) = ((i + 1 : Nat) : Int) := by rw [wrap_i64 (by omega) (by omega)]; omega
      have h2 : IntKind.i64.wrap (((flat (l.take i)).length : Int) + ((l.getD i .top).els.length : Int)) = ((flat (l.take (i + 1))).length : Int) := by rw [wrap_i64 (by omega) (by omega)]; omega
      simp only [lp30_0, lpS30_0, zi, Int.toNat_natCast, h1, h2]
      refine (bif_t (by simp <;> omega)).trans ?_
      refine (bif_t (by rw [isRo_getD hl (by omega)]; simp; omega)).trans ?_
      refine (bif_f (by simp <;> omega)).trans ?_
      exact l30_0 f k0 a b c nl fl l hl hs hn d (i + 1) n (by omega) (by omega)
theorem l30_1 (f : Nat) (k0 : Nat → Bool → List PV → Option Res) (nl fl : Bool) (l : List PV) (hl : l.all (PV.isRo 5) = true) (hs : (flat l).length ≤ 140737488355328) (hn : l.length ≤ 140737488355328) : ∀ (d i n : Nat) (z : Bool) (v : List PV), i + d = l.length → d < n → v.take (flat (l.take i)).length = flat (l.take i) → (d = 0 → v = flat l) →
    lp30_1 f k0 n (flat (l.take i)).length nl fl l (l.length : Int) (i : Int) z v = k0 (flat l).length (z && (flat (l.drop i)).isEmpty) (flat l)
  | 0, i, n + 1, z, v, h, hd, hv, h0 => by
      obtain rfl : i = l.length := by omega
      simp only [lp30_1, lpS30_1]
      refine (bif_f (by simp)).trans ?_
      rw [List.take_length, h0 rfl, List.drop_length]; simp
  | d + 1, i, n + 1, z, v, h, hd, hv, h0 => by
      have hle := flat_take_le l (i + 1)
      have hadd : (flat (l.take (i + 1))).length = (flat (l.take i)).length + (l.getD i .top).els.length := by rw [flat_take l i (by omega), List.length_append]
      have h1 : IntKind.i64.wrap ((i : Int) + 1) = ((i + 1 : Nat) : Int) := by rw [wrap_i64 (by omega) (by omega)]; omega
      simp only [lp30_1, lpS30_1, zi, Int.toNat_natCast, h1, hv]
      refine (bif_t (by simp <;> omega)).trans ?_
      refine (bif_t (by rw [isRo_getD hl (by omega)]; simp; omega)).trans ?_
      refine (bif_t (by simp only [roomy, Bool.and_true, decide_eq_true_eq]; omega)).trans ?_
      have := l30_1 f k0 nl fl l hl hs hn d (i + 1) n (z && (l.getD i .top).els.isEmpty) (flat (l.take (i + 1))) (by omega) (by omega) (List.take_length) (fun hd0 => by rw [show i + 1 = l.length from by omega, List.take_length])
      rw [hadd, flat_take l i (by omega)] at this
      rw [this, drop_getD l i (by omega), flat_cons, isEmpty_app, Bool.and_assoc]
def run30' : List PV → List Ent → (Res → Option Res) → Option Res
  | [.ro 22 nl fl l], [], k => bif l.all (PV.isRo 5) && (decide ((flat l).length ≤ 140737488355328) && decide (l.length ≤ 140737488355328)) then k ⟨.ow 5 16 [] 0 (flat l).length none, [], [.vec false 5 (flat l).isEmpty (flat l)]⟩ else none
  | _, _, _ => none
def s30' : Sig := { own := [], run := run30' }
theorem g30_eq (nl fl : Bool) (l : List PV) (k : Res → Option Res) (hl : l.all (PV.isRo 5) = true) (hs : (flat l).length ≤ 140737488355328) (hn : l.length ≤ 140737488355328) :
    g30 (l.length + 1) nl fl l k = k ⟨.ow 5 16 [] 0 (flat l).length none, [], [.vec false 5 (flat l).isEmpty (flat l)]⟩ := by
  have h0 := l30_0 (l.length + 1) (fun x0_0 x1_0 x2_0 x3_0 =>
    bif decide (x3_0 < 0) then
      none
    else bif decide (IntKind.i64.wrap (x3_0 - IntKind.i64.wrap (zi 0 - zi 0)) > 0) then
      bif decide (0 ≤ IntKind.i64.wrap (x3_0 - IntKind.i64.wrap (zi 0 - zi 0))) && roomy (IntKind.i64.wrap (x3_0 - IntKind.i64.wrap (zi 0 - zi 0))).toNat 1 && true then
        lp30_1 (l.length + 1) (fun x0_1 x1_1 x2_1 =>
          k (Res.mk (PV.ow 5 16 [] 0 x0_1 none) []
            [Ent.vec false 5 x1_1
                x2_1])) (l.length + 1) (0) x0_0 x1_0 x2_0 (zi
          x2_0.length) (0) (IntKind.i64.wrap (x3_0 - IntKind.i64.wrap (zi 0 - zi 0)) ==
          0) (List.replicate (IntKind.i64.wrap (x3_0 - IntKind.i64.wrap (zi 0 - zi 0))).toNat (PV.sc (Value.int IntKind.u8 0)))
      else none
    else lp30_1 (l.length + 1) (fun x0_2 x1_2 x2_2 =>
      k (Res.mk (PV.ow 5 16 [] 0 x0_2 none) [] [Ent.vec false 5 x1_2 x2_2])) (l.length + 1) (0) x0_0 x1_0 x2_0 (zi x2_0.length) (0) true ([])) nl fl l nl fl l hl hs hn l.length 0 (l.length + 1) (by omega) (by omega)
  refine h0.trans ?_
  have hw : IntKind.i64.wrap (((flat l).length : Int) - IntKind.i64.wrap (zi 0 - zi 0)) = ((flat l).length : Int) := by
    have : IntKind.i64.wrap (zi 0 - zi 0) = 0 := by decide
    rw [this, wrap_i64 (by omega) (by omega)]; omega
  simp only [hw]
  refine (bif_f (by simp <;> omega)).trans ?_
  cases he : (flat l).isEmpty with
  | true =>
    have he' : flat l = [] := by simpa using he
    refine (bif_f (by simp [he'])).trans ?_
    have := l30_1 (l.length + 1) (fun x0_2 x1_2 x2_2 => k (Res.mk (PV.ow 5 16 [] 0 x0_2 none) [] [Ent.vec false 5 x1_2 x2_2])) nl fl l hl hs hn l.length 0 (l.length + 1) true [] (by omega) (by omega) (by simp) (fun _ => he'.symm)
    refine this.trans ?_
    simp [he']
  | false =>
    have he' : flat l ≠ [] := by simpa using he
    have hpos : 0 < (flat l).length := List.length_pos_iff.2 he'
    have hl0 : l.length ≠ 0 := by
      intro h; rw [List.length_eq_zero_iff] at h; subst h; simp at he'
    refine (bif_t (by simp <;> omega)).trans ?_
    refine (bif_t (by simp [roomy] <;> omega)).trans ?_
    have := l30_1 (l.length + 1) (fun x0_2 x1_2 x2_2 => k (Res.mk (PV.ow 5 16 [] 0 x0_2 none) [] [Ent.vec false 5 x1_2 x2_2])) nl fl l hl hs hn l.length 0 (l.length + 1) (((flat l).length : Int) == 0) (List.replicate (((flat l).length : Int)).toNat (PV.sc (Value.int IntKind.u8 0))) (by omega) (by omega) (by simp) (fun h => absurd h hl0)
    refine this.trans ?_
    have hz : (((flat l).length : Int) == 0) = false := by simp [he']
    rw [hz]; rfl
theorem ok30' : CallOk tau Try.prog 30 s30' := fn_ok2 tabOk F30_ok mixed fo30 bo30 (fun n => an30 (r30_0 n) (r30_1 n)) [] 0 [] run30' (fun n => ia30 n) fun xs es k res hr => by
  unfold run30' at hr
  split at hr
  · rename_i nl fl l
    obtain ⟨hc, hr⟩ := of_bif hr
    simp only [Bool.and_eq_true, decide_eq_true_eq] at hc
    refine ⟨rfl, l.length + 1, 0, (e30 _ _ _ _ _).trans ?_⟩
    rw [g30_eq _ _ _ _ hc.1 hc.2.1 hc.2.2]; exact hr
  · cases hr
end Go.Proofs.Ytodldmomneecpaa.Rx
