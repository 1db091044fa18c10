/- An evaluator of the model's code over plain values, and the proof that it is sound. Conditions: none. -/
import Derived.KernelRfl
import Derived.ChangeArms
import Derived.DataReads
import Derived.OpenShut
import Derived.Below
import Derived.WalkKit
import Derived.ProofKit
import Derived.ShutString
import Derived.ChangeOld
import Derived.Carry
import Derived.Lib.Overlaps
import Derived.Test.YthpmachmnoljeaaWaveletTwiceZ3
noncomputable section
namespace Go.Proofs.Ythpmachmnoljeaa.Rx
open Go
set_option linter.unusedVariables false

def JvL : Value -> Value -> Bool
 | .int k n, .int k' n' => decide (k = k') && n == n'
 | .bool b, .bool b' => b == b'
 | .string s, .string s' => s.toList == s'.toList && s.size == 0 && s'.size == 0
 | .float k n, .float k' n' => decide (k = k') && n == n'
 | .complex k n m, .complex k' n' m' => decide (k = k') && n == n' && m == m'
 | .pointer none, .pointer none => true
 | .nilFunc, .nilFunc => true
 | _, _ => false
theorem Joi {u v : Value} (h : JvL u v = true) : u = v := by
 unfold JvL at h
 split at h <;> simp_all
def Jgk : List PV -> List Value -> Bool
 | [], cs => cs.isEmpty
 | p :: ps, v :: r => v.oneCell' && (match p with | .sc u => JvL u v | .top => true | _ => false) && Jgk ps r
 | _, _ => false
theorem Jjv : ∀ (l : List PV) (cs : List Value), Jgk l cs = true -> QC l cs
 | [], cs, h => by simpa [Jgk, QC] using h
 | p :: ps, [], h => by simp [Jgk] at h
 | p :: ps, v :: r, h => by
  simp only [Jgk, Bool.and_eq_true] at h
  obtain ⟨⟨h1, h2⟩, h3⟩ := h
  refine ⟨v, r, rfl, h1, ?_, Jjv ps r h3⟩
  cases p with
  | sc u => exact .inl (by rw [Joi h2])
  | top => exact .inr rfl
  | _ => cases h2
mutual
def Gb (τ : Tab) : PV -> TypeId -> List Value -> Bool
 | .sc v, t, cs => !τ.agg t && (match cs with | [u] => JvL u v && v.oneCell' | _ => false)
 | .ro e nl fl els, t, cs => nl && (match τ.und t with | some (.slice e') => e' == e | _ => false) && els.isEmpty && (match cs with | [.slice none 0 0] => true | _ => false)
 | .ar t' els, t, cs => t' == t && (match τ.und t with | some (.array n e) => τ.scal e && els.length == n && Jgk els cs | _ => false)
 | .st t' fs, t, cs => t' == t && (match τ.und t with | some (.struct fds) => Jgl τ fs (fds.toList.map (·.type)) cs | some (.array n e) => fs.length == n && Jjw τ fs e cs | _ => false)
 | _, _, _ => false
def Jjw (τ : Tab) : List PV -> TypeId -> List Value -> Bool
 | [], _, cs => cs.isEmpty
 | p :: ps, e, cs => Gb τ p e (cs.take (τ.siz e)) && Jjw τ ps e (cs.drop (τ.siz e))
def Jgl (τ : Tab) : List PV -> List TypeId -> List Value -> Bool
 | [], ts, cs => ts.isEmpty && cs.isEmpty
 | p :: ps, t :: r, cs => Gb τ p t (cs.take (τ.siz t)) && Jgl τ ps r (cs.drop (τ.siz t))
 | _, _, _ => false
end
mutual
theorem Jhi (τ : Tab) (im : Im) : ∀ (ow : Own) (p : PV) (t : TypeId) (cs : List Value), Gb τ p t cs = true -> Rep τ im ow p t cs
 | ow, .sc v, t, cs, h => by
  simp only [Gb, Bool.and_eq_true, Bool.not_eq_true'] at h
  obtain ⟨h1, h2⟩ := h
  simp only [Rep]
  split at h2
  · rename_i u
    rw [Bool.and_eq_true] at h2
    exact ⟨h1, by rw [Joi h2.1], h2.2⟩
  · cases h2
 | ow, .ro e nl fl els, t, cs, h => by
  simp only [Gb, Bool.and_eq_true] at h
  obtain ⟨⟨⟨rfl, h2⟩, h3⟩, h4⟩ := h
  simp only [Rep]
  split at h2
  · rename_i e' hu
    rw [beq_iff_eq] at h2; subst h2
    split at h4
    · obtain rfl : els = [] := by simpa using h3
      exact ⟨hu, _, rfl, .inl ⟨rfl, rfl, rfl⟩⟩
    · cases h4
  · cases h2
 | ow, .ar t' els, t, cs, h => by
  simp only [Gb, Bool.and_eq_true, beq_iff_eq] at h
  obtain ⟨rfl, h2⟩ := h
  simp only [Rep]
  split at h2
  · rename_i n e hu
    simp only [Bool.and_eq_true, beq_iff_eq] at h2
    exact ⟨trivial, n, e, hu, h2.1.1, h2.1.2, Jjv _ _ h2.2⟩
  · cases h2
 | ow, .st t' fs, t, cs, h => by
  simp only [Gb, Bool.and_eq_true, beq_iff_eq] at h
  obtain ⟨rfl, h2⟩ := h
  simp only [Rep]
  refine ⟨trivial, ?_⟩
  split at h2
  · rename_i fds hu
    exact .inl ⟨fds, hu, Jjy τ im ow fs _ cs h2⟩
  · rename_i n e hu
    simp only [Bool.and_eq_true, beq_iff_eq] at h2
    exact .inr ⟨n, e, hu, h2.1, Jjx τ im ow fs e cs h2.2⟩
  · cases h2
 | ow, .top, t, cs, h => by simp [Gb] at h
 | ow, .ow _ _ _ _ _ _, t, cs, h => by simp [Gb] at h
 | ow, .ptr _ _, t, cs, h => by simp [Gb] at h
 | ow, .rp _ _, t, cs, h => by simp [Gb] at h
 | ow, .va _ _, t, cs, h => by simp [Gb] at h
 | ow, .vr _ _, t, cs, h => by simp [Gb] at h
 | ow, .tup _, t, cs, h => by simp [Gb] at h
 | ow, .fn _ _ _, t, cs, h => by simp [Gb] at h
theorem Jjx (τ : Tab) (im : Im) : ∀ (ow : Own) (l : List PV) (e : TypeId) (cs : List Value), Jjw τ l e cs = true -> Jm τ im ow l e cs
 | ow, [], e, cs, h => by simpa [Jjw, Jm] using h
 | ow, p :: ps, e, cs, h => by
  simp only [Jjw, Bool.and_eq_true] at h
  simp only [Jm]
  exact ⟨_, _, (List.take_append_drop _ _).symm, Jhi τ im ow p e _ h.1, Jjx τ im ow ps e _ h.2⟩
theorem Jjy (τ : Tab) (im : Im) : ∀ (ow : Own) (l : List PV) (ts : List TypeId) (cs : List Value), Jgl τ l ts cs = true -> JR τ im ow l ts cs
 | ow, [], ts, cs, h => by simpa [Jgl, JR] using h
 | ow, p :: ps, [], cs, h => by simp [Jgl] at h
 | ow, p :: ps, t :: r, cs, h => by
  simp only [Jgl, Bool.and_eq_true] at h
  simp only [JR]
  exact ⟨t, r, _, _, rfl, (List.take_append_drop _ _).symm, Jhi τ im ow p t _ h.1, Jjy τ im ow ps r _ h.2⟩
end
def VL (τ : Tab) : Nat -> List Field -> Nat -> Bool
 | o, [], n => o == n
 | o, f :: r, n => f.offset == o && (τ.und f.type).isSome && VL τ (o + τ.siz f.type) r n
theorem Jef (τ : Tab) : ∀ (l : List Field) (o n : Nat), VL τ o l n = true -> FieldsOk τ o l n
 | [], o, n, h => by simpa [VL, FieldsOk] using h
 | f :: r, o, n, h => by
  simp only [VL, Bool.and_eq_true, beq_iff_eq] at h
  exact ⟨h.1.1, Option.isSome_iff_exists.1 h.1.2, Jef τ r _ n h.2⟩
def Jrj : Value -> Bool
 | .agg _ => true
 | _ => false
def JAW (τ : Tab) (P : Program) (t : TypeId) : Bool :=
 match τ.zer t with
 | none => true
 | some z => match P.info? t with
  | some i => match i.zero with
   | some v => (τ.agg t || v.oneCell') && (!τ.agg t || Jrj v) && Gb τ z t v.cells.toList
   | none => false
  | none => false
def JvM (τ : Tab) (P : Program) (t : TypeId) : Bool :=
 match τ.und t with
 | none => (τ.zer t).isNone
 | some d => decide (0 < τ.siz t) && decide (0 < τ.byt t) && decide (τ.byt t <= 1048576) && (τ.agg t || τ.siz t == 1) && (!τ.agg t || !P.eqGuardType P.depth t) &&
  (match d with
   | .struct fds => VL τ 0 fds.toList (τ.siz t) && !P.stoodInHeld t
   | .array n e => τ.siz t == n * τ.siz e && (τ.und e).isSome
   | .slice e => (τ.und e).isSome
   | _ => true) && JAW τ P t
noncomputable def Jav (P : Program) (ts : List TypeId) (z : TypeId -> Option PV) : Tab :=
 { und := fun t => bif ts.elem t then P.underlying t else none, siz := P.cellsOf, byt := P.bytesOf, zer := fun t => bif ts.elem t then z t else none, hold := fun _ x k => k x }
theorem Jrk {P : Program} {ts : List TypeId} {z : TypeId -> Option PV} (h : ts.all (JvM (Jav P ts z) P) = true) : TabOk (Jav P ts z) P := by
 have mem : ∀ t d, (Jav P ts z).und t = some d -> t ∈ ts /\ P.underlying t = some d := by
   intro t d hu
   simp only [Jav] at hu
   cases he : ts.elem t with
   | true => rw [he] at hu; exact ⟨List.elem_iff.1 he, hu⟩
   | false => rw [he] at hu; cases hu
 have chk : ∀ t d, (Jav P ts z).und t = some d -> JvM (Jav P ts z) P t = true := fun t d hu => List.all_eq_true.1 h t (mem t d hu).1
 generalize hτ : Jav P ts z = τ at *
 have hsiz : τ.siz = P.cellsOf := by rw [← hτ]; rfl
 have hbyt : τ.byt = P.bytesOf := by rw [← hτ]; rfl
 have hz : ∀ t z', τ.zer t = some z' -> t ∈ ts := by
   intro t z' h0
   rw [← hτ] at h0
   simp only [Jav] at h0
   cases he : ts.elem t with
   | true => exact List.elem_iff.1 he
   | false => rw [he] at h0; cases h0
 have all : ∀ t d, τ.und t = some d -> 0 < τ.siz t /\ (0 < τ.byt t /\ τ.byt t <= 1048576) /\ (τ.agg t = true ∨ τ.siz t = 1) /\ (τ.agg t = false ∨ P.eqGuardType P.depth t = false) /\
     (match d with
      | .struct fds => VL τ 0 fds.toList (τ.siz t) && !P.stoodInHeld t
      | .array n e => τ.siz t == n * τ.siz e && (τ.und e).isSome
      | .slice e => (τ.und e).isSome
      | _ => true) = true /\ JAW τ P t = true := by
   intro t d hu
   have h0 := chk t d hu
   simp only [JvM, hu, Bool.and_eq_true, decide_eq_true_eq, Bool.or_eq_true, beq_iff_eq, Bool.not_eq_true'] at h0
   obtain ⟨⟨⟨⟨⟨⟨a, b⟩, c⟩, d'⟩, e⟩, f⟩, g⟩ := h0
   refine ⟨a, ⟨b, c⟩, d', e, ?_, g⟩
   cases d <;> simp_all
 have hhold : ∀ β x k, τ.hold β x k = k x := fun β x k => by rw [← hτ]; rfl
 refine ⟨hhold, fun t d hu => (mem t d hu).2, fun t d hu => ?_, fun t d hu ha => ?_, fun t d hu => (all t d hu).1, fun t d hu => (all t d hu).2.1, fun t fds hu => ?_, fun t n e hu => ?_, fun t e hu => ?_, fun t d hu ha => ?_, fun t z' hz' => ?_⟩
 · have h1 := (mem t d hu).2
   cases hi : P.info? t with
   | none => simp [Program.underlying, hi] at h1
   | some i => exact ⟨i, rfl, by rw [hsiz]; simp [Program.cellsOf, hi], by rw [hbyt]; simp [Program.bytesOf, hi]⟩
 · rcases (all t d hu).2.2.1 with h0 | h0
   · rw [ha] at h0; cases h0
   · exact h0
 · have h0 := (all t _ hu).2.2.2.2.1
   simp only [Bool.and_eq_true, Bool.not_eq_true'] at h0
   exact ⟨Jef _ _ _ _ h0.1, h0.2⟩
 · have h0 := (all t _ hu).2.2.2.2.1
   simp only [Bool.and_eq_true, beq_iff_eq] at h0
   exact ⟨h0.1, Option.isSome_iff_exists.1 h0.2⟩
 · have h0 := (all t _ hu).2.2.2.2.1
   exact Option.isSome_iff_exists.1 h0
 · rcases (all t d hu).2.2.2.1 with h0 | h0
   · rw [ha] at h0; cases h0
   · exact h0
 · have hm := List.all_eq_true.1 h t (hz t z' hz')
   cases hu : τ.und t with
   | none => simp [JvM, hu, hz'] at hm
   | some d =>
     refine ⟨⟨d, rfl⟩, ?_⟩
     have h0 := (all t d hu).2.2.2.2.2
     simp only [JAW, hz'] at h0
     cases hi : P.info? t with
     | none => simp [hi] at h0
     | some i =>
      simp only [hi] at h0
      cases hv : i.zero with
      | none => simp [hv] at h0
      | some v =>
       simp only [hv, Bool.and_eq_true, Bool.or_eq_true, Bool.not_eq_true'] at h0
       obtain ⟨⟨h1, h2⟩, h3⟩ := h0
       refine ⟨i, v, rfl, hv, fun ha => ?_, fun ha => ?_, fun im ow => Jhi τ im ow z' t _ h3⟩
       · rcases h1 with h1 | h1
         · rw [ha] at h1; cases h1
         · exact h1
       · rcases h2 with h2 | h2
         · rw [ha] at h2; cases h2
         · cases v <;> simp_all [Jrj]
end Go.Proofs.Ythpmachmnoljeaa.Rx
end

noncomputable section
namespace Go.Proofs.Ythpmachmnoljeaa.Rx
open Go
set_option linter.unusedVariables false
set_option maxHeartbeats 1000000

abbrev zi (n : Nat) : Int := (n : Int)
abbrev u8l (l : List UInt8) : List UInt8 := l
abbrev Qw := List PV -> List (Nat × Ent) -> Kont -> Option Res
abbrev Jrl := Nat -> Qw
def Qf : Code -> List Nat -> Code
 | c, [] => c
 | .seq a b, i :: p => bif i == 0 then Qf a p else Qf b p
 | .cond _ a b, i :: p => bif i == 0 then Qf a p else Qf b p
 | .block _ c, _ :: p => Qf c p
 | .loop c, _ :: p => Qf c p
 | .scope c, _ :: p => Qf c p
 | c, _ :: _ => c
inductive Item where
 | l (c : Code) (nm : Nm) (N : Nat) (run : List PV -> List (Nat × Ent) -> Kont -> Option Res)
 | c (c : Code) (nm : Nm) (N : Nat) (run : List PV -> List (Nat × Ent) -> Kont -> Option Res)
 | s (c : Code) (nm : Nm) (N : Nat) (run : Nat -> List PV -> List (Nat × Ent) -> Kont -> Option Res)
def Jg : Code -> An -> List Item
 | .seq a b, .seq x y => Jg a x ++ Jg b y
 | .seq a b, .mid _ x y => Jg a x ++ Jg b y
 | .seq a b, .cut nm N x run => Jg a x ++ [.c b nm N run]
 | .cond _ a b, .cond x y => Jg a x ++ Jg b y
 | .block _ c, .block _ x => Jg c x
 | .loop c, .loop _ x => Jg c x
 | .scope c, .scope _ x => Jg c x
 | .loop c, .sum nm N run => [.l c nm N run]
 | .scope c, .ssum nm N x run => .s c nm N run :: Jg c x
 | _, _ => []
def Item.Ok (τ : Tab) (P : Program) (np : Nat) : Item -> Prop
 | .c c0 nm N run => ∀ vs hp k res, run vs hp k = some res -> ∃ e s', k e s' = some res /\ Gs τ P np c0 (Jj nm N vs hp) e s'
 | .l c0 nm N run => ∀ vs hp k res, run vs hp k = some res -> ∃ e s', k e s' = some res /\ Gs τ P np (.loop c0) (Jj nm N vs hp) e s'
 | .s c0 nm N run => ∀ l vs hp k res, hasLabel c0 l = true -> run l vs hp k = some res -> ∃ e s', k e s' = some res /\ (∀ l, e = .goto l -> hasLabel c0 l = false) /\ ∃ m, ∀ (x : Ctx np) a w, At τ x.im0 x.ow0 x.h0 x.w0 (Jj nm N vs hp) a w -> ∀ Q : Exit -> Act -> World -> Prop, (∀ a' w', At τ x.im0 x.ow0 x.h0 x.w0 s' a' w' -> Q (Ga e) a' w') -> ScR P c0 Q m l a w
section
variable {τ : Tab} {P : Program} {np : Nat}
theorem Jk : ∀ (c : Code) (an : An), (∀ q ∈ Jg c an, q.Ok τ P np) -> QR τ P np c an
 | .seq a b, an, h => by
  cases an with
  | seq x y => exact ⟨Jk a x fun q hq => h q (List.mem_append.2 (.inl hq)), Jk b y fun q hq => h q (List.mem_append.2 (.inr hq))⟩
  | mid nm x y => exact ⟨Jk a x fun q hq => h q (List.mem_append.2 (.inl hq)), Jk b y fun q hq => h q (List.mem_append.2 (.inr hq))⟩
  | cut nm N x run => exact ⟨Jk a x fun q hq => h q (List.mem_append.2 (.inl hq)), h (.c b nm N run) (by simp [Jg])⟩
  | _ => simp [QR]
 | .cond _ a b, an, h => by
  cases an with
  | cond x y => exact ⟨Jk a x fun q hq => h q (List.mem_append.2 (.inl hq)), Jk b y fun q hq => h q (List.mem_append.2 (.inr hq))⟩
  | _ => simp [QR]
 | .block _ c, an, h => by
  cases an with
  | block nm x => simp only [QR]; exact Jk c x h
  | _ => simp [QR]
 | .loop c, an, h => by
  cases an with
  | loop nm x => simp only [QR]; exact Jk c x h
  | sum nm N run => simp only [QR]; exact h (.l c nm N run) (by simp [Jg])
  | _ => simp [QR]
 | .scope c, an, h => by
  cases an with
  | scope nm x => simp only [QR]; exact Jk c x h
  | ssum nm N x run => simp only [QR]; exact ⟨Jk c x fun q hq => h q (List.mem_cons_of_mem _ hq), h (.s c nm N run) (by simp [Jg])⟩
  | _ => simp [QR]
 | .skip, an, h => by simp [QR]
 | .label _, an, h => by simp [QR]
 | .region _ _ _, an, h => by simp [QR]
 | .exit _, an, h => by simp [QR]
 | .goto _, an, h => by simp [QR]
 | .ret, an, h => by simp [QR]
 | .rangeFunc _ _ _ _, an, h => by simp [QR]
 | .refuse _, an, h => by simp [QR]
def JG (τ : Tab) (np : Nat) (nm : Nm) (k : Kont) : Kont := fun e s => match WB τ np nm s with
 | some s2 => k e s2
 | none => none
theorem Jc.of {g : FuncId} {sg sg' : Sig} (h : Jc τ P g sg) (hr : ∀ xs es k res, sg'.run xs es k = some res -> sg.run xs es k = some res) : Jc τ P g sg' :=
 fun xs es k res hl hh => h xs es k res hl (hr xs es k res hh)
def Jt (g0 : Nat) (sg : Sig) (F : Fns) : Fns := fun g => bif g == g0 then some sg else F g
theorem Jq.add {F : Fns} {g0 : Nat} {sg : Sig} (h : Jq τ P F) (hc : Jc τ P g0 sg) (he : Enters P g0) : Jq τ P (Jt g0 sg F) := by
 intro g s hs
 simp only [Jt] at hs
 cases hg : g == g0 with
 | true => rw [hg, cond_true] at hs; rw [beq_iff_eq] at hg; subst hg; obtain rfl := Option.some.inj hs; exact .inl ⟨hc, he⟩
 | false => rw [hg, cond_false] at hs; exact h g s hs
variable (ok : TabOk τ P) {F : Fns} (hFn : Jq τ P F) (hmo : P.follows .mixedOrders = true)
include ok hFn hmo
theorem Ju {c : Code} {nm nm2 : Nm} {N : Nat} {run : List PV -> List (Nat × Ent) -> Kont -> Option Res} {x : An} (hx : QR τ P np c x)
  (h : ∀ vs hp k res, run vs hp k = some res -> ∃ n m, Jy τ np nm (fun s k => ev τ F np m c x s k) n (Jj nm N vs hp) (JG τ np nm2 k) = some res) : (Item.l c nm N run).Ok τ P np := by
 intro vs hp k res hr
 obtain ⟨n, m, he⟩ := h vs hp k res hr
 obtain ⟨e, s', hk, r, hm⟩ := Jcd ok (c := c) (fun s k res h => XU ok hFn hmo c x s k res hx h) n _ _ res he
 simp only [JG] at hk
 cases hn : WB τ np nm2 s' with
 | none => rw [hn] at hk; cases hk
 | some s2 =>
  rw [hn] at hk
  exact ⟨e, s2, hk, fun x a w ha Q hQ => wp_loop_rounds r (hm x a w ha Q fun a' w' ha' => hQ a' w' (Wd ok x.hnp hn ha'))⟩
theorem Jrm {c : Code} {nm nm2 : Nm} {N : Nat} {run : List PV -> List (Nat × Ent) -> Kont -> Option Res} {x : An} (hx : QR τ P np c x)
  (h : ∀ vs hp k res, run vs hp k = some res -> ∃ n m, JyD (fun s k => ev τ F np m c x s k) n (Jj nm N vs hp) (JG τ np nm2 k) = some res) : (Item.c c nm N run).Ok τ P np := by
 intro vs hp k res hr
 obtain ⟨n, m, he⟩ := h vs hp k res hr
 cases n with
 | zero => cases he
 | succ n =>
  obtain ⟨e, s', hk, hm⟩ := XU ok hFn hmo c x _ _ res hx he
  simp only [JG] at hk
  cases hn : WB τ np nm2 s' with
  | none => rw [hn] at hk; cases hk
  | some s2 =>
   rw [hn] at hk
   exact ⟨e, s2, hk, fun x a w ha Q hQ => hm x a w ha Q fun a' w' ha' => hQ a' w' (Wd ok x.hnp hn ha')⟩
theorem XV {c : Code} {nm nm2 : Nm} {N : Nat} {run : Nat -> List PV -> List (Nat × Ent) -> Kont -> Option Res} {x : An} (hx : QR τ P np c x)
  (h : ∀ l vs hp k res, run l vs hp k = some res -> ∃ n m, Q2 τ np nm (hasLabel c) (fun l s k => Qi τ F np m c x l s k) n l (Jj nm N vs hp) (JG τ np nm2 k) = some res) : (Item.s c nm N run).Ok τ P np := by
 intro l vs hp k res hl hr
 obtain ⟨n, m, he⟩ := h l vs hp k res hr
 obtain ⟨e, s', hk, hne, r, hm⟩ := Gt ok (c := c) (fun l s k res h => VK ok hFn hmo c x l s k res hx h) n l _ _ res he
 simp only [JG] at hk
 cases hn : WB τ np nm2 s' with
 | none => rw [hn] at hk; cases hk
 | some s2 =>
  rw [hn] at hk
  exact ⟨e, s2, hk, hne, r, fun x a w ha Q hQ => hm x a w ha Q fun a' w' ha' => hQ a' w' (Wd ok x.hnp hn ha')⟩
theorem JO {g : FuncId} {fn : Func} {c : Code} (hf : P.funcs[g]? = some fn) (hb : fn.body = some c) (an : An) (md : List Md) (m : Nat) (own : List Bool) (run : List PV -> List Ent -> (Res -> Option Res) -> Option Res)
  (hA : ∀ q ∈ Jg c an, q.Ok τ P m) (hr : ∀ xs es k res, run xs es k = some res -> es.length = m /\ ∃ n, JJ τ F fn c an md n xs es k = some res) : Jc τ P g { own := own, run := run } := by
 intro xs es k res hl hh
 obtain ⟨hm, n, he⟩ := hr xs es k res hh
 have hmb : (es.length == m) = true := by simpa using hm
 exact Jhh ok hFn hmo hf hb an md n m own (Jk c an hA) xs es k res hl (by simp only [hmb, cond_true]; exact he)
end
end Go.Proofs.Ythpmachmnoljeaa.Rx
end

noncomputable section
namespace Go.Proofs.Ythpmachmnoljeaa.Rx
open Go
set_option linter.unusedVariables false

def pu (k : IntKind) (l : List Int) : List PV := l.map fun x => .sc (.int k x)
def JD (l : List PV) : List Int := l.map PV.int
theorem Ja {α : Type} {c : Bool} {a b : α} (h : c = true) : (bif c then a else b) = a := by rw [h]; rfl
theorem Jd {α : Type} {c : Bool} {a b : α} (h : c = false) : (bif c then a else b) = b := by rw [h]; rfl
theorem Jv {α : Type} {c : Bool} {a : Option α} {r : α} (h : (bif c then a else none) = some r) : c = true /\ a = some r := by
 cases c with
 | true => exact ⟨rfl, h⟩
 | false => cases h
@[simp] theorem JI (k : IntKind) (l : List Int) : (pu k l).length = l.length := by simp [pu]
@[simp] theorem QU (l : List PV) : (JD l).length = l.length := by simp [JD]
@[simp] theorem Qa (k : IntKind) (a b : List Int) : pu k (a ++ b) = pu k a ++ pu k b := by simp [pu]
@[simp] theorem Jla (k : IntKind) : pu k [] = [] := rfl
@[simp] theorem Jdt (k : IntKind) (x : Int) (l : List Int) : pu k (x :: l) = .sc (.int k x) :: pu k l := rfl
theorem Yh (k : IntKind) (n : Nat) (l : List Int) : (pu k l).take n = pu k (l.take n) := by simp [pu, List.map_take]
theorem Joj (k : IntKind) (n : Nat) (l : List Int) : (pu k l).drop n = pu k (l.drop n) := by simp [pu, List.map_drop]
theorem Xs (k : IntKind) (l : List Int) (i : Nat) (x : Int) : (pu k l).set i (.sc (.int k x)) = pu k (l.set i x) := by simp [pu, List.map_set]
theorem Z1 {k : IntKind} {l : List Int} {i : Nat} (h : i < l.length) : (pu k l).getD i .top = .sc (.int k (l.getD i 0)) := by
 simp [pu, List.getD_eq_getElem?_getD, List.getElem?_eq_getElem h]
theorem QG {k : IntKind} {l : List Int} {i : Nat} (h : i < l.length) : ((pu k l).getD i .top).int = l.getD i 0 := by rw [Z1 h]; rfl
theorem J7 {k : IntKind} {l : List Int} {i : Nat} (h : i < l.length) : ((pu k l).getD i .top).isInt k = true := by rw [Z1 h]; simp [PV.isInt]
@[simp] theorem WF (k : IntKind) (l : List Int) : JD (pu k l) = l := by
 induction l with
 | nil => rfl
 | cons x r ih => simp only [Jdt, JD, List.map_cons, PV.int]; rw [← JD, ih]
@[simp] theorem JP (k : IntKind) (l : List Int) : Jl k (pu k l) = true := by
 induction l with
 | nil => rfl
 | cons x r ih => simp [Jl, PV.isInt, ih]
theorem QB {k : IntKind} : ∀ {l : List PV}, Jl k l = true -> l = pu k (JD l)
 | [], _ => rfl
 | p :: ps, h => by
  simp only [Jl, Bool.and_eq_true] at h
  have h1 : p = .sc (.int k p.int) := by
   have h0 := h.1
   unfold PV.isInt at h0
   split at h0
   · simp only [decide_eq_true_eq] at h0; subst h0; rfl
   · cases h0
  have h2 := QB h.2
  simp only [JD, List.map_cons, Jdt]
  rw [← JD, ← h2, ← h1]
theorem Wb (k : IntKind) : ∀ (a b : List PV), Jl k (a ++ b) = (Jl k a && Jl k b)
 | [], b => by simp [Jl]
 | p :: ps, b => by simp [Jl, Wb k ps b, Bool.and_assoc]
theorem Yi (t : TypeId) (l : List PV) (i : Nat) : Jr (.ar t l) [i] = l.getD i .top := rfl
theorem wrap_i64 {x : Int} (h0 : -9223372036854775808 <= x) (h1 : x < 9223372036854775808) : IntKind.i64.wrap x = x := by
 have h2 : (2 : Int) ^ 64 = 18446744073709551616 := by decide
 have h3 : (2 : Int) ^ (64 - 1) = 9223372036854775808 := by decide
 have key : (if (true && decide (x % 18446744073709551616 >= 9223372036854775808)) = true then x % 18446744073709551616 - 18446744073709551616 else x % 18446744073709551616) = x := by
  simp only [Bool.true_and, decide_eq_true_eq]
  split <;> omega
 simpa only [IntKind.wrap, IntKind.bits, IntKind.signed, h2, h3] using key
theorem wI {i : Nat} (h : i < 9223372036854775807) : IntKind.i64.wrap ((i : Int) + 1) = ((i + 1 : Nat) : Int) := by rw [wrap_i64 (by omega) (by omega)]; omega
theorem tI (i : Nat) : ((i : Int)).toNat = i := by omega
theorem Jjz (x : Int) : IntKind.u32.wrap x = x % 4294967296 := by
 have h2 : (2 : Int) ^ 32 = 4294967296 := by decide
 simp only [IntKind.wrap, IntKind.bits, IntKind.signed, h2, Bool.false_and, Bool.false_eq_true, if_false]
theorem Jlb (x : Int) : IntKind.u8.wrap x = x % 256 := by
 have h2 : (2 : Int) ^ 8 = 256 := by decide
 simp only [IntKind.wrap, IntKind.bits, IntKind.signed, h2, Bool.false_and, Bool.false_eq_true, if_false]
theorem QV (x : Int) : IntKind.u64.wrap x = x % 18446744073709551616 := by
 have h2 : (2 : Int) ^ 64 = 18446744073709551616 := by decide
 simp only [IntKind.wrap, IntKind.bits, IntKind.signed, h2, Bool.false_and, Bool.false_eq_true, if_false]
theorem Jcg (k : IntKind) : ∀ (a b : List Int), J6 (pu k a) (pu k b) = (a == b)
 | [], [] => rfl
 | [], _ :: _ => rfl
 | _ :: _, [] => rfl
 | x :: a, y :: b => by
  simp only [Jdt, J6, PV.int, Jcg k a b]
  rw [List.cons_beq_cons]
theorem Jhj {τ : Tab} {P : Program} (ok : TabOk τ P) {F : Fns} (hFn : Jq τ P F) (hmo : P.follows .mixedOrders = true) {g : FuncId} {fn : Func} {c : Code} (hf : P.funcs[g]? = some fn) (hb : fn.body = some c) {ι : Type} (an : ι -> An) (md : List Md) (m : Nat) (own : List Bool) (run : List PV -> List Ent -> (Res -> Option Res) -> Option Res)
  (hA : ∀ i, ∀ q ∈ Jg c (an i), q.Ok τ P m) (hr : ∀ xs es k res, run xs es k = some res -> es.length = m /\ ∃ i n, JJ τ F fn c (an i) md n xs es k = some res) : Jc τ P g { own := own, run := run } := by
 intro xs es k res hl hh
 obtain ⟨hm, i, n, he⟩ := hr xs es k res hh
 have hmb : (es.length == m) = true := by simpa using hm
 exact Jhh ok hFn hmo hf hb (an i) md n m own (Jk c (an i) (hA i)) xs es k res hl (by simp only [hmb, cond_true]; exact he)
end Go.Proofs.Ythpmachmnoljeaa.Rx
end

noncomputable section
namespace Go.Proofs.Ythpmachmnoljeaa.Rx
open Go
set_option linter.unusedVariables false
set_option maxHeartbeats 1000000

def Ty (τ : Tab) : Nat -> TypeId -> PV -> Prop
 | 0, _, _ => False
 | n + 1, t, p => match τ.und t with
  | some (.int k) => ∃ x, p = .sc (.int k x) /\ (Lit.int k x).wf = true
  | some .bool => ∃ b, p = .sc (.bool b)
  | some .string => ∃ s, p = .sc (.string s) /\ s.size <= maxLen
  | some (.slice e) => ∃ nl els, p = .ro e nl false els /\ (nl = true -> els = []) /\ els.length <= maxLen /\ ∀ q ∈ els, Ty τ n e q
  | some (.array m e) => ∃ els, p = .ar t els /\ els.length = m /\ ∀ q ∈ els, Ty τ n e q
  | some (.struct fds) => ∃ fs, p = .st t fs /\ fs.length = fds.size /\ ∀ (i : Nat) (f : Field) (q : PV), fds[i]? = some f -> fs[i]? = some q -> Ty τ n f.type q
  | _ => False
def YR (τ : Tab) : Nat -> TypeId -> Bool
 | 0, _ => false
 | n + 1, t => match τ.und t with
  | some (.int _) => true
  | some .bool => true
  | some .string => true
  | some (.slice e) => YR τ n e
  | some (.array _ e) => (match τ.und e with | some (.int _) => YR τ n e | _ => false)
  | some (.struct fds) => fds.toList.all fun f => YR τ n f.type
  | _ => false
section
variable {τ : Tab} {P : Program} (ok : TabOk τ P) {W : World} {H : Type} {enc : TypeId × Value -> H}
def imW (W : World) : Im := fun b => W.heap[b]?
theorem JjA {a : Addr} {n : Nat} {cs : List Value} (h : W.cells? 0 a n = some cs) (hn : 0 < n) :
   a.spot = none /\ ∃ c el fr, W.heap[a.block]? = some (.cells c el fr) /\ ∀ i, i < n -> c.toList[a.off + i]? = cs[i]? := by
 obtain ⟨_, hl, hc⟩ := World.cells?_some h
 have h0 := hc 0 hn
 have hv : ∃ v, cs[0]? = some v := ⟨cs[0]'(by omega), List.getElem?_eq_getElem (by omega)⟩
 obtain ⟨v, hv⟩ := hv
 rw [hv] at h0
 have hsp : a.spot = none := by
   have := World.cell?_spot h0
   simpa [Addr.add] using this
 have hob : ∃ c el fr, W.heap[a.block]? = some (.cells c el fr) := by
   have h1 := h0
   simp only [World.cell?, Addr.add] at h1
   split at h1
   · rename_i c el fr hh; exact ⟨c, el, fr, by simpa using hh⟩
   · cases h1
 obtain ⟨c, el, fr, hob⟩ := hob
 refine ⟨hsp, c, el, fr, hob, fun i hi => ?_⟩
 have h1 := hc i hi
 rw [← h1]
 simp only [World.cell?, Addr.add]
 by_cases hi0 : i = 0
 · subst hi0; simp [hob, hsp]
 · simp [hi0, hob]
theorem Jc0 {im : Im} {e : TypeId} {n : Nat} (S : Nat) : ∀ (len : Nat) (cs : List Value), cs.length = len * S -> (∀ i, i < len -> ∃ pv, Ty τ n e pv /\ Rep τ im JC pv e ((cs.drop (i * S)).take S)) ->
  ∃ els, els.length = len /\ (∀ q ∈ els, Ty τ n e q) /\ Jm τ im JC els e cs
 | 0, cs, hl, h => ⟨[], rfl, (fun q hq => by cases hq), by simp only [Jm]; exact List.length_eq_zero_iff.1 (by omega)⟩
 | len + 1, cs, hl, h => by
   obtain ⟨pv, h1, h2⟩ := h 0 (by omega)
   have hl2 : (cs.drop S).length = len * S := by rw [List.length_drop, hl, Nat.succ_mul]; omega
   obtain ⟨els, g1, g2, g3⟩ := Jc0 S len (cs.drop S) hl2 fun i hi => by
     obtain ⟨pv, k1, k2⟩ := h (i + 1) (by omega)
     refine ⟨pv, k1, ?_⟩
     rw [List.drop_drop, show S + i * S = (i + 1) * S from by rw [Nat.succ_mul]; omega]; exact k2
   refine ⟨pv :: els, by simp [g1], fun q hq => ?_, ?_⟩
   · rcases List.mem_cons.1 hq with rfl | hq
     · exact h1
     · exact g2 q hq
   · simp only [Jm]
     refine ⟨cs.take S, cs.drop S, (List.take_append_drop _ _).symm, ?_, g3⟩
     simpa using h2
include ok in
theorem Jc1 {im : Im} {n : Nat} : ∀ (fds : List Field) (o N : Nat) (cs : List Value) (px : List Value), FieldsOk τ o fds N -> px.length = o -> (px ++ cs).length = N ->
  (∀ (i : Nat) (f : Field), fds[i]? = some f -> ∃ pv, Ty τ n f.type pv /\ Rep τ im JC pv f.type (((px ++ cs).drop f.offset).take (τ.siz f.type))) ->
  ∃ fs, fs.length = fds.length /\ (∀ (i : Nat) (f : Field) (q : PV), fds[i]? = some f -> fs[i]? = some q -> Ty τ n f.type q) /\ JR τ im JC fs (fds.map (·.type)) cs
 | [], o, N, cs, px, hf, hp, hN, h => by
   simp only [FieldsOk] at hf
   refine ⟨[], rfl, (fun i f q h1 => by simp at h1), ?_⟩
   simp only [List.map_nil, JR]
   refine ⟨trivial, List.length_eq_zero_iff.1 ?_⟩
   rw [List.length_append] at hN; omega
 | f :: r, o, N, cs, px, hf, hp, hN, h => by
   simp only [FieldsOk] at hf
   obtain ⟨h1, ⟨d, hd⟩, h3⟩ := hf
   obtain ⟨pv, k1, k2⟩ := h 0 f rfl
   have hdrop : (px ++ cs).drop f.offset = cs := by rw [h1, ← hp]; simp
   rw [hdrop] at k2
   have hlen := Rep.len ok _ _ _ ⟨d, hd⟩ k2
   have hle : τ.siz f.type <= cs.length := by
     rw [List.length_take] at hlen; omega
   obtain ⟨fs, g1, g2, g3⟩ := Jc1 r (o + τ.siz f.type) N (cs.drop (τ.siz f.type)) (px ++ cs.take (τ.siz f.type)) h3 (by rw [List.length_append, List.length_take]; omega) (by rw [List.append_assoc, List.take_append_drop]; exact hN) fun i f' hf' => by
     have := h (i + 1) f' (by simpa using hf')
     rw [List.append_assoc, List.take_append_drop]; exact this
   refine ⟨pv :: fs, by simp [g1], fun i f' q hf' hq => ?_, ?_⟩
   · cases i with
     | zero =>
      simp only [List.getElem?_cons_zero, Option.some.injEq] at hf' hq
      subst hf' hq; exact k1
     | succ i => exact g2 i f' q (by simpa using hf') (by simpa using hq)
   · simp only [List.map_cons, JR]
     exact ⟨f.type, _, _, _, rfl, (List.take_append_drop _ _).symm, k2, g3⟩
theorem Jgm {e : TypeId} {k : IntKind} (he : τ.und e = some (.int k)) {n : Nat} : ∀ (m : Nat) (cs : List Value), cs.length = m -> (∀ i, i < m -> ∃ x, (cs.drop i).take 1 = [.int k x] /\ (Lit.int k x).wf = true) ->
  ∃ els, els.length = m /\ (∀ q ∈ els, Ty τ (n + 1) e q) /\ QC els cs
 | 0, cs, hl, h => ⟨[], rfl, (fun q hq => by cases hq), by simp only [QC]; exact List.length_eq_zero_iff.1 hl⟩
 | m + 1, cs, hl, h => by
   match cs, hl with
   | c :: cs, hl =>
    obtain ⟨x, h1, h2⟩ := h 0 (by omega)
    simp only [List.drop_zero, List.take_succ_cons, List.take_zero, List.cons.injEq, and_true] at h1
    subst h1
    obtain ⟨els, g1, g2, g3⟩ := Jgm he (n := n) m cs (by simpa using hl) fun i hi => by
      obtain ⟨y, k1, k2⟩ := h (i + 1) (by omega)
      exact ⟨y, by simpa using k1, k2⟩
    refine ⟨.sc (.int k x) :: els, by simp [g1], fun q hq => ?_, ?_⟩
    · rcases List.mem_cons.1 hq with rfl | hq
      · simp only [Ty, he]; exact ⟨x, rfl, h2⟩
      · exact g2 q hq
    · simp only [QC]; exact ⟨_, _, rfl, rfl, .inl rfl, g3⟩
theorem Jgn {t : TypeId} {k : IntKind} {n : Nat} {cs : List Value} {x : DataW H × List MemPlace} (hP : P.underlying t = some (.int k)) (h : DataW.trod enc P W 0 (fun _ => true) true n t cs = some x) : ∃ y, cs = [.int k y] /\ (Lit.int k y).wf = true := by
  cases n with
  | zero => simp [DataW.trod] at h
  | succ n =>
    unfold DataW.trod at h
    rw [hP] at h
    split at h
    all_goals first
    | (rename_i k1 k2 y heq; simp only [Option.some.injEq, TypeDesc.int.injEq] at heq; subst heq; split at h
       · rename_i hc; obtain ⟨rfl, hw⟩ := hc; exact ⟨y, rfl, hw⟩
       · cases h)
    | simp_all
theorem Jlc {t : TypeId} {n : Nat} {cs : List Value} {x : DataW H × List MemPlace} (hP : P.underlying t = some .bool) (h : DataW.trod enc P W 0 (fun _ => true) true n t cs = some x) : ∃ b, cs = [.bool b] := by
 cases n with
 | zero => simp [DataW.trod] at h
 | succ n =>
  unfold DataW.trod at h
  rw [hP] at h
  split at h
  all_goals first
  | exact ⟨_, rfl⟩
  | simp_all
theorem Jhk {t : TypeId} {n : Nat} {cs : List Value} {x : DataW H × List MemPlace} (hP : P.underlying t = some .string) (h : DataW.trod enc P W 0 (fun _ => true) true n t cs = some x) : ∃ s, cs = [.string s] /\ s.size <= maxLen := by
  cases n with
  | zero => simp [DataW.trod] at h
  | succ n =>
    unfold DataW.trod at h
    rw [hP] at h
    split at h
    all_goals first
    | (split at h
       · rename_i hs; exact ⟨_, rfl, hs⟩
       · cases h)
    | simp_all
include ok
theorem Z2 (hs : τ.siz = P.cellsOf) : ∀ (m fuel : Nat) (t : TypeId) (cs : List Value) (x : DataW H × List MemPlace), YR τ m t = true -> DataW.trod enc P W 0 (fun _ => true) true fuel t cs = some x ->
  ∃ pv, Ty τ m t pv /\ Rep τ (imW W) JC pv t cs
 | 0, fuel, t, cs, x, ho, h => by cases ho
 | m + 1, fuel, t, cs, x, ho, h => by
   cases hu : τ.und t with
   | none => simp [YR, hu] at ho
   | some d =>
    have hP := ok.und t d hu
    simp only [YR, hu] at ho
    simp only [Ty, hu]
    cases d with
    | int k =>
     obtain ⟨y, rfl, hw⟩ := Jgn hP h
     refine ⟨_, ⟨y, rfl, hw⟩, ?_⟩
     simp only [Rep]
     exact ⟨by simp [Tab.agg, hu], trivial, rfl⟩
    | bool =>
     obtain ⟨b, rfl⟩ := Jlc hP h
     refine ⟨.sc (.bool b), ⟨b, rfl⟩, ?_⟩
     simp only [Rep]
     exact ⟨by simp [Tab.agg, hu], trivial, rfl⟩
    | string =>
     obtain ⟨s, rfl, hw⟩ := Jhk hP h
     refine ⟨_, ⟨s, rfl, hw⟩, ?_⟩
     simp only [Rep]
     exact ⟨by simp [Tab.agg, hu], trivial, rfl⟩
    | slice e =>
     simp only at ho
     rcases DataW.trod_slice hP h with ⟨rfl, _⟩ | ⟨a, len, cap, elems, rest, n, _, rfl, _, hb, hl, hm, hlen, hel, _, _⟩
     · refine ⟨_, ⟨true, [], rfl, fun _ => rfl, by simp, fun q hq => by cases hq⟩, ?_⟩
       simp only [Rep]
       exact ⟨hu, _, rfl, .inl ⟨rfl, rfl, rfl⟩⟩
     · obtain ⟨de, hde⟩ := ok.sl t e hu
       have hpos := ok.pos e de hde
       have hsz : P.cellsOf e = τ.siz e := by rw [hs]
       rw [hsz] at hel
       have hel' : ∀ i, i < len -> ∃ cs', W.cells? 0 (a.add (i * τ.siz e)) (τ.siz e) = some cs' /\ ∃ pv, Ty τ m e pv /\ Rep τ (imW W) JC pv e cs' := by
         intro i hi
         have h1 := hel i hi
         have h2 : ∃ y, elems[i]? = some y := ⟨elems[i]'(by omega), List.getElem?_eq_getElem (by omega)⟩
         obtain ⟨y, h2⟩ := h2
         rw [h2] at h1
         cases hc : W.cells? 0 (a.add (i * τ.siz e)) (τ.siz e) with
         | none => rw [hc] at h1; cases h1
         | some cs' =>
           rw [hc, Option.bind_some] at h1
           exact ⟨cs', rfl, Z2 hs m n e cs' y ho h1⟩
       by_cases hl0 : len = 0
       · subst hl0
         refine ⟨_, ⟨false, [], rfl, (fun h => by cases h), by simp, fun q hq => by cases hq⟩, ?_⟩
         simp only [Rep]
         exact ⟨hu, _, rfl, .inr ⟨rfl, a, cap, rfl, hl, (fun h => by cases h), .inl rfl⟩⟩
       · obtain ⟨cs0, hc0, _⟩ := hel' 0 (by omega)
         obtain ⟨hsp, c, el, fr, hob, hget⟩ := JjA hc0 hpos
         have hsp' : a.spot = none := by simpa [Addr.add] using hsp
         have hblk : (a.add (0 * τ.siz e)).block = a.block := by simp [Addr.add]
         rw [hblk] at hob
         have hat : ∀ i, i < len -> ∀ j, j < τ.siz e -> ∃ cs', W.cells? 0 (a.add (i * τ.siz e)) (τ.siz e) = some cs' /\ cs'.length = τ.siz e /\ c.toList[a.off + (i * τ.siz e + j)]? = cs'[j]? := by
           intro i hi j hj
           obtain ⟨cs', hc, _⟩ := hel' i hi
           obtain ⟨_, c2, el2, fr2, hob2, hget2⟩ := JjA hc hpos
           have hb2 : (a.add (i * τ.siz e)).block = a.block := by simp [Addr.add]; split <;> rfl
           have ho2 : (a.add (i * τ.siz e)).off = a.off + i * τ.siz e := by
             simp only [Addr.add]; split
             · rename_i h0; rw [h0, Nat.add_zero]
             · rfl
           rw [hb2, hob] at hob2
           simp only [Option.some.injEq, Obj.cells.injEq] at hob2
           obtain ⟨rfl, _, _⟩ := hob2
           have := hget2 j hj
           rw [ho2, Nat.add_assoc] at this
           exact ⟨cs', hc, (World.cells?_some hc).2.1, this⟩
         have hbig : ∀ k, k < len * τ.siz e -> (c.toList[a.off + k]?).isSome = true := by
           intro k hk
           have hk1 : k / τ.siz e < len := Nat.div_lt_of_lt_mul (by rw [Nat.mul_comm]; exact hk)
           have hk2 : k % τ.siz e < τ.siz e := Nat.mod_lt _ hpos
           obtain ⟨cs', _, hl', hg⟩ := hat _ hk1 _ hk2
           rw [show k / τ.siz e * τ.siz e + k % τ.siz e = k from by rw [Nat.mul_comm]; exact Nat.div_add_mod _ _] at hg
           rw [hg, List.getElem?_eq_getElem (by omega)]; rfl
         have hlpos : 0 < len * τ.siz e := Nat.mul_pos (by omega) hpos
         have hclen : a.off + len * τ.siz e <= c.toList.length := by
           have := hbig (len * τ.siz e - 1) (by omega)
           rcases Nat.lt_or_ge (a.off + (len * τ.siz e - 1)) c.toList.length with h' | h'
           · omega
           · rw [List.getElem?_eq_none h'] at this; cases this
         let mid := (c.toList.drop a.off).take (len * τ.siz e)
         have hmid : mid.length = len * τ.siz e := by simp only [mid, List.length_take, List.length_drop]; omega
         obtain ⟨els, g1, g2, g3⟩ := Jc0 (im := imW W) (e := e) (n := m) (τ.siz e) len mid hmid fun i hi => by
           obtain ⟨cs', hc, pv, k1, k2⟩ := hel' i hi
           refine ⟨pv, k1, ?_⟩
           have hcs : (mid.drop (i * τ.siz e)).take (τ.siz e) = cs' := by
             have hcl := (World.cells?_some hc).2.1
             have hmul : i * τ.siz e + τ.siz e <= len * τ.siz e := by
               have : (i + 1) * τ.siz e <= len * τ.siz e := Nat.mul_le_mul_right _ (by omega)
               rwa [Nat.succ_mul] at this
             apply List.ext_getElem?
             intro j
             rcases Nat.lt_or_ge j (τ.siz e) with hj | hj
             · obtain ⟨cs2, hc2, _, hg⟩ := hat i hi j hj
               rw [hc] at hc2; obtain rfl := Option.some.inj hc2
               rw [← hg, List.getElem?_take_of_lt hj, List.getElem?_drop, List.getElem?_take_of_lt (by omega), List.getElem?_drop]
             · rw [List.getElem?_eq_none (by rw [List.length_take]; omega), List.getElem?_eq_none (by omega)]
           rw [hcs]; exact k2
         refine ⟨_, ⟨false, els, rfl, (fun h => by cases h), by omega, g2⟩, ?_⟩
         simp only [Rep]
         refine ⟨hu, _, rfl, .inr ⟨rfl, a, cap, by rw [g1], by rw [g1]; exact hl, (fun h => by cases h), .inr ⟨hsp', c, el, fr, c.toList.take a.off, mid, (c.toList.drop a.off).drop (len * τ.siz e), hob, ?_, by rw [List.length_take]; omega, g3⟩⟩⟩
         simp only [mid]
         rw [List.append_assoc, List.take_append_drop, List.take_append_drop]
    | array n e =>
     simp only at ho
     split at ho
     · rename_i k he
       have hsz : P.cellsOf e = τ.siz e := by rw [hs]
       have h1 := ok.one e _ he (by simp [Tab.agg, he])
       obtain ⟨xs, m', _, _, hl, hxl, hel⟩ := DataW.trod_array hP h
       rw [hsz, h1] at hel
       have hct : P.cellsOf t = n := by rw [← hs] at *; have := (ok.arr t n e hu).1; rw [this, h1, Nat.mul_one]
       cases m with
       | zero => cases ho
       | succ m =>
         obtain ⟨els, g1, g2, g3⟩ := Jgm (τ := τ) he (n := m) n cs (by rw [hl, hct]) fun i hi => by
           have h2 := hel i hi
           obtain ⟨y, hy⟩ : ∃ y, xs[i]? = some y := ⟨xs[i]'(by omega), List.getElem?_eq_getElem (by omega)⟩
           rw [hy, Nat.mul_one] at h2
           exact Jgn (ok.und e _ he) h2
         refine ⟨_, ⟨els, rfl, g1, g2⟩, ?_⟩
         simp only [Rep]
         exact ⟨trivial, n, e, hu, by simp [Tab.scal, he], g1, g3⟩
     · cases ho
    | struct fds =>
     simp only at ho
     obtain ⟨xs, m', _, _, hl, hxl, hel⟩ := DataW.trod_struct hP h
     obtain ⟨hfo, _⟩ := ok.str t fds hu
     obtain ⟨fs, g1, g2, g3⟩ := Jc1 ok (im := imW W) (n := m) fds.toList 0 (τ.siz t) cs [] hfo rfl (by rw [List.nil_append, hl, hs]) fun i f hf => by
       have hf' : fds[i]? = some f := by rw [← Array.getElem?_toList]; exact hf
       have h2 := hel i f hf'
       have hi : i < fds.size := by
         rcases Nat.lt_or_ge i fds.size with h' | h'
         · exact h'
         · rw [Array.getElem?_eq_none h'] at hf'; cases hf'
       obtain ⟨y, hy⟩ : ∃ y, xs[i]? = some y := ⟨xs[i]'(by omega), List.getElem?_eq_getElem (by omega)⟩
       rw [hy, show P.cellsOf f.type = τ.siz f.type from by rw [hs]] at h2
       have hof : YR τ m f.type = true := List.all_eq_true.1 ho f (List.mem_of_getElem? hf)
       obtain ⟨pv, k1, k2⟩ := Z2 hs m m' f.type _ y hof h2
       exact ⟨pv, k1, by rw [List.nil_append]; exact k2⟩
     refine ⟨_, ⟨fs, rfl, by rw [g1, Array.length_toList], fun i f q hf hq => g2 i f q (by rw [Array.getElem?_toList]; exact hf) hq⟩, ?_⟩
     simp only [Rep]
     exact ⟨trivial, .inl ⟨fds, hu, g3⟩⟩
    | _ => cases ho
end
end Go.Proofs.Ythpmachmnoljeaa.Rx
end

noncomputable section
namespace Go.Proofs.Ythpmachmnoljeaa.Rx
open Go
open Go.ChangeShapes Go.WideShapes Go.ChangeAt Go.RowKit
set_option linter.unusedVariables false
set_option maxHeartbeats 1000000

def TyL (τ : Tab) (m : Nat) : List TypeId -> List PV -> Prop
 | [], [] => True
 | t :: ts, p :: ps => Ty τ m t p /\ TyL τ m ts ps
 | _, _ => False
section
variable {τ : Tab} {P : Program} (ok : TabOk τ P) {b0 : Nat} {W W' : World} {H : Type} {enc : TypeId × Value -> H}
include ok
theorem JvN {m t pv v d} (hd : τ.und t = some d) (ho : YR τ m t = true) (hv : Value.okWide P W .any b0 t v) (hr : Rep τ (imW W) JC pv t v.cells.toList) : Jf τ (imW W) JC pv v := by
 have hP := ok.und t d hd
 have h1 := Rep.toV ok hd hr
 have hval : J5 (τ.agg t) v.cells.toList = v := by
  cases m with
  | zero => cases ho
  | succ m =>
   simp only [YR, hd] at ho
   simp only [Value.okWide, hP] at hv
   cases d with
   | struct fds => obtain ⟨cs, rfl, _⟩ := hv; simp [Tab.agg, hd, J5, Value.cells]
   | array n e => obtain ⟨cs, rfl, _⟩ := hv; simp [Tab.agg, hd, J5, Value.cells]
   | int k => cases v <;> simp_all [Cell.okWide, Cell.ok, Tab.agg, J5, Value.cells]
   | bool => cases v <;> simp_all [Cell.okWide, Cell.ok, Tab.agg, J5, Value.cells]
   | string => cases v <;> simp_all [Cell.okWide, Cell.ok, Tab.agg, J5, Value.cells]
   | slice e => cases v <;> simp_all [Cell.okWide, Cell.ok, Tab.agg, J5, Value.cells]
   | _ => cases ho
 rw [hval] at h1; exact h1
theorem JjB (hs : τ.siz = P.cellsOf) {m : Nat} : ∀ (ts : List TypeId) (vs : List Value) (ds : List (DataW H)) (p : List MemPlace), (∀ t ∈ ts, YR τ m t = true) -> (∀ (j : Nat) t v, ts[j]? = some t -> vs[j]? = some v -> Value.okWide P W .any b0 t v) ->
  DataW.TrodAll enc P W 0 (fun _ => true) true ts vs ds p -> ∃ pvs, TyL τ m ts pvs /\ JF τ (imW W) JC pvs vs
 | [], vs, ds, p, ho, hv, h => by
   obtain ⟨rfl, _, _⟩ := trodAll_nil h
   exact ⟨[], trivial, by simp only [JF]⟩
 | t :: ts, vs, ds, p, ho, hv, h => by
   obtain ⟨v, vs', d, ds', q, q', rfl, rfl, rfl, h1, h2⟩ := trodAll_cons h
   obtain ⟨pvs, g1, g2⟩ := JjB hs ts vs' ds' q' (fun t ht => ho t (List.mem_cons_of_mem _ ht)) (fun j t' v' a b => hv (j + 1) t' v' (by simpa using a) (by simpa using b)) h2
   obtain ⟨fuel, hf⟩ := h1
   have hot := ho t List.mem_cons_self
   obtain ⟨pv, k1, k2⟩ := Z2 ok hs m fuel t _ _ hot hf
   have hd : ∃ d, τ.und t = some d := by
    cases m with
    | zero => cases hot
    | succ m =>
     cases hu : τ.und t with
     | none => simp [YR, hu] at hot
     | some d => exact ⟨d, rfl⟩
   obtain ⟨d, hd⟩ := hd
   refine ⟨pv :: pvs, ⟨k1, g1⟩, ?_⟩
   simp only [JF]
   exact ⟨v, vs', rfl, JvN ok hd hot (hv 0 t v rfl rfl) k2, g2⟩
theorem Jrn (hs : τ.siz = P.cellsOf) {g : FuncId} {sg : Sig} (hc : Jc τ P g sg) {m : Nat} {ts : List TypeId} {args : Array Value} {ds : List (DataW H)} {p : List MemPlace}
  (hrun : ∀ pvs, TyL τ m ts pvs -> sg.run pvs [] some = some ⟨.sc (.bool true), [], []⟩)
  (ho : ∀ t ∈ ts, YR τ m t = true) (hv : ∀ (j : Nat) t v, ts[j]? = some t -> args[j]? = some v -> Value.okWide P W .any b0 t v) (h : DataW.TrodAll enc P W 0 (fun _ => true) true ts args.toList ds p) :
  Calls P g args W fun e W' => e = .returned (.bool true) /\ Below W.heap.size W W' := by
 obtain ⟨pvs, h1, h2⟩ := JjB ok hs ts args.toList ds p ho (fun j t v a b => hv j t v a (by rw [← Array.getElem?_toList]; exact b)) h
 obtain ⟨r, hr, hcall⟩ := hc pvs [] some _ (by simp) (hrun pvs h1)
 obtain rfl := Option.some.inj hr
 have hinv : Inv τ (imW W) JC (JQ [] []) W := by
  refine ⟨fun b o hb => hb, fun i e he => ?_, fun i j b hl => ?_, fun i l hl => by cases hl⟩
  · simp [JQ] at he
  · obtain ⟨e, l, g1, _⟩ := hl; simp [JQ] at g1
 refine (hcall (imW W) JC W args h2 hinv).mono fun e W' ⟨u, im', ow', he, hu, G⟩ => ?_
 simp only [Jf] at hu
 refine ⟨by rw [he, hu.1], G.rest.1, G.rest.2.1, G.rest.2.2, G.size, fun k hk => ?_⟩
 have : W.heap[k]? = some W.heap[k] := Array.getElem?_eq_getElem hk
 rw [this]
 exact G.inv.imOk k _ (G.imX k _ this)
omit ok in
theorem Gi (hl : laidOutB P = true) (hb : Below W.heap.size W W') : ∀ (ts : List TypeId) (vs : List Value) (ds : List (DataW H)) (p : List MemPlace), (∀ t ∈ ts, P.readableRec t = true /\ t < P.types.size) ->
  DataW.TrodAll enc P W 0 (fun _ => true) true ts vs ds p -> ∃ p', DataW.TrodAll enc P W' 0 (fun b => decide (b < W.heap.size)) true ts vs ds p'
 | [], vs, ds, p, ho, h => by
   obtain ⟨rfl, rfl, _⟩ := trodAll_nil h
   exact ⟨[], rfl⟩
 | t :: ts, vs, ds, p, ho, h => by
   obtain ⟨v, vs', d, ds', q, q', rfl, rfl, rfl, h1, h2⟩ := trodAll_cons h
   obtain ⟨p', g⟩ := Gi hl hb ts vs' ds' q' (fun t ht => ho t (List.mem_cons_of_mem _ ht)) h2
   have hlt : ∀ x ∈ q, x.block < W.heap.size := by obtain ⟨m, hm⟩ := h1; exact DataW.trod_lt m _ _ _ hm
   exact ⟨q ++ p', trodAll_cons_mk (Below.trod hl (ho t List.mem_cons_self).1 (ho t List.mem_cons_self).2 h1 hb hlt) g⟩
omit ok
theorem JjC {n t e p} (hu : τ.und t = some (.slice e)) (h : Ty τ (n + 1) t p) : ∃ nl els, p = .ro e nl false els /\ (nl = true -> els = []) /\ els.length <= maxLen /\ ∀ q ∈ els, Ty τ n e q := by
 simp only [Ty, hu] at h; exact h
theorem Jro {n t k p} (hu : τ.und t = some (.int k)) (h : Ty τ (n + 1) t p) : ∃ x, p = .sc (.int k x) /\ (Lit.int k x).wf = true := by
 simp only [Ty, hu] at h; exact h
theorem JqB {n t fds p} (hu : τ.und t = some (.struct fds)) (h : Ty τ (n + 1) t p) : ∃ fs, p = .st t fs /\ fs.length = fds.size /\ ∀ (i : Nat) (f : Field) (q : PV), fds[i]? = some f -> fs[i]? = some q -> Ty τ n f.type q := by
 simp only [Ty, hu] at h; exact h
theorem Jok {e : TypeId} {k : IntKind} (he : τ.und e = some (.int k)) {n : Nat} : ∀ (l : List PV), (∀ q ∈ l, Ty τ n e q) -> Jl k l = true
 | [], h => rfl
 | p :: ps, h => by
  have h1 := h p List.mem_cons_self
  cases n with
  | zero => exact h1.elim
  | succ n =>
   obtain ⟨x, rfl, _⟩ := Jro he h1
   simp only [Jl, PV.isInt, decide_true, Bool.true_and]
   exact Jok he ps fun q hq => h q (List.mem_cons_of_mem _ hq)
end
end Go.Proofs.Ythpmachmnoljeaa.Rx
end

noncomputable section
namespace Go.Proofs.Ythpmachmnoljeaa.Rx
open Go
set_option linter.unusedVariables false
def Jeg (τ : Tab) (P : Program) (g : FuncId) (xs : List PV) (es : List Ent) (k : Res -> Option Res) (res : Res) : Prop :=
 ∃ r, k r = some res /\
  ∀ im ow w (us : Array Value), JF τ im ow xs us.toList -> Inv τ im ow (JQ es []) w ->
   Calls P g us w fun e w' => ∃ u im' ow', e = .returned u /\ Jf τ im' ow' r.val u /\ Good τ im ow (JQ es []) w im' ow' (JQ r.pars r.news) w'
theorem Jc.mk' {τ : Tab} {P : Program} {g : FuncId} {sg : Sig} (h : ∀ xs es k res, es.length <= 15 -> sg.run xs es k = some res -> Jeg τ P g xs es k res) : Jc τ P g sg := h
theorem J3 {τ : Tab} {P : Program} (ok : TabOk τ P) {F : Fns} (hFn : Jq τ P F) (hmo : P.follows .mixedOrders = true) {g : FuncId} {fn : Func} {c : Code} (hf : P.funcs[g]? = some fn) (hb : fn.body = some c) (an : An) (md : List Md) (m n : Nat)
  (hA : ∀ q ∈ Jg c an, q.Ok τ P m) {xs : List PV} {es : List Ent} {k : Res -> Option Res} {res : Res} (hl : es.length <= 15) (hm : es.length = m) (he : JJ τ F fn c an md n xs es k = some res) : Jeg τ P g xs es k res := by
 have hmb : (es.length == m) = true := by simpa using hm
 exact Jhh ok hFn hmo hf hb an md n m [] (Jk c an hA) xs es k res hl (by simp only [hmb, cond_true]; exact he)
end Go.Proofs.Ythpmachmnoljeaa.Rx
end

noncomputable section
namespace Go.Proofs.Ythpmachmnoljeaa.Rx
open Go
set_option linter.unusedVariables false
set_option maxHeartbeats 1000000
theorem Jeg.weak {τ : Tab} {P : Program} {g : FuncId} {xs : List PV} {es : List Ent} {k : Res -> Option Res} {r r' : Res} {res : Res} (h : Jeg τ P g xs es some r) (hp : r'.pars = r.pars) (hn : r'.news = r.news) (hk : k r' = some res)
  (hw : ∀ im ow u, Jf τ im ow r.val u -> Jf τ im ow r'.val u) : Jeg τ P g xs es k res := by
 obtain ⟨r0, hr0, hc⟩ := h
 obtain rfl := Option.some.inj hr0
 refine ⟨r', hk, fun im ow w us hus hi => (hc im ow w us hus hi).mono fun e w' hR => ?_⟩
 obtain ⟨u, im', ow', he, hv, G⟩ := hR
 exact ⟨u, im', ow', he, hw _ _ _ hv, by rw [hp, hn]; exact G⟩
end Go.Proofs.Ythpmachmnoljeaa.Rx
end

noncomputable section
namespace Go.Proofs.Ythpmachmnoljeaa.Rx
open Go
universe u
noncomputable def hidS {α : Sort u} (a : α) : {x : α // x = a} := Classical.choice ⟨⟨a, rfl⟩⟩
noncomputable def hid {α : Sort u} (a : α) : α := (hidS a).1
theorem hid_eq {α : Sort u} (a : α) : hid a = a := (hidS a).2
theorem JjD {x y : ByteArray} : Yy x y = true ↔ x = y := by
 have hl : ∀ a b : ByteArray, a.toList = b.toList -> a = b := by
  intro a b h
  have e : ∀ c : ByteArray, c.toList = c.data.toList := by
   intro c
   have key : ∀ (n i : Nat) (r : List UInt8), c.size - i = n -> ByteArray.toList.loop c i r = r.reverse ++ c.data.toList.drop i := by
    intro n
    induction n with
    | zero =>
     intro i r h
     rw [ByteArray.toList.loop]
     have : ¬ i < c.size := by omega
     rw [if_neg this, List.drop_eq_nil_iff.2 (by rw [Array.length_toList]; exact (by omega : c.size <= i))]
     simp
    | succ n ih =>
     intro i r h
     rw [ByteArray.toList.loop]
     have hi : i < c.size := by omega
     rw [if_pos hi, ih (i + 1) _ (by omega)]
     have hi' : i < c.data.toList.length := by rw [Array.length_toList]; exact hi
     rw [List.drop_eq_getElem_cons hi']
     have : c.get! i = c.data.toList[i] := by
      show c.data[i]! = _
      rw [Array.getElem!_eq_getD, Array.getD_eq_getD_getElem?, Array.getElem?_eq_getElem (by exact hi)]
      simp
     rw [this]; simp
   have := key _ 0 [] rfl
   rw [ByteArray.toList, this]; simp
  rw [e, e] at h
  cases a; cases b; congr 1
  exact Array.toList_inj.1 h
 rw [Yy, beq_iff_eq]
 exact ⟨hl x y, fun h => by rw [h]⟩
theorem Joo (x y : ByteArray) : Yy x y = decide (x = y) := by
 by_cases h : x = y
 · rw [JjD.2 h]; simp [h]
 · have : ¬ Yy x y = true := fun g => h (JjD.1 g)
   simp [h, Bool.not_eq_true _ ▸ this]
theorem Gj (k : IntKind) (x y : Int) : JM .xor k x y = JM .xor k y x := by simp only [JM]; rw [BitVec.xor_comm]
end Go.Proofs.Ythpmachmnoljeaa.Rx
end

