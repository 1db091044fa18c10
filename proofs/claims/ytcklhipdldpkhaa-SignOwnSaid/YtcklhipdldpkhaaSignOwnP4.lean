/- What the functions of this law compute, and their plain laws. Conditions: none. -/
import Derived.KernelRfl
import Derived.Test.YtcklhipdldpkhaaSignOwnP3
namespace Go.Proofs.Ytcklhipdldpkhaa.Rx
open Go
set_option linter.unusedVariables false
set_option linter.unusedSimpArgs false
set_option maxRecDepth 100000
set_option maxHeartbeats 0


noncomputable def F92 : Fns := F0
def JAe : An := (.seq .leaf (.seq .leaf .leaf))
noncomputable def g92 (f : Nat) (n : Int) (top : Int) (k : Res → Option Res) : Option Res := bif decide (n ≥ 0) then k (Res.mk (.sc (.bool (decide (n ≤ top)))) [] []) else k (Res.mk (.sc (.bool false)) [] [])
theorem e92 (f : Nat) (n : Int) (top : Int) (k : Res → Option Res) : JM tau F92 Try.f92 (Try.f92.body.get!) JAe [.ro] 0 [.sc (.int .i64 n), .sc (.int .i64 top)] [] k = g92 f n top k := by kernel_rfl

-- FN ref16.domain | ref16.Wave | ref16.number | ref8.User
def inZ (x m : Int) : Bool := decide (x ≥ 0) && decide (x ≤ m)

-- FN delta.Check | ref8.Check
noncomputable def Jjn (d : DV) : Int :=
  bif inZ d.ad 2 && (inZ d.au 7 && (inZ d.id 1073741824 && inZ d.ve 1048576)) then
    (bif d.kd == 1 then (bif ckO d.o == 0 then (bif d.wd == 0 && d.wu == 0 then 0 else 1) else ckO d.o)
    else bif d.kd == 2 || d.kd == 3 then (bif d.o.isEmpty && (inZ d.wd 2 && inZ d.wu 7) then 0 else 1)
    else 3)
  else 1
noncomputable def dCk : DV → Int := hid Jjn
theorem Jbr (d : DV) : dCk d = Jjn d := by rw [dCk, hid_eq]
theorem V2 (x m : Int) : inZ x m = (decide (x ≥ 0) && decide (x ≤ m)) := rfl
theorem Jlt (l : List PV) : decide (zi l.length > 0) = !l.isEmpty := by
  cases l with
  | nil => rfl
  | cons p ps => exact decide_eq_true (by simp only [zi, List.length_cons]; omega)
theorem Jn6 (ad au id1 ve : Int) (h : List PV) (kd : Int) (oz of : Bool) (o : List PV) (wd wu : Int) (hc : cOk o = true) (k : Res → Option Res) : Jn5 0 ad au id1 ve h kd oz of o wd wu k = k ⟨.sc (.int .i64 (dCk ⟨ad, au, id1, ve, h, kd, o, wd, wu⟩)), [], []⟩ := by
  rw [Jbr]
  unfold Jn5 Jjn
  simp only [hc, V2, Jlt, cond_true, bne]
  have h2 : (kd == 2) = true → (kd == 1) = false := fun h => by have : kd = 2 := by simpa using h
                                                                rw [this]; decide
  generalize o.isEmpty = e0
  generalize (kd == 1) = d1 at *
  generalize (kd == 2) = d2 at *
  generalize (kd == 3) = d3
  generalize (wd == 0) = w0
  generalize (wu == 0) = w1
  generalize hck : ckO o = ck
  cases decide (ad ≥ 0)
  · rfl
  cases decide (ad ≤ 2)
  · rfl
  cases decide (au ≥ 0)
  · rfl
  cases decide (au ≤ 7)
  · rfl
  cases decide (id1 ≥ 0)
  · rfl
  cases decide (id1 ≤ 1073741824)
  · rfl
  cases decide (ve ≥ 0)
  · rfl
  cases decide (ve ≤ 1048576)
  · rfl
  cases d1
  · cases d2
    · cases d3
      · rfl
      · cases e0 <;> cases decide (wd ≥ 0) <;> cases decide (wd ≤ 2) <;> cases decide (wu ≥ 0) <;> cases decide (wu ≤ 7) <;> rfl
    · cases e0 <;> cases decide (wd ≥ 0) <;> cases decide (wd ≤ 2) <;> cases decide (wu ≥ 0) <;> cases decide (wu ≤ 7) <;> rfl
  · cases ck == 0 <;> cases w0 <;> cases w1 <;> rfl
noncomputable def JdO : List PV → List Ent → (Res → Option Res) → Option Res
  | [.st 73 [.st 45 [.sc (.int .i64 ad), .sc (.int .i64 au)], .sc (.int .i64 id1), .sc (.int .i64 ve), .ar 37 h, .sc (.int .i64 kd), .ro 99 oz of o, .st 45 [.sc (.int .i64 wd), .sc (.int .i64 wu)]]], [], k => bif cOk o then k ⟨.sc (.int .i64 (dCk ⟨ad, au, id1, ve, h, kd, o, wd, wu⟩)), [], []⟩ else none
  | _, _, _ => none
noncomputable def Jqr : Sig := { own := [], run := JdO }
theorem JsO : Jh tau Try.prog 144 Jqr := JxJ.of fun xs es k res hr => by
  change JdO xs es k = some res at hr
  unfold JdO at hr
  split at hr
  · rename_i ad au id1 ve h kd oz of o wd wu
    obtain ⟨hc, hr⟩ := JH hr
    exact (Jn6 ad au id1 ve h kd oz of o wd wu hc k).trans hr
  · cases hr
def JbK : Nat := 62
noncomputable def Jlu : Fns := JG 144 Jqr (JG 143 Jqi (JG 135 Jka (JG 133 Jq1 (JG 132 Jq0 (JG 78 s78 (JG 76 s76 (F0)))))))
theorem JiC : Jx tau Try.prog Jlu := (((((((JE).add JtI JtH).add Jux Juw).add JoO JoN).add JoS JoR).add Jkb JoV).add JsM Jxt).add JsO JxI
noncomputable def Gz : Code := Qs (Try.f103.body.get!) [1, 1, 1, 0, 1, 0, 0]
def WE : Nm := [(2, .any), (4, .any), (5, .any), (21, .any)]
def Xb : Nm := [(2, .any), (4, .any), (5, .any)]
def Jbs : An := (.seq .leaf (.seq (.cond .leaf .leaf) (.seq (.block none (.seq .leaf .leaf)) .leaf)))
def JiD (r0 : QZ) : An := (.seq .leaf (.seq .leaf (.seq .leaf (.seq (.seq .leaf (.block none (.sum WE JbK r0))) (.seq .leaf (.seq .leaf (.seq .leaf (.seq .leaf (.seq (.seq .leaf (.cond .leaf .leaf)) (.seq (.seq .leaf (.cond .leaf .leaf)) (.seq (.seq .leaf (.cond (.seq .leaf .leaf) .leaf)) (.seq .leaf .leaf))))))))))))
noncomputable def Zf (f : Nat) (rc : Int → Int → Int → Int → Int → List PV → Int → List PV → Int → Int → Bool → Bool → List PV → Int → Int → Int → Int → Int → List PV → Int → List PV → Int → Int → Option Res) (k0 : Int → Int → Int → Int → List PV → Int → List PV → Int → Int → Bool → Bool → List PV → Int → Int → Int → Int → Int → List PV → Int → List PV → Int → Int → Option Res) (v0 : Int) (v1 : Int) (v2 : Int) (v3 : Int) (v4 : Int) (v5 : List PV) (v6 : Int) (v7 : List PV) (v8 : Int) (v9 : Int) (v10 : Bool) (v11 : Bool) (v12 : List PV) (v13 : Int) (v14 : Int) (v15 : Int) (v16 : Int) (v17 : Int) (v18 : List PV) (v19 : Int) (v20 : List PV) (v21 : Int) (v22 : Int) : Option Res := bif decide (v0 < 32) then bif (!v10 || v11) && true && byB v12 then bif decide (0 ≤ v0) && decide (v0 < zi 32) && true then rc (IntKind.i64.wrap (v0 + 1)) v1 v2 v3 v4 v5 v6 v7 v8 v9 v10 v11 ((Jb 1 (RS.mk v12 v13)).b) ((Jb 1 (RS.mk v12 v13)).e) v14 v15 v16 v17 (v18.set v0.toNat (.sc (.int .u8 (IntKind.u8.wrap (Jz 1 (RS.mk v12 v13)))))) v19 v20 v21 v22 else none else none else k0 v1 v2 v3 v4 v5 v6 v7 v8 v9 v10 v11 v12 v13 v14 v15 v16 v17 v18 v19 v20 v21 v22
noncomputable def Ye (f : Nat) (k0 : Int → Int → Int → Int → List
  PV → Int → List
  PV → Int → Int → Bool → Bool → List
  PV → Int → Int → Int → Int → Int → List
  PV → Int → List
  PV → Int → Int → Option Res) : Nat → Int → Int → Int → Int → Int → List
  PV → Int → List PV → Int → Int → Bool → Bool → List PV → Int → Int → Int → Int → Int → List PV → Int → List PV → Int → Int → Option Res
  | 0, _, _, _, _, _, _, _, _, _, _, _, _, _, _, _, _, _, _, _, _, _, _, _ => none
  | n + 1, v0, v1, v2, v3, v4, v5, v6, v7, v8, v9, v10, v11, v12, v13, v14, v15, v16, v17, v18, v19, v20, v21, v22 => Zf f (Ye f k0 n) k0 v0 v1 v2 v3 v4 v5 v6 v7 v8 v9 v10 v11 v12 v13 v14 v15 v16 v17 v18 v19 v20 v21 v22
theorem Jlv (f : Nat) (k : Kont) (n : Nat) (v0 : Int) (v1 : Int) (v2 : Int) (v3 : Int) (v4 : Int) (v5 : List PV) (v6 : Int) (v7 : List PV) (v8 : Int) (v9 : Int) (v10 : Bool) (v11 : Bool) (v12 : List PV) (v13 : Int) (v14 : Int) (v15 : Int) (v16 : Int) (v17 : Int) (v18 : List PV) (v19 : Int) (v20 : List PV) (v21 : Int) (v22 : Int) : Jo tau 0 WE (fun s k => ev tau Jlu 0 0 Gz (Jbs ) s k) (n + 1) (Jc WE JbK [.ptr 1008 [], .ptr 1009 [], .ptr 1010 [], .sc (.int .i64 v0)] [(1008, .box false 73 (PV.st 73 [.st 45 [.sc (.int .i64 v1), .sc (.int .i64 v2)], .sc (.int .i64 v3), .sc (.int .i64 v4), .ar 37 v5, .sc (.int .i64 v6), .ro 99 true true v7, .st 45 [.sc (.int .i64 v8), .sc (.int .i64 v9)]])), (1009, .box false 186 (PV.st 186 [.ro 5 v10 v11 v12, .sc (.int .i64 v13)])), (1010, .box false 73 (PV.st 73 [.st 45 [.sc (.int .i64 v14), .sc (.int .i64 v15)], .sc (.int .i64 v16), .sc (.int .i64 v17), .ar 37 v18, .sc (.int .i64 v19), .ro 99 true true v20, .st 45 [.sc (.int .i64 v21), .sc (.int .i64 v22)]]))]) (Jv tau 0 Xb k) = Zf f (fun v0 v1 v2 v3 v4 v5 v6 v7 v8 v9 v10 v11 v12 v13 v14 v15 v16 v17 v18 v19 v20 v21 v22 => Jo tau 0 WE (fun s k => ev tau Jlu 0 0 Gz (Jbs ) s k) n (Jc WE JbK [.ptr 1008 [], .ptr 1009 [], .ptr 1010 [], .sc (.int .i64 v0)] [(1008, .box false 73 (PV.st 73 [.st 45 [.sc (.int .i64 v1), .sc (.int .i64 v2)], .sc (.int .i64 v3), .sc (.int .i64 v4), .ar 37 v5, .sc (.int .i64 v6), .ro 99 true true v7, .st 45 [.sc (.int .i64 v8), .sc (.int .i64 v9)]])), (1009, .box false 186 (PV.st 186 [.ro 5 v10 v11 v12, .sc (.int .i64 v13)])), (1010, .box false 73 (PV.st 73 [.st 45 [.sc (.int .i64 v14), .sc (.int .i64 v15)], .sc (.int .i64 v16), .sc (.int .i64 v17), .ar 37 v18, .sc (.int .i64 v19), .ro 99 true true v20, .st 45 [.sc (.int .i64 v21), .sc (.int .i64 v22)]]))]) (Jv tau 0 Xb k)) (fun x0 x1 x2 x3 x4 x5 x6 x7 x8 x9 x10 x11 x12 x13 x14 x15 x16 x17 x18 x19 x20 x21 => k (Ex.exit 0) (Jc Xb JbK [.ptr 1008 [], .ptr 1009 [], .ptr 1010 []] [(1008, .box false 73 (PV.st 73 [.st 45 [.sc (.int .i64 x0), .sc (.int .i64 x1)], .sc (.int .i64 x2), .sc (.int .i64 x3), .ar 37 x4, .sc (.int .i64 x5), .ro 99 true true x6, .st 45 [.sc (.int .i64 x7), .sc (.int .i64 x8)]])), (1009, .box false 186 (PV.st 186 [.ro 5 x9 x10 x11, .sc (.int .i64 x12)])), (1010, .box false 73 (PV.st 73 [.st 45 [.sc (.int .i64 x13), .sc (.int .i64 x14)], .sc (.int .i64 x15), .sc (.int .i64 x16), .ar 37 x17, .sc (.int .i64 x18), .ro 99 true true x19, .st 45 [.sc (.int .i64 x20), .sc (.int .i64 x21)]]))])) v0 v1 v2 v3 v4 v5 v6 v7 v8 v9 v10 v11 v12 v13 v14 v15 v16 v17 v18 v19 v20 v21 v22 := by kernel_rfl
theorem Jfh (f : Nat) (k : Kont) : ∀ (n : Nat) (v0 : Int) (v1 : Int) (v2 : Int) (v3 : Int) (v4 : Int) (v5 : List PV) (v6 : Int) (v7 : List PV) (v8 : Int) (v9 : Int) (v10 : Bool) (v11 : Bool) (v12 : List PV) (v13 : Int) (v14 : Int) (v15 : Int) (v16 : Int) (v17 : Int) (v18 : List PV) (v19 : Int) (v20 : List PV) (v21 : Int) (v22 : Int), Jo tau 0 WE (fun s k => ev tau Jlu 0 0 Gz (Jbs ) s k) n (Jc WE JbK [.ptr 1008 [], .ptr 1009 [], .ptr 1010 [], .sc (.int .i64 v0)] [(1008, .box false 73 (PV.st 73 [.st 45 [.sc (.int .i64 v1), .sc (.int .i64 v2)], .sc (.int .i64 v3), .sc (.int .i64 v4), .ar 37 v5, .sc (.int .i64 v6), .ro 99 true true v7, .st 45 [.sc (.int .i64 v8), .sc (.int .i64 v9)]])), (1009, .box false 186 (PV.st 186 [.ro 5 v10 v11 v12, .sc (.int .i64 v13)])), (1010, .box false 73 (PV.st 73 [.st 45 [.sc (.int .i64 v14), .sc (.int .i64 v15)], .sc (.int .i64 v16), .sc (.int .i64 v17), .ar 37 v18, .sc (.int .i64 v19), .ro 99 true true v20, .st 45 [.sc (.int .i64 v21), .sc (.int .i64 v22)]]))]) (Jv tau 0 Xb k) = Ye f (fun x0 x1 x2 x3 x4 x5 x6 x7 x8 x9 x10 x11 x12 x13 x14 x15 x16 x17 x18 x19 x20 x21 => k (Ex.exit 0) (Jc Xb JbK [.ptr 1008 [], .ptr 1009 [], .ptr 1010 []] [(1008, .box false 73 (PV.st 73 [.st 45 [.sc (.int .i64 x0), .sc (.int .i64 x1)], .sc (.int .i64 x2), .sc (.int .i64 x3), .ar 37 x4, .sc (.int .i64 x5), .ro 99 true true x6, .st 45 [.sc (.int .i64 x7), .sc (.int .i64 x8)]])), (1009, .box false 186 (PV.st 186 [.ro 5 x9 x10 x11, .sc (.int .i64 x12)])), (1010, .box false 73 (PV.st 73 [.st 45 [.sc (.int .i64 x13), .sc (.int .i64 x14)], .sc (.int .i64 x15), .sc (.int .i64 x16), .ar 37 x17, .sc (.int .i64 x18), .ro 99 true true x19, .st 45 [.sc (.int .i64 x20), .sc (.int .i64 x21)]]))])) n v0 v1 v2 v3 v4 v5 v6 v7 v8 v9 v10 v11 v12 v13 v14 v15 v16 v17 v18 v19 v20 v21 v22 | 0, _, _, _, _, _, _, _, _, _, _, _, _, _, _, _, _, _, _, _, _, _, _, _ => rfl | n + 1, v0, v1, v2, v3, v4, v5, v6, v7, v8, v9, v10, v11, v12, v13, v14, v15, v16, v17, v18, v19, v20, v21, v22 => (Jlv f k n v0 v1 v2 v3 v4 v5 v6 v7 v8 v9 v10 v11 v12 v13 v14 v15 v16 v17 v18 v19 v20 v21 v22).trans (congrArg (fun r => Zf f r (fun x0 x1 x2 x3 x4 x5 x6 x7 x8 x9 x10 x11 x12 x13 x14 x15 x16 x17 x18 x19 x20 x21 => k (Ex.exit 0) (Jc Xb JbK [.ptr 1008 [], .ptr 1009 [], .ptr 1010 []] [(1008, .box false 73 (PV.st 73 [.st 45 [.sc (.int .i64 x0), .sc (.int .i64 x1)], .sc (.int .i64 x2), .sc (.int .i64 x3), .ar 37 x4, .sc (.int .i64 x5), .ro 99 true true x6, .st 45 [.sc (.int .i64 x7), .sc (.int .i64 x8)]])), (1009, .box false 186 (PV.st 186 [.ro 5 x9 x10 x11, .sc (.int .i64 x12)])), (1010, .box false 73 (PV.st 73 [.st 45 [.sc (.int .i64 x13), .sc (.int .i64 x14)], .sc (.int .i64 x15), .sc (.int .i64 x16), .ar 37 x17, .sc (.int .i64 x18), .ro 99 true true x19, .st 45 [.sc (.int .i64 x20), .sc (.int .i64 x21)]]))])) v0 v1 v2 v3 v4 v5 v6 v7 v8 v9 v10 v11 v12 v13 v14 v15 v16 v17 v18 v19 v20 v21 v22) (by funext v0 v1 v2 v3 v4 v5 v6 v7 v8 v9 v10 v11 v12 v13 v14 v15 v16 v17 v18 v19 v20 v21 v22; exact Jfh f k n v0 v1 v2 v3 v4 v5 v6 v7 v8 v9 v10 v11 v12 v13 v14 v15 v16 v17 v18 v19 v20 v21 v22))
noncomputable def Vf (f : Nat) : List PV → List (Nat × Ent) → Kont → Option Res
  | [.ptr 1008 [], .ptr 1009 [], .ptr 1010 [],
  PV.sc
    (Value.int IntKind.i64
      v0)], [(1008,
    Ent.box false 73
      (PV.st 73
        [.st 45 [.sc (.int .i64 v1), .sc (.int .i64 v2)], .sc (.int .i64 v3), .sc (.int .i64 v4), .ar 37 v5,
          .sc (.int .i64 v6), .ro 99 true true v7, .st 45 [.sc (.int .i64 v8), .sc (.int .i64 v9)]])),
  (1009, .box false 186 (PV.st 186 [.ro 5 v10 v11 v12, .sc (.int .i64 v13)])),
  (1010,
    Ent.box false 73
      (PV.st 73
        [.st 45 [.sc (.int .i64 v14), .sc (.int .i64 v15)], .sc (.int .i64 v16), .sc (.int .i64 v17), .ar 37 v18,
          .sc (.int .i64 v19), .ro 99 true true v20,
          PV.st 45
            [.sc (.int .i64 v21),
              PV.sc
                (Value.int IntKind.i64
                  v22)]]))], k => Ye f (fun x0 x1 x2 x3 x4 x5 x6 x7 x8 x9 x10 x11 x12 x13 x14 x15 x16 x17 x18 x19 x20 x21 => k (Ex.exit
  0) (Jc Xb JbK [.ptr 1008 [], .ptr 1009 [],
  PV.ptr 1010
    []] [(1008,
    Ent.box false 73
      (PV.st 73
        [.st 45 [.sc (.int .i64 x0), .sc (.int .i64 x1)], .sc (.int .i64 x2), .sc (.int .i64 x3), .ar 37 x4,
          .sc (.int .i64 x5), .ro 99 true true x6, .st 45 [.sc (.int .i64 x7), .sc (.int .i64 x8)]])),
  (1009, .box false 186 (PV.st 186 [.ro 5 x9 x10 x11, .sc (.int .i64 x12)])),
  (1010,
    Ent.box false 73
      (PV.st 73
        [.st 45 [.sc (.int .i64 x13), .sc (.int .i64 x14)], .sc (.int .i64 x15), .sc (.int .i64 x16), .ar 37 x17,
          .sc (.int .i64 x18), .ro 99 true true x19,
          PV.st 45 [.sc (.int .i64 x20), .sc (.int .i64 x21)]]))])) f v0 v1 v2 v3 v4 v5 v6 v7 v8 v9 v10 v11 v12 v13 v14 v15 v16 v17 v18 v19 v20 v21 v22
  | _, _, _ => none
theorem Jn7 (f : Nat) : Jg Gz Jbs = [] := by kernel_rfl
theorem JsP (f : Nat) : (Item.l Gz WE JbK (Vf f)).Ok tau Try.prog 0 := JJ Jq JiC Jr (x := Jbs) (nm2 := Xb) (Jp _ _ (by rw [Jn7 f]; intro q hq; cases hq)) fun vs hp k res hr => by
  unfold Vf at hr
  split at hr
  · exact ⟨f, 0, (Jfh f _ f _ _ _ _ _ _ _ _ _ _ _ _ _ _ _ _ _ _ _ _ _ _ _ ).trans hr⟩
  · cases hr
noncomputable def JsQ (f : Nat) (b_z : Bool) (b_f : Bool) (b : List PV) (k : Res → Option Res) : Option Res := bif slB b_z b then bif (!b_z || b_z) && true && byB b then bif (!b_z || b_z) && true && byB (Jb 8 (RS.mk b 0)).b then bif (!b_z || b_z) && true && byB (Jb 8 (Jb 8 (RS.mk b 0))).b then bif (!b_z || b_z) && true && byB (Jb 8 (Jb 8 (Jb 8 (RS.mk b 0)))).b then Ye f (fun x0_0 x1_0 x2_0 x3_0 x4_0 x5_0 x6_0 x7_0 x8_0 x9_0 x10_0 x11_0 x12_0 x13_0 x14_0 x15_0 x16_0 x17_0 x18_0 x19_0 x20_0 x21_0 => bif (!x9_0 || x10_0) && true && byB x11_0 then bif (!x9_0 || x10_0) && byB (Jb 1 (RS.mk x11_0 x12_0)).b then bif (!x9_0 || x10_0) && true && byB (J3 (Jb 1 (RS.mk x11_0 x12_0))).b then bif (!x9_0 || x10_0) && true && byB (Jb 8 (J3 (Jb 1 (RS.mk x11_0 x12_0)))).b then bif (Jb 8 (Jb 8 (J3 (Jb 1 (RS.mk x11_0 x12_0))))).e == 0 then bif decide (zi (Jb 8 (Jb 8 (J3 (Jb 1 (RS.mk x11_0 x12_0))))).b.length > 0) then k (Res.mk (.tup [.st 73 [.st 45 [.sc (.int .i64 0), .sc (.int .i64 0)], .sc (.int .i64 0), .sc (.int .i64 0), .ar 37 [.sc (.int .u8 0), .sc (.int .u8 0), .sc (.int .u8 0), .sc (.int .u8 0), .sc (.int .u8 0), .sc (.int .u8 0), .sc (.int .u8 0), .sc (.int .u8 0), .sc (.int .u8 0), .sc (.int .u8 0), .sc (.int .u8 0), .sc (.int .u8 0), .sc (.int .u8 0), .sc (.int .u8 0), .sc (.int .u8 0), .sc (.int .u8 0), .sc (.int .u8 0), .sc (.int .u8 0), .sc (.int .u8 0), .sc (.int .u8 0), .sc (.int .u8 0), .sc (.int .u8 0), .sc (.int .u8 0), .sc (.int .u8 0), .sc (.int .u8 0), .sc (.int .u8 0), .sc (.int .u8 0), .sc (.int .u8 0), .sc (.int .u8 0), .sc (.int .u8 0), .sc (.int .u8 0), .sc (.int .u8 0)], .sc (.int .i64 0), .ro 99 true true [], .st 45 [.sc (.int .i64 0), .sc (.int .i64 0)]], .sc (.int .i64 9)]) [] []) else bif (Jb 8 (Jb 8 (J3 (Jb 1 (RS.mk x11_0 x12_0))))).e == 0 then bif Jj (JP (Jb 1 (RS.mk x11_0 x12_0))).size 1 && true then bif slB (Ent.vec false 5 false (Jm (JP (Jb 1 (RS.mk x11_0 x12_0))))).nil (List.take (JP (Jb 1 (RS.mk x11_0 x12_0))).size (List.drop 0 (Jm (JP (Jb 1 (RS.mk x11_0 x12_0)))))) && byB (List.take (JP (Jb 1 (RS.mk x11_0 x12_0))).size (Jm (JP (Jb 1 (RS.mk x11_0 x12_0))))) then bif opE (List.take (JP (Jb 1 (RS.mk x11_0 x12_0))).size (Jm (JP (Jb 1 (RS.mk x11_0 x12_0))))) == 0 then bif cOk (opL (List.take (JP (Jb 1 (RS.mk x11_0 x12_0))).size (Jm (JP (Jb 1 (RS.mk x11_0 x12_0)))))) then bif dCk (DV.mk x13_0 x14_0 x15_0 x16_0 x17_0 (Jz 1 (RS.mk x11_0 x12_0)) (opL (List.take (JP (Jb 1 (RS.mk x11_0 x12_0))).size (Jm (JP (Jb 1 (RS.mk x11_0 x12_0)))))) (Jz 8 (J3 (Jb 1 (RS.mk x11_0 x12_0)))) (Jz 8 (Jb 8 (J3 (Jb 1 (RS.mk x11_0 x12_0)))))) != 0 then k (Res.mk (.tup [.st 73 [.st 45 [.sc (.int .i64 0), .sc (.int .i64 0)], .sc (.int .i64 0), .sc (.int .i64 0), .ar 37 [.sc (.int .u8 0), .sc (.int .u8 0), .sc (.int .u8 0), .sc (.int .u8 0), .sc (.int .u8 0), .sc (.int .u8 0), .sc (.int .u8 0), .sc (.int .u8 0), .sc (.int .u8 0), .sc (.int .u8 0), .sc (.int .u8 0), .sc (.int .u8 0), .sc (.int .u8 0), .sc (.int .u8 0), .sc (.int .u8 0), .sc (.int .u8 0), .sc (.int .u8 0), .sc (.int .u8 0), .sc (.int .u8 0), .sc (.int .u8 0), .sc (.int .u8 0), .sc (.int .u8 0), .sc (.int .u8 0), .sc (.int .u8 0), .sc (.int .u8 0), .sc (.int .u8 0), .sc (.int .u8 0), .sc (.int .u8 0), .sc (.int .u8 0), .sc (.int .u8 0), .sc (.int .u8 0), .sc (.int .u8 0)], .sc (.int .i64 0), .ro 99 true true [], .st 45 [.sc (.int .i64 0), .sc (.int .i64 0)]], .sc (.int .i64 (dCk (DV.mk x13_0 x14_0 x15_0 x16_0 x17_0 (Jz 1 (RS.mk x11_0 x12_0)) (opL (List.take (JP (Jb 1 (RS.mk x11_0 x12_0))).size (Jm (JP (Jb 1 (RS.mk x11_0 x12_0)))))) (Jz 8 (J3 (Jb 1 (RS.mk x11_0 x12_0)))) (Jz 8 (Jb 8 (J3 (Jb 1 (RS.mk x11_0 x12_0))))))))]) [] []) else k (Res.mk (.tup [.st 73 [.st 45 [.sc (.int .i64 x13_0), .sc (.int .i64 x14_0)], .sc (.int .i64 x15_0), .sc (.int .i64 x16_0), .ar 37 x17_0, .sc (.int .i64 (Jz 1 (RS.mk x11_0 x12_0))), .ro 99 (opL (List.take (JP (Jb 1 (RS.mk x11_0 x12_0))).size (Jm (JP (Jb 1 (RS.mk x11_0 x12_0)))))).isEmpty (opL (List.take (JP (Jb 1 (RS.mk x11_0 x12_0))).size (Jm (JP (Jb 1 (RS.mk x11_0 x12_0)))))).isEmpty (opL (List.take (JP (Jb 1 (RS.mk x11_0 x12_0))).size (Jm (JP (Jb 1 (RS.mk x11_0 x12_0)))))), .st 45 [.sc (.int .i64 (Jz 8 (J3 (Jb 1 (RS.mk x11_0 x12_0))))), .sc (.int .i64 (Jz 8 (Jb 8 (J3 (Jb 1 (RS.mk x11_0 x12_0))))))]], .sc (.int .i64 0)]) [] []) else none else bif opE (List.take (JP (Jb 1 (RS.mk x11_0 x12_0))).size (Jm (JP (Jb 1 (RS.mk x11_0 x12_0))))) != 0 then k (Res.mk (.tup [.st 73 [.st 45 [.sc (.int .i64 0), .sc (.int .i64 0)], .sc (.int .i64 0), .sc (.int .i64 0), .ar 37 [.sc (.int .u8 0), .sc (.int .u8 0), .sc (.int .u8 0), .sc (.int .u8 0), .sc (.int .u8 0), .sc (.int .u8 0), .sc (.int .u8 0), .sc (.int .u8 0), .sc (.int .u8 0), .sc (.int .u8 0), .sc (.int .u8 0), .sc (.int .u8 0), .sc (.int .u8 0), .sc (.int .u8 0), .sc (.int .u8 0), .sc (.int .u8 0), .sc (.int .u8 0), .sc (.int .u8 0), .sc (.int .u8 0), .sc (.int .u8 0), .sc (.int .u8 0), .sc (.int .u8 0), .sc (.int .u8 0), .sc (.int .u8 0), .sc (.int .u8 0), .sc (.int .u8 0), .sc (.int .u8 0), .sc (.int .u8 0), .sc (.int .u8 0), .sc (.int .u8 0), .sc (.int .u8 0), .sc (.int .u8 0)], .sc (.int .i64 0), .ro 99 true true [], .st 45 [.sc (.int .i64 0), .sc (.int .i64 0)]], .sc (.int .i64 (opE (List.take (JP (Jb 1 (RS.mk x11_0 x12_0))).size (Jm (JP (Jb 1 (RS.mk x11_0 x12_0)))))))]) [] []) else k (Res.mk (.tup [.st 73 [.st 45 [.sc (.int .i64 x13_0), .sc (.int .i64 x14_0)], .sc (.int .i64 x15_0), .sc (.int .i64 x16_0), .ar 37 x17_0, .sc (.int .i64 (Jz 1 (RS.mk x11_0 x12_0))), .ro 99 (opL (List.take (JP (Jb 1 (RS.mk x11_0 x12_0))).size (Jm (JP (Jb 1 (RS.mk x11_0 x12_0)))))).isEmpty (opL (List.take (JP (Jb 1 (RS.mk x11_0 x12_0))).size (Jm (JP (Jb 1 (RS.mk x11_0 x12_0)))))).isEmpty (opL (List.take (JP (Jb 1 (RS.mk x11_0 x12_0))).size (Jm (JP (Jb 1 (RS.mk x11_0 x12_0)))))), .st 45 [.sc (.int .i64 (Jz 8 (J3 (Jb 1 (RS.mk x11_0 x12_0))))), .sc (.int .i64 (Jz 8 (Jb 8 (J3 (Jb 1 (RS.mk x11_0 x12_0))))))]], .sc (.int .i64 0)]) [] []) else none else none else bif (Jb 8 (Jb 8 (J3 (Jb 1 (RS.mk x11_0 x12_0))))).e == 0 then bif cOk x19_0 then bif dCk (DV.mk x13_0 x14_0 x15_0 x16_0 x17_0 (Jz 1 (RS.mk x11_0 x12_0)) x19_0 (Jz 8 (J3 (Jb 1 (RS.mk x11_0 x12_0)))) (Jz 8 (Jb 8 (J3 (Jb 1 (RS.mk x11_0 x12_0)))))) != 0 then k (Res.mk (.tup [.st 73 [.st 45 [.sc (.int .i64 0), .sc (.int .i64 0)], .sc (.int .i64 0), .sc (.int .i64 0), .ar 37 [.sc (.int .u8 0), .sc (.int .u8 0), .sc (.int .u8 0), .sc (.int .u8 0), .sc (.int .u8 0), .sc (.int .u8 0), .sc (.int .u8 0), .sc (.int .u8 0), .sc (.int .u8 0), .sc (.int .u8 0), .sc (.int .u8 0), .sc (.int .u8 0), .sc (.int .u8 0), .sc (.int .u8 0), .sc (.int .u8 0), .sc (.int .u8 0), .sc (.int .u8 0), .sc (.int .u8 0), .sc (.int .u8 0), .sc (.int .u8 0), .sc (.int .u8 0), .sc (.int .u8 0), .sc (.int .u8 0), .sc (.int .u8 0), .sc (.int .u8 0), .sc (.int .u8 0), .sc (.int .u8 0), .sc (.int .u8 0), .sc (.int .u8 0), .sc (.int .u8 0), .sc (.int .u8 0), .sc (.int .u8 0)], .sc (.int .i64 0), .ro 99 true true [], .st 45 [.sc (.int .i64 0), .sc (.int .i64 0)]], .sc (.int .i64 (dCk (DV.mk x13_0 x14_0 x15_0 x16_0 x17_0 (Jz 1 (RS.mk x11_0 x12_0)) x19_0 (Jz 8 (J3 (Jb 1 (RS.mk x11_0 x12_0)))) (Jz 8 (Jb 8 (J3 (Jb 1 (RS.mk x11_0 x12_0))))))))]) [] []) else k (Res.mk (.tup [.st 73 [.st 45 [.sc (.int .i64 x13_0), .sc (.int .i64 x14_0)], .sc (.int .i64 x15_0), .sc (.int .i64 x16_0), .ar 37 x17_0, .sc (.int .i64 (Jz 1 (RS.mk x11_0 x12_0))), .ro 99 true true x19_0, .st 45 [.sc (.int .i64 (Jz 8 (J3 (Jb 1 (RS.mk x11_0 x12_0))))), .sc (.int .i64 (Jz 8 (Jb 8 (J3 (Jb 1 (RS.mk x11_0 x12_0))))))]], .sc (.int .i64 0)]) [] []) else none else bif (Jb 8 (Jb 8 (J3 (Jb 1 (RS.mk x11_0 x12_0))))).e != 0 then k (Res.mk (.tup [.st 73 [.st 45 [.sc (.int .i64 0), .sc (.int .i64 0)], .sc (.int .i64 0), .sc (.int .i64 0), .ar 37 [.sc (.int .u8 0), .sc (.int .u8 0), .sc (.int .u8 0), .sc (.int .u8 0), .sc (.int .u8 0), .sc (.int .u8 0), .sc (.int .u8 0), .sc (.int .u8 0), .sc (.int .u8 0), .sc (.int .u8 0), .sc (.int .u8 0), .sc (.int .u8 0), .sc (.int .u8 0), .sc (.int .u8 0), .sc (.int .u8 0), .sc (.int .u8 0), .sc (.int .u8 0), .sc (.int .u8 0), .sc (.int .u8 0), .sc (.int .u8 0), .sc (.int .u8 0), .sc (.int .u8 0), .sc (.int .u8 0), .sc (.int .u8 0), .sc (.int .u8 0), .sc (.int .u8 0), .sc (.int .u8 0), .sc (.int .u8 0), .sc (.int .u8 0), .sc (.int .u8 0), .sc (.int .u8 0), .sc (.int .u8 0)], .sc (.int .i64 0), .ro 99 true true [], .st 45 [.sc (.int .i64 0), .sc (.int .i64 0)]], .sc (.int .i64 (Jb 8 (Jb 8 (J3 (Jb 1 (RS.mk x11_0 x12_0))))).e)]) [] []) else k (Res.mk (.tup [.st 73 [.st 45 [.sc (.int .i64 x13_0), .sc (.int .i64 x14_0)], .sc (.int .i64 x15_0), .sc (.int .i64 x16_0), .ar 37 x17_0, .sc (.int .i64 (Jz 1 (RS.mk x11_0 x12_0))), .ro 99 true true x19_0, .st 45 [.sc (.int .i64 (Jz 8 (J3 (Jb 1 (RS.mk x11_0 x12_0))))), .sc (.int .i64 (Jz 8 (Jb 8 (J3 (Jb 1 (RS.mk x11_0 x12_0))))))]], .sc (.int .i64 0)]) [] []) else bif (Jb 8 (Jb 8 (J3 (Jb 1 (RS.mk x11_0 x12_0))))).e == 0 then bif Jj (JP (Jb 1 (RS.mk x11_0 x12_0))).size 1 && true then bif slB (Ent.vec false 5 false (Jm (JP (Jb 1 (RS.mk x11_0 x12_0))))).nil (List.take (JP (Jb 1 (RS.mk x11_0 x12_0))).size (List.drop 0 (Jm (JP (Jb 1 (RS.mk x11_0 x12_0)))))) && byB (List.take (JP (Jb 1 (RS.mk x11_0 x12_0))).size (Jm (JP (Jb 1 (RS.mk x11_0 x12_0))))) then bif opE (List.take (JP (Jb 1 (RS.mk x11_0 x12_0))).size (Jm (JP (Jb 1 (RS.mk x11_0 x12_0))))) == 0 then bif cOk (opL (List.take (JP (Jb 1 (RS.mk x11_0 x12_0))).size (Jm (JP (Jb 1 (RS.mk x11_0 x12_0)))))) then bif dCk (DV.mk x13_0 x14_0 x15_0 x16_0 x17_0 (Jz 1 (RS.mk x11_0 x12_0)) (opL (List.take (JP (Jb 1 (RS.mk x11_0 x12_0))).size (Jm (JP (Jb 1 (RS.mk x11_0 x12_0)))))) (Jz 8 (J3 (Jb 1 (RS.mk x11_0 x12_0)))) (Jz 8 (Jb 8 (J3 (Jb 1 (RS.mk x11_0 x12_0)))))) != 0 then k (Res.mk (.tup [.st 73 [.st 45 [.sc (.int .i64 0), .sc (.int .i64 0)], .sc (.int .i64 0), .sc (.int .i64 0), .ar 37 [.sc (.int .u8 0), .sc (.int .u8 0), .sc (.int .u8 0), .sc (.int .u8 0), .sc (.int .u8 0), .sc (.int .u8 0), .sc (.int .u8 0), .sc (.int .u8 0), .sc (.int .u8 0), .sc (.int .u8 0), .sc (.int .u8 0), .sc (.int .u8 0), .sc (.int .u8 0), .sc (.int .u8 0), .sc (.int .u8 0), .sc (.int .u8 0), .sc (.int .u8 0), .sc (.int .u8 0), .sc (.int .u8 0), .sc (.int .u8 0), .sc (.int .u8 0), .sc (.int .u8 0), .sc (.int .u8 0), .sc (.int .u8 0), .sc (.int .u8 0), .sc (.int .u8 0), .sc (.int .u8 0), .sc (.int .u8 0), .sc (.int .u8 0), .sc (.int .u8 0), .sc (.int .u8 0), .sc (.int .u8 0)], .sc (.int .i64 0), .ro 99 true true [], .st 45 [.sc (.int .i64 0), .sc (.int .i64 0)]], .sc (.int .i64 (dCk (DV.mk x13_0 x14_0 x15_0 x16_0 x17_0 (Jz 1 (RS.mk x11_0 x12_0)) (opL (List.take (JP (Jb 1 (RS.mk x11_0 x12_0))).size (Jm (JP (Jb 1 (RS.mk x11_0 x12_0)))))) (Jz 8 (J3 (Jb 1 (RS.mk x11_0 x12_0)))) (Jz 8 (Jb 8 (J3 (Jb 1 (RS.mk x11_0 x12_0))))))))]) [] []) else k (Res.mk (.tup [.st 73 [.st 45 [.sc (.int .i64 x13_0), .sc (.int .i64 x14_0)], .sc (.int .i64 x15_0), .sc (.int .i64 x16_0), .ar 37 x17_0, .sc (.int .i64 (Jz 1 (RS.mk x11_0 x12_0))), .ro 99 (opL (List.take (JP (Jb 1 (RS.mk x11_0 x12_0))).size (Jm (JP (Jb 1 (RS.mk x11_0 x12_0)))))).isEmpty (opL (List.take (JP (Jb 1 (RS.mk x11_0 x12_0))).size (Jm (JP (Jb 1 (RS.mk x11_0 x12_0)))))).isEmpty (opL (List.take (JP (Jb 1 (RS.mk x11_0 x12_0))).size (Jm (JP (Jb 1 (RS.mk x11_0 x12_0)))))), .st 45 [.sc (.int .i64 (Jz 8 (J3 (Jb 1 (RS.mk x11_0 x12_0))))), .sc (.int .i64 (Jz 8 (Jb 8 (J3 (Jb 1 (RS.mk x11_0 x12_0))))))]], .sc (.int .i64 0)]) [] []) else none else bif opE (List.take (JP (Jb 1 (RS.mk x11_0 x12_0))).size (Jm (JP (Jb 1 (RS.mk x11_0 x12_0))))) != 0 then k (Res.mk (.tup [.st 73 [.st 45 [.sc (.int .i64 0), .sc (.int .i64 0)], .sc (.int .i64 0), .sc (.int .i64 0), .ar 37 [.sc (.int .u8 0), .sc (.int .u8 0), .sc (.int .u8 0), .sc (.int .u8 0), .sc (.int .u8 0), .sc (.int .u8 0), .sc (.int .u8 0), .sc (.int .u8 0), .sc (.int .u8 0), .sc (.int .u8 0), .sc (.int .u8 0), .sc (.int .u8 0), .sc (.int .u8 0), .sc (.int .u8 0), .sc (.int .u8 0), .sc (.int .u8 0), .sc (.int .u8 0), .sc (.int .u8 0), .sc (.int .u8 0), .sc (.int .u8 0), .sc (.int .u8 0), .sc (.int .u8 0), .sc (.int .u8 0), .sc (.int .u8 0), .sc (.int .u8 0), .sc (.int .u8 0), .sc (.int .u8 0), .sc (.int .u8 0), .sc (.int .u8 0), .sc (.int .u8 0), .sc (.int .u8 0), .sc (.int .u8 0)], .sc (.int .i64 0), .ro 99 true true [], .st 45 [.sc (.int .i64 0), .sc (.int .i64 0)]], .sc (.int .i64 (opE (List.take (JP (Jb 1 (RS.mk x11_0 x12_0))).size (Jm (JP (Jb 1 (RS.mk x11_0 x12_0)))))))]) [] []) else k (Res.mk (.tup [.st 73 [.st 45 [.sc (.int .i64 x13_0), .sc (.int .i64 x14_0)], .sc (.int .i64 x15_0), .sc (.int .i64 x16_0), .ar 37 x17_0, .sc (.int .i64 (Jz 1 (RS.mk x11_0 x12_0))), .ro 99 (opL (List.take (JP (Jb 1 (RS.mk x11_0 x12_0))).size (Jm (JP (Jb 1 (RS.mk x11_0 x12_0)))))).isEmpty (opL (List.take (JP (Jb 1 (RS.mk x11_0 x12_0))).size (Jm (JP (Jb 1 (RS.mk x11_0 x12_0)))))).isEmpty (opL (List.take (JP (Jb 1 (RS.mk x11_0 x12_0))).size (Jm (JP (Jb 1 (RS.mk x11_0 x12_0)))))), .st 45 [.sc (.int .i64 (Jz 8 (J3 (Jb 1 (RS.mk x11_0 x12_0))))), .sc (.int .i64 (Jz 8 (Jb 8 (J3 (Jb 1 (RS.mk x11_0 x12_0))))))]], .sc (.int .i64 0)]) [] []) else none else none else bif (Jb 8 (Jb 8 (J3 (Jb 1 (RS.mk x11_0 x12_0))))).e == 0 then bif cOk x19_0 then bif dCk (DV.mk x13_0 x14_0 x15_0 x16_0 x17_0 (Jz 1 (RS.mk x11_0 x12_0)) x19_0 (Jz 8 (J3 (Jb 1 (RS.mk x11_0 x12_0)))) (Jz 8 (Jb 8 (J3 (Jb 1 (RS.mk x11_0 x12_0)))))) != 0 then k (Res.mk (.tup [.st 73 [.st 45 [.sc (.int .i64 0), .sc (.int .i64 0)], .sc (.int .i64 0), .sc (.int .i64 0), .ar 37 [.sc (.int .u8 0), .sc (.int .u8 0), .sc (.int .u8 0), .sc (.int .u8 0), .sc (.int .u8 0), .sc (.int .u8 0), .sc (.int .u8 0), .sc (.int .u8 0), .sc (.int .u8 0), .sc (.int .u8 0), .sc (.int .u8 0), .sc (.int .u8 0), .sc (.int .u8 0), .sc (.int .u8 0), .sc (.int .u8 0), .sc (.int .u8 0), .sc (.int .u8 0), .sc (.int .u8 0), .sc (.int .u8 0), .sc (.int .u8 0), .sc (.int .u8 0), .sc (.int .u8 0), .sc (.int .u8 0), .sc (.int .u8 0), .sc (.int .u8 0), .sc (.int .u8 0), .sc (.int .u8 0), .sc (.int .u8 0), .sc (.int .u8 0), .sc (.int .u8 0), .sc (.int .u8 0), .sc (.int .u8 0)], .sc (.int .i64 0), .ro 99 true true [], .st 45 [.sc (.int .i64 0), .sc (.int .i64 0)]], .sc (.int .i64 (dCk (DV.mk x13_0 x14_0 x15_0 x16_0 x17_0 (Jz 1 (RS.mk x11_0 x12_0)) x19_0 (Jz 8 (J3 (Jb 1 (RS.mk x11_0 x12_0)))) (Jz 8 (Jb 8 (J3 (Jb 1 (RS.mk x11_0 x12_0))))))))]) [] []) else k (Res.mk (.tup [.st 73 [.st 45 [.sc (.int .i64 x13_0), .sc (.int .i64 x14_0)], .sc (.int .i64 x15_0), .sc (.int .i64 x16_0), .ar 37 x17_0, .sc (.int .i64 (Jz 1 (RS.mk x11_0 x12_0))), .ro 99 true true x19_0, .st 45 [.sc (.int .i64 (Jz 8 (J3 (Jb 1 (RS.mk x11_0 x12_0))))), .sc (.int .i64 (Jz 8 (Jb 8 (J3 (Jb 1 (RS.mk x11_0 x12_0))))))]], .sc (.int .i64 0)]) [] []) else none else bif (Jb 8 (Jb 8 (J3 (Jb 1 (RS.mk x11_0 x12_0))))).e != 0 then k (Res.mk (.tup [.st 73 [.st 45 [.sc (.int .i64 0), .sc (.int .i64 0)], .sc (.int .i64 0), .sc (.int .i64 0), .ar 37 [.sc (.int .u8 0), .sc (.int .u8 0), .sc (.int .u8 0), .sc (.int .u8 0), .sc (.int .u8 0), .sc (.int .u8 0), .sc (.int .u8 0), .sc (.int .u8 0), .sc (.int .u8 0), .sc (.int .u8 0), .sc (.int .u8 0), .sc (.int .u8 0), .sc (.int .u8 0), .sc (.int .u8 0), .sc (.int .u8 0), .sc (.int .u8 0), .sc (.int .u8 0), .sc (.int .u8 0), .sc (.int .u8 0), .sc (.int .u8 0), .sc (.int .u8 0), .sc (.int .u8 0), .sc (.int .u8 0), .sc (.int .u8 0), .sc (.int .u8 0), .sc (.int .u8 0), .sc (.int .u8 0), .sc (.int .u8 0), .sc (.int .u8 0), .sc (.int .u8 0), .sc (.int .u8 0), .sc (.int .u8 0)], .sc (.int .i64 0), .ro 99 true true [], .st 45 [.sc (.int .i64 0), .sc (.int .i64 0)]], .sc (.int .i64 (Jb 8 (Jb 8 (J3 (Jb 1 (RS.mk x11_0 x12_0))))).e)]) [] []) else k (Res.mk (.tup [.st 73 [.st 45 [.sc (.int .i64 x13_0), .sc (.int .i64 x14_0)], .sc (.int .i64 x15_0), .sc (.int .i64 x16_0), .ar 37 x17_0, .sc (.int .i64 (Jz 1 (RS.mk x11_0 x12_0))), .ro 99 true true x19_0, .st 45 [.sc (.int .i64 (Jz 8 (J3 (Jb 1 (RS.mk x11_0 x12_0))))), .sc (.int .i64 (Jz 8 (Jb 8 (J3 (Jb 1 (RS.mk x11_0 x12_0))))))]], .sc (.int .i64 0)]) [] []) else none else none else none else none) f (0) (0) (0) (0) (0) ([.sc (.int .u8 0), .sc (.int .u8 0), .sc (.int .u8 0), .sc (.int .u8 0), .sc (.int .u8 0), .sc (.int .u8 0), .sc (.int .u8 0), .sc (.int .u8 0), .sc (.int .u8 0), .sc (.int .u8 0), .sc (.int .u8 0), .sc (.int .u8 0), .sc (.int .u8 0), .sc (.int .u8 0), .sc (.int .u8 0), .sc (.int .u8 0), .sc (.int .u8 0), .sc (.int .u8 0), .sc (.int .u8 0), .sc (.int .u8 0), .sc (.int .u8 0), .sc (.int .u8 0), .sc (.int .u8 0), .sc (.int .u8 0), .sc (.int .u8 0), .sc (.int .u8 0), .sc (.int .u8 0), .sc (.int .u8 0), .sc (.int .u8 0), .sc (.int .u8 0), .sc (.int .u8 0), .sc (.int .u8 0)]) (0) ([]) (0) (0) b_z b_z ((Jb 8 (Jb 8 (Jb 8 (Jb 8 (RS.mk b 0))))).b) ((Jb 8 (Jb 8 (Jb 8 (Jb 8 (RS.mk b 0))))).e) (Jz 8 (RS.mk b 0)) (Jz 8 (Jb 8 (RS.mk b 0))) (Jz 8 (Jb 8 (Jb 8 (RS.mk b 0)))) (Jz 8 (Jb 8 (Jb 8 (Jb 8 (RS.mk b 0))))) ([.sc (.int .u8 0), .sc (.int .u8 0), .sc (.int .u8 0), .sc (.int .u8 0), .sc (.int .u8 0), .sc (.int .u8 0), .sc (.int .u8 0), .sc (.int .u8 0), .sc (.int .u8 0), .sc (.int .u8 0), .sc (.int .u8 0), .sc (.int .u8 0), .sc (.int .u8 0), .sc (.int .u8 0), .sc (.int .u8 0), .sc (.int .u8 0), .sc (.int .u8 0), .sc (.int .u8 0), .sc (.int .u8 0), .sc (.int .u8 0), .sc (.int .u8 0), .sc (.int .u8 0), .sc (.int .u8 0), .sc (.int .u8 0), .sc (.int .u8 0), .sc (.int .u8 0), .sc (.int .u8 0), .sc (.int .u8 0), .sc (.int .u8 0), .sc (.int .u8 0), .sc (.int .u8 0), .sc (.int .u8 0)]) (0) ([]) (0) (0) else none else none else none else none else none
theorem JAf (f : Nat) (b_z : Bool) (b_f : Bool) (b : List PV) (k : Res → Option Res) : JM tau Jlu Try.f103 (Try.f103.body.get!) (JiD (Vf f)) [.ro, .ro] 0 [.ro 5 b_z b_f b] [] k = JsQ f b_z b_f b k := by kernel_rfl
theorem JxK (f : Nat) : Jg (Try.f103.body.get!) (JiD (Vf f)) = [.l Gz WE JbK (Vf f)] := by kernel_rfl
theorem JxL (f : Nat) : ∀ q ∈ Jg (Try.f103.body.get!) (JiD (Vf f)), q.Ok tau Try.prog 0 := by
  rw [JxK f]; simp only [List.forall_mem_cons, List.not_mem_nil, false_implies, implies_true, and_true]; exact JsP f
theorem Jqs : Try.prog.funcs[103]? = some Try.f103 := by kernel_rfl
theorem Jqt : Try.f103.body = some (Try.f103.body.get!) := by kernel_rfl
theorem JxM : Enters Try.prog 103 := enters_of Jqs (by kernel_rfl) Jqt


-- FN delta.Parse | ref8.Parse
theorem JsR (t : ByteArray) : byB (Jm t) = true := by
  unfold byB Jm
  refine List.all_eq_true.2 fun p hp => ?_
  obtain ⟨x, hx, rfl⟩ := List.mem_map.1 hp
  have := x.toNat_lt
  rw [Bool.and_eq_true, Bool.and_eq_true]
  refine ⟨rfl, decide_eq_true ?_, decide_eq_true ?_⟩
  · exact Int.natCast_nonneg _
  · exact Int.ofNat_lt.2 this
noncomputable def d4 (b : List PV) : RS := Jb 8 (Jb 8 (Jb 8 (Jb 8 ⟨b, 0⟩)))
noncomputable def d5 (b : List PV) : RS := hashS (d4 b)
noncomputable def d7 (b : List PV) : RS := J3 (Jb 1 (d5 b))
noncomputable def d9 (b : List PV) : RS := Jb 8 (Jb 8 (d7 b))
noncomputable def dt (b : List PV) : List PV := Jm (JP (Jb 1 (d5 b)))
noncomputable def dv (b : List PV) : DV := ⟨Jz 8 ⟨b, 0⟩, Jz 8 (Jb 8 ⟨b, 0⟩), Jz 8 (Jb 8 (Jb 8 ⟨b, 0⟩)), Jz 8 (Jb 8 (Jb 8 (Jb 8 ⟨b, 0⟩))), pu .u8 (hashV (d4 b)), Jz 1 (d5 b), opL (dt b), Jz 8 (d7 b), Jz 8 (Jb 8 (d7 b))⟩
noncomputable def dE0 (b : List PV) : Int := bif (d9 b).e == 0 then (bif decide ((d9 b).b.length > 0) then 9 else bif opE (dt b) == 0 then dCk (dv b) else opE (dt b)) else (d9 b).e
noncomputable def dE : List PV → Int := hid dE0
noncomputable def dN (b : List PV) : Nat → Int
  | 0 => (dv b).ad
  | 1 => (dv b).au
  | 2 => (dv b).id
  | 3 => (dv b).ve
  | 4 => (dv b).kd
  | 5 => (dv b).wd
  | _ => (dv b).wu
noncomputable def dF : Nat → List PV → Int := hid fun i b => bif dE0 b == 0 then dN b i else 0
noncomputable def dH : List PV → List Int := hid fun b => bif dE0 b == 0 then hashV (d4 b) else List.replicate 32 0
noncomputable def dO : List PV → List PV := hid fun b => bif dE0 b == 0 then opL (dt b) else []
theorem Jfi (b : List PV) : dE b = dE0 b := by rw [dE, hid_eq]
theorem JiE (i : Nat) (b : List PV) : dF i b = bif dE0 b == 0 then dN b i else 0 := by rw [dF, hid_eq]
theorem Jlw (b : List PV) : dH b = bif dE0 b == 0 then hashV (d4 b) else List.replicate 32 0 := by rw [dH, hid_eq]
theorem Jlx (b : List PV) : dO b = bif dE0 b == 0 then opL (dt b) else [] := by rw [dO, hid_eq]
def JiF (e : Int) : PV := .tup [.st 73 [.st 45 [.sc (.int .i64 0), .sc (.int .i64 0)], .sc (.int .i64 0), .sc (.int .i64 0), .ar 37 (pu .u8 (List.replicate 32 0)), .sc (.int .i64 0), .ro 99 true true [], .st 45 [.sc (.int .i64 0), .sc (.int .i64 0)]], .sc (.int .i64 e)]
noncomputable def dP (b : List PV) : PV := .tup [.st 73 [.st 45 [.sc (.int .i64 (dF 0 b)), .sc (.int .i64 (dF 1 b))], .sc (.int .i64 (dF 2 b)), .sc (.int .i64 (dF 3 b)), .ar 37 (pu .u8 (dH b)), .sc (.int .i64 (dF 4 b)), .ro 99 (dO b).isEmpty (dO b).isEmpty (dO b), .st 45 [.sc (.int .i64 (dF 5 b)), .sc (.int .i64 (dF 6 b))]], .sc (.int .i64 (dE b))]
theorem JdP {b : List PV} {e : Int} (h : dE0 b = e) (h0 : (e == 0) = false) : dP b = JiF e := by
  simp only [dP, JiF, JiE, Jlw, Jlx, Jfi, h, h0, cond_false, List.isEmpty_nil]
theorem JxN {b : List PV} (h : dE0 b = 0) : dP b = .tup [.st 73 [.st 45 [.sc (.int .i64 (Jz 8 ⟨b, 0⟩)), .sc (.int .i64 (Jz 8 (Jb 8 ⟨b, 0⟩)))], .sc (.int .i64 (Jz 8 (Jb 8 (Jb 8 ⟨b, 0⟩)))), .sc (.int .i64 (Jz 8 (Jb 8 (Jb 8 (Jb 8 ⟨b, 0⟩))))), .ar 37 (pu .u8 (hashV (d4 b))), .sc (.int .i64 (Jz 1 (d5 b))), .ro 99 (opL (dt b)).isEmpty (opL (dt b)).isEmpty (opL (dt b)), .st 45 [.sc (.int .i64 (Jz 8 (d7 b))), .sc (.int .i64 (Jz 8 (Jb 8 (d7 b))))]], .sc (.int .i64 0)] := by
  simp only [dP, JiE, Jlw, Jlx, Jfi, h, beq_self_eq_true, cond_true, dN, dv]
theorem Jn8 {b : List PV} (h : byB b = true) : cOk (opL b) = true := by
  rw [JdL]
  cases V1 b == 0 with
  | true => exact Jiy (Jlr h) _
  | false => exact VY.2 ⟨rfl, Nat.zero_le _⟩
theorem Jly (f : Nat) (k0 : Int → Int → Int → Int → List PV → Int → List PV → Int → Int → Bool → Bool → List PV → Int → Int → Int → Int → Int → List PV → Int → List PV → Int → Int → Option Res) (z fl : Bool) (hz : (!z || fl) = true) (x1 x2 x3 x4 : Int) (x5 : List PV) (x6 : Int) (x7 : List PV) (x8 x9 y14 y15 y16 y17 y19 : Int) (y20 : List PV) (y21 y22 : Int) : ∀ (d i n : Nat) (s : RS) (L : List Int), i + d = 32 → d < n → byB s.b = true → L.length = 32 →
    Ye f k0 n (i : Int) x1 x2 x3 x4 x5 x6 x7 x8 x9 z fl s.b s.e y14 y15 y16 y17 (pu .u8 L) y19 y20 y21 y22 = k0 x1 x2 x3 x4 x5 x6 x7 x8 x9 z fl (Gq d s).b (Gq d s).e y14 y15 y16 y17 (pu .u8 (L.take i ++ Gr d s)) y19 y20 y21 y22
  | 0, i, n + 1, s, L, h, hn, hb, hL => by
      obtain rfl : i = 32 := by omega
      simp only [Ye, Zf, Gq, Gr, List.append_nil]
      rw [List.take_of_length_le (by omega)]
      exact JA (by decide)
  | d + 1, i, n + 1, s, L, h, hn, hb, hL => by
      have g1 : ((i : Int)).toNat = i := by omega
      have w1 : IntKind.i64.wrap ((i : Int) + 1) = ((i + 1 : Nat) : Int) := by rw [wrap_i64 (by omega) (by omega)]; omega
      have hm : RS.mk s.b s.e = s := rfl
      simp only [Ye, Zf, g1, w1, hm, Wk]
      refine (Ja (by simp; omega)).trans ((Ja (by rw [hb, hz]; rfl)).trans ((Ja (by simp [zi]; omega)).trans ?_))
      have := Jly f k0 z fl hz x1 x2 x3 x4 x5 x6 x7 x8 x9 y14 y15 y16 y17 y19 y20 y21 y22 d (i + 1) n (Qc 1 s) (L.set i (IntKind.u8.wrap (Jz 1 s))) (by omega) (by omega) (Xs hb 1) (by simpa using hL)
      rw [WO]
      refine Eq.trans this ?_
      have hset : (L.set i (IntKind.u8.wrap (Jz 1 s))).take (i + 1) = L.take i ++ [IntKind.u8.wrap (Jz 1 s)] := by
        rw [List.take_add_one, List.take_set_of_le (Nat.le_refl i), List.getElem?_set_self (by omega)]; rfl
      rw [hset, WX]
      simp only [Gq, Gr, List.append_assoc, List.cons_append, List.nil_append]
theorem Jn9 (z f : Bool) (b : List PV) (hz : slB z b = true) (hb : byB b = true) (k : Res → Option Res) :
    JsQ 40 z f b k = k ⟨dP b, [], []⟩ := by
  have hE : dE0 b = dE0 b := rfl
  conv at hE => rhs; unfold dE0
  have hzz : (!z || z) = true := by cases z <;> rfl
  have c1 := Qp (s := ⟨b, 0⟩) hb 8
  have c2 := Qp c1 8
  have c3 := Qp c2 8
  have c4 : byB (d4 b).b = true := Qp c3 8
  have c5 : byB (d5 b).b = true := by unfold d5; rw [hashS_eq]; exact JhK 32 c4
  have c6 := Qp c5 1
  have c7 : byB (d7 b).b = true := JhL c6
  have c8 := Qp c7 8
  unfold JsQ
  refine (Ja hz).trans ((Ja (by rw [hb, hzz]; rfl)).trans ((Ja (by rw [c1, hzz]; rfl)).trans ((Ja (by rw [c2, hzz]; rfl)).trans ((Ja (by rw [c3, hzz]; rfl)).trans ?_))))
  refine (Jly 40 _ z z hzz _ _ _ _ _ _ _ _ _ _ _ _ _ _ _ _ _ 32 0 40 (d4 b) (List.replicate 32 0) (by omega) (by omega) c4 (by simp)).trans ?_
  have hr : Gq 32 (d4 b) = d5 b := by unfold d5; rw [hashS_eq]
  have hv : Gr 32 (d4 b) = hashV (d4 b) := by rw [hashV_eq]
  have hm : RS.mk (d5 b).b (d5 b).e = d5 b := rfl
  have h7 : J3 (Jb 1 (d5 b)) = d7 b := rfl
  have h9 : Jb 8 (Jb 8 (d7 b)) = d9 b := rfl
  have hsz := Jjg c6
  have htk : List.take (JP (Jb 1 (d5 b))).size (dt b) = dt b := List.take_of_length_le (by unfold dt; rw [GY]; exact Nat.le_refl _)
  have hto : Jm (JP (Jb 1 (d5 b))) = dt b := rfl
  have hbt : byB (dt b) = true := JsR _
  have hlt : (dt b).length ≤ 65535 := by unfold dt; rw [GY]; exact hsz
  have hsl : slB (Ent.vec false 5 false (dt b)).nil (dt b) = true := Q8.2 ⟨fun h => by simp [Ent.nil] at h, by omega⟩
  have hz9 : decide (zi (d9 b).b.length > 0) = decide ((d9 b).b.length > 0) := by apply decide_eq_decide.2; simp only [zi]; omega
  have hdv : DV.mk (Jz 8 ⟨b, 0⟩) (Jz 8 (Jb 8 ⟨b, 0⟩)) (Jz 8 (Jb 8 (Jb 8 ⟨b, 0⟩))) (Jz 8 (Jb 8 (Jb 8 (Jb 8 ⟨b, 0⟩)))) (pu .u8 (hashV (d4 b))) (Jz 1 (d5 b)) (opL (dt b)) (Jz 8 (d7 b)) (Jz 8 (Jb 8 (d7 b))) = dv b := rfl
  simp only [hr, hv, hm, h7, h9, List.take_zero, List.nil_append, List.drop_zero, htk, hto, hz9, hdv, hsl, hbt, hzz, c5, c6, c7, c8, Jn8 hbt, Bool.true_and, Bool.and_true, cond_true]
  cases he : ((d9 b).e == 0) with
  | false =>
    rw [he, cond_false] at hE
    rw [JdP hE he]
    simp only [cond_false]
    exact Ja (by rw [bne, he]; rfl)
  | true =>
    rw [he, cond_true] at hE
    cases h9 : decide ((d9 b).b.length > 0) with
    | true =>
      rw [h9, cond_true] at hE
      rw [JdP hE (by decide)]
      rfl
    | false =>
      rw [h9, cond_false] at hE
      simp only [cond_true, cond_false]
      refine (Ja (by simp [Jj]; omega)).trans ?_
      cases ho : (opE (dt b) == 0) with
      | false =>
        rw [ho, cond_false] at hE
        try simp only [cond_false]
        rw [JdP hE ho]
        exact Ja (by rw [bne, ho]; rfl)
      | true =>
        rw [ho, cond_true] at hE
        try simp only [cond_true]
        cases hd : (dCk (dv b) == 0) with
        | false =>
          rw [JdP hE hd]
          exact Ja (by rw [bne, hd]; rfl)
        | true =>
          have hd' : dCk (dv b) = 0 := by simpa using hd
          rw [hd'] at hE
          rw [JxN hE]
          exact JA (by rw [bne, hd]; rfl)
noncomputable def JdQ : List PV → List Ent → (Res → Option Res) → Option Res
  | [.ro 5 z f b], [], k => bif slB z b && byB b then k ⟨dP b, [], []⟩ else none
  | _, _, _ => none
noncomputable def Jqu : Sig := { own := [], run := JdQ }
theorem JsS : Jh tau Try.prog 103 Jqu := Jh.mk' fun xs es k res hl hr => by
  change JdQ xs es k = some res at hr
  unfold JdQ at hr
  split at hr
  · rename_i z f b
    obtain ⟨hc, hr⟩ := JH hr
    rw [Bool.and_eq_true] at hc
    have hg := (Jn9 z f b hc.1 hc.2 k).trans hr
    exact Ql Jq JiC Jr Jqs Jqt (JiD (Vf 40)) [.ro, .ro] 0 0 (JxL 40) hl rfl ((JAf 40 z f b k).trans hg)
  · cases hr
noncomputable def F49 : Fns := JG 103 Jqu (JG 102 Jiu (JG 80 Jm9 (F0)))
theorem JsT : Jx tau Try.prog F49 := (((JE).add Jky JrG).add JgP Jlm).add JsS JxM
def Joa : An := (.seq .leaf (.seq .leaf (.seq (.seq .leaf (.cond (.seq .leaf .leaf) .leaf)) (.seq (.seq .leaf (.seq .leaf (.cond (.seq .leaf .leaf) .leaf))) (.seq .leaf .leaf)))))
noncomputable def g49 (f : Nat) (k0_z : Bool) (k0_f : Bool) (k0 : List PV) (k1_z : Bool) (k1_f : Bool) (k1 : List PV) (k2_z : Bool) (k2_f : Bool) (k2 : List PV) (s_Body_z : Bool) (s_Body_f : Bool) (s_Body : List PV) (s_Mac : List PV) (k : Res → Option Res) : Option Res := bif slB s_Body_z s_Body && byB s_Body then bif dE s_Body != 0 then k (Res.mk (.tup [.st 73 [.st 45 [.sc (.int .i64 0), .sc (.int .i64 0)], .sc (.int .i64 0), .sc (.int .i64 0), .ar 37 [.sc (.int .u8 0), .sc (.int .u8 0), .sc (.int .u8 0), .sc (.int .u8 0), .sc (.int .u8 0), .sc (.int .u8 0), .sc (.int .u8 0), .sc (.int .u8 0), .sc (.int .u8 0), .sc (.int .u8 0), .sc (.int .u8 0), .sc (.int .u8 0), .sc (.int .u8 0), .sc (.int .u8 0), .sc (.int .u8 0), .sc (.int .u8 0), .sc (.int .u8 0), .sc (.int .u8 0), .sc (.int .u8 0), .sc (.int .u8 0), .sc (.int .u8 0), .sc (.int .u8 0), .sc (.int .u8 0), .sc (.int .u8 0), .sc (.int .u8 0), .sc (.int .u8 0), .sc (.int .u8 0), .sc (.int .u8 0), .sc (.int .u8 0), .sc (.int .u8 0), .sc (.int .u8 0), .sc (.int .u8 0)], .sc (.int .i64 0), .ro 99 true true [], .st 45 [.sc (.int .i64 0), .sc (.int .i64 0)]], .sc (.int .i64 (dE s_Body))]) [] []) else bif !kIn (dF 0 s_Body) then k (Res.mk (.tup [.st 73 [.st 45 [.sc (.int .i64 0), .sc (.int .i64 0)], .sc (.int .i64 0), .sc (.int .i64 0), .ar 37 [.sc (.int .u8 0), .sc (.int .u8 0), .sc (.int .u8 0), .sc (.int .u8 0), .sc (.int .u8 0), .sc (.int .u8 0), .sc (.int .u8 0), .sc (.int .u8 0), .sc (.int .u8 0), .sc (.int .u8 0), .sc (.int .u8 0), .sc (.int .u8 0), .sc (.int .u8 0), .sc (.int .u8 0), .sc (.int .u8 0), .sc (.int .u8 0), .sc (.int .u8 0), .sc (.int .u8 0), .sc (.int .u8 0), .sc (.int .u8 0), .sc (.int .u8 0), .sc (.int .u8 0), .sc (.int .u8 0), .sc (.int .u8 0), .sc (.int .u8 0), .sc (.int .u8 0), .sc (.int .u8 0), .sc (.int .u8 0), .sc (.int .u8 0), .sc (.int .u8 0), .sc (.int .u8 0), .sc (.int .u8 0)], .sc (.int .i64 0), .ro 99 true true [], .st 45 [.sc (.int .i64 0), .sc (.int .i64 0)]], .sc (.int .i64 14)]) [] []) else bif Je IntKind.u8 (QD (K3.mk [.ro 5 k0_z k0_f k0, .ro 5 k1_z k1_f k1, .ro 5 k2_z k2_f k2] (dF 0 s_Body))) && decide ((QD (K3.mk [.ro 5 k0_z k0_f k0, .ro 5 k1_z k1_f k1, .ro 5 k2_z k2_f k2] (dF 0 s_Body))).length ≤ 1000000000) && (Je IntKind.u8 (Jl [.ro 5 s_Body_z s_Body_f s_Body]) && decide ((Jl [.ro 5 s_Body_z s_Body_f s_Body]).length ≤ 1000000000)) && true then bif decide ((pu IntKind.u8 (Qw (Jf (QD (K3.mk [.ro 5 k0_z k0_f k0, .ro 5 k1_z k1_f k1, .ro 5 k2_z k2_f k2] (dF 0 s_Body)))) (Jf (Jl [.ro 5 s_Body_z s_Body_f s_Body])))).length = 32) && decide (s_Mac.length = 32) && Je IntKind.u8 (pu IntKind.u8 (Qw (Jf (QD (K3.mk [.ro 5 k0_z k0_f k0, .ro 5 k1_z k1_f k1, .ro 5 k2_z k2_f k2] (dF 0 s_Body)))) (Jf (Jl [.ro 5 s_Body_z s_Body_f s_Body])))) && Je IntKind.u8 s_Mac && true then bif !Qy (pu IntKind.u8 (Qw (Jf (QD (K3.mk [.ro 5 k0_z k0_f k0, .ro 5 k1_z k1_f k1, .ro 5 k2_z k2_f k2] (dF 0 s_Body)))) (Jf (Jl [.ro 5 s_Body_z s_Body_f s_Body])))) s_Mac then k (Res.mk (.tup [.st 73 [.st 45 [.sc (.int .i64 0), .sc (.int .i64 0)], .sc (.int .i64 0), .sc (.int .i64 0), .ar 37 [.sc (.int .u8 0), .sc (.int .u8 0), .sc (.int .u8 0), .sc (.int .u8 0), .sc (.int .u8 0), .sc (.int .u8 0), .sc (.int .u8 0), .sc (.int .u8 0), .sc (.int .u8 0), .sc (.int .u8 0), .sc (.int .u8 0), .sc (.int .u8 0), .sc (.int .u8 0), .sc (.int .u8 0), .sc (.int .u8 0), .sc (.int .u8 0), .sc (.int .u8 0), .sc (.int .u8 0), .sc (.int .u8 0), .sc (.int .u8 0), .sc (.int .u8 0), .sc (.int .u8 0), .sc (.int .u8 0), .sc (.int .u8 0), .sc (.int .u8 0), .sc (.int .u8 0), .sc (.int .u8 0), .sc (.int .u8 0), .sc (.int .u8 0), .sc (.int .u8 0), .sc (.int .u8 0), .sc (.int .u8 0)], .sc (.int .i64 0), .ro 99 true true [], .st 45 [.sc (.int .i64 0), .sc (.int .i64 0)]], .sc (.int .i64 14)]) [] []) else k (Res.mk (.tup [.st 73 [.st 45 [.sc (.int .i64 (dF 0 s_Body)), .sc (.int .i64 (dF 1 s_Body))], .sc (.int .i64 (dF 2 s_Body)), .sc (.int .i64 (dF 3 s_Body)), .ar 37 (pu IntKind.u8 (dH s_Body)), .sc (.int .i64 (dF 4 s_Body)), .ro 99 (dO s_Body).isEmpty (dO s_Body).isEmpty (dO s_Body), .st 45 [.sc (.int .i64 (dF 5 s_Body)), .sc (.int .i64 (dF 6 s_Body))]], .sc (.int .i64 0)]) [] []) else none else none else none
theorem e49 (f : Nat) (k0_z : Bool) (k0_f : Bool) (k0 : List PV) (k1_z : Bool) (k1_f : Bool) (k1 : List PV) (k2_z : Bool) (k2_f : Bool) (k2 : List PV) (s_Body_z : Bool) (s_Body_f : Bool) (s_Body : List PV) (s_Mac : List PV) (k : Res → Option Res) : JM tau F49 Try.f49 (Try.f49.body.get!) Joa [.ro, .ro] 0 [.st 31 [.ro 5 k0_z k0_f k0, .ro 5 k1_z k1_f k1, .ro 5 k2_z k2_f k2], .st 77 [.ro 5 s_Body_z s_Body_f s_Body, .ar 37 s_Mac]] [] k = g49 f k0_z k0_f k0 k1_z k1_f k1 k2_z k2_f k2 s_Body_z s_Body_f s_Body s_Mac k := by kernel_rfl
theorem JAg (f : Nat) : Jg (Try.f49.body.get!) Joa = [] := by kernel_rfl
theorem JAh (f : Nat) : ∀ q ∈ Jg (Try.f49.body.get!) Joa, q.Ok tau Try.prog 0 := by
  rw [JAg f]; intro q hq; cases hq
theorem JxO : Try.prog.funcs[49]? = some Try.f49 := by kernel_rfl
theorem JxP : Try.f49.body = some (Try.f49.body.get!) := by kernel_rfl
theorem JxQ : Enters Try.prog 49 := enters_of JxO (by kernel_rfl) JxP
noncomputable def Jlz : List PV → List Ent → (Res → Option Res) → Option Res
  | [.st 31 [.ro 5 k0_z k0_f k0, .ro 5 k1_z k1_f k1, .ro 5 k2_z k2_f k2], .st 77 [.ro 5 s_Body_z s_Body_f s_Body, .ar 37 s_Mac]], [], k => g49 0 k0_z k0_f k0 k1_z k1_f k1 k2_z k2_f k2 s_Body_z s_Body_f s_Body s_Mac k
  | _, _, _ => none
noncomputable def s49 : Sig := { own := [], run := Jlz }
theorem JAi : Jh tau Try.prog 49 s49 := JY Jq JsT Jr JxO JxP Joa [.ro, .ro] 0 [] Jlz (JAh 0) fun xs es k res hr => by
  unfold Jlz at hr
  split at hr
  · exact ⟨rfl, 0, (e49 0 _ _ _ _ _ _ _ _ _ _ _ _ _  _).trans hr⟩
  · cases hr


noncomputable def F60 : Fns := JG 102 Jiu (JG 80 Jm9 (JG 58 Jw9 (F0)))
theorem JsU : Jx tau Try.prog F60 := (((JE).add Jxa Jz2).add Jky JrG).add JgP Jlm
def Job : An := (.seq .leaf (.seq .leaf (.seq .leaf .leaf)))
noncomputable def g60 (f : Nat) (k0_z : Bool) (k0_f : Bool) (k0 : List PV) (k1_z : Bool) (k1_f : Bool) (k1 : List PV) (k2_z : Bool) (k2_f : Bool) (k2 : List PV) (host : Int) (e_S_Body_z : Bool) (e_S_Body_f : Bool) (e_S_Body : List PV) (e_S_Mac : List PV) (e_At : Int) (e_Op_z : Bool) (e_Op_f : Bool) (e_Op : List PV) (e_Hash : List PV) (e_Mac : List PV) (k : Res → Option Res) : Option Res := bif kIn host then bif eOk (EV.mk e_S_Body e_S_Mac e_At e_Op) then bif Je IntKind.u8 (QD (K3.mk [.ro 5 k0_z k0_f k0, .ro 5 k1_z k1_f k1, .ro 5 k2_z k2_f k2] host)) && decide ((QD (K3.mk [.ro 5 k0_z k0_f k0, .ro 5 k1_z k1_f k1, .ro 5 k2_z k2_f k2] host)).length ≤ 1000000000) && (Je IntKind.u8 (Jl [.ro 5 false false (pu IntKind.u8 (Wn (EV.mk e_S_Body e_S_Mac e_At e_Op))), .ro 5 false false (List.take 32 e_Hash)]) && decide ((Jl [.ro 5 false false (pu IntKind.u8 (Wn (EV.mk e_S_Body e_S_Mac e_At e_Op))), .ro 5 false false (List.take 32 e_Hash)]).length ≤ 1000000000)) && true then bif decide ((pu IntKind.u8 (Qw (Jf (QD (K3.mk [.ro 5 k0_z k0_f k0, .ro 5 k1_z k1_f k1, .ro 5 k2_z k2_f k2] host))) (Jf (Jl [.ro 5 false false (pu IntKind.u8 (Wn (EV.mk e_S_Body e_S_Mac e_At e_Op))), .ro 5 false false (List.take 32 e_Hash)])))).length = 32) && decide (e_Mac.length = 32) && Je IntKind.u8 (pu IntKind.u8 (Qw (Jf (QD (K3.mk [.ro 5 k0_z k0_f k0, .ro 5 k1_z k1_f k1, .ro 5 k2_z k2_f k2] host))) (Jf (Jl [.ro 5 false false (pu IntKind.u8 (Wn (EV.mk e_S_Body e_S_Mac e_At e_Op))), .ro 5 false false (List.take 32 e_Hash)])))) && Je IntKind.u8 e_Mac && true then k (Res.mk (.sc (.bool (Qy (pu IntKind.u8 (Qw (Jf (QD (K3.mk [.ro 5 k0_z k0_f k0, .ro 5 k1_z k1_f k1, .ro 5 k2_z k2_f k2] host))) (Jf (Jl [.ro 5 false false (pu IntKind.u8 (Wn (EV.mk e_S_Body e_S_Mac e_At e_Op))), .ro 5 false false (List.take 32 e_Hash)])))) e_Mac))) [] []) else none else none else none else k (Res.mk (.sc (.bool false)) [] [])
theorem e60 (f : Nat) (k0_z : Bool) (k0_f : Bool) (k0 : List PV) (k1_z : Bool) (k1_f : Bool) (k1 : List PV) (k2_z : Bool) (k2_f : Bool) (k2 : List PV) (host : Int) (e_S_Body_z : Bool) (e_S_Body_f : Bool) (e_S_Body : List PV) (e_S_Mac : List PV) (e_At : Int) (e_Op_z : Bool) (e_Op_f : Bool) (e_Op : List PV) (e_Hash : List PV) (e_Mac : List PV) (k : Res → Option Res) : JM tau F60 Try.f60 (Try.f60.body.get!) Job [.ro] 0 [.st 31 [.ro 5 k0_z k0_f k0, .ro 5 k1_z k1_f k1, .ro 5 k2_z k2_f k2], .sc (.int .i64 host), .st 93 [.st 77 [.ro 5 e_S_Body_z e_S_Body_f e_S_Body, .ar 37 e_S_Mac], .sc (.int .i64 e_At), .ro 99 e_Op_z e_Op_f e_Op, .ar 37 e_Hash, .ar 37 e_Mac]] [] k = g60 f k0_z k0_f k0 k1_z k1_f k1 k2_z k2_f k2 host e_S_Body_z e_S_Body_f e_S_Body e_S_Mac e_At e_Op_z e_Op_f e_Op e_Hash e_Mac k := by kernel_rfl
theorem JAj (f : Nat) : Jg (Try.f60.body.get!) Job = [] := by kernel_rfl
theorem JAk (f : Nat) : ∀ q ∈ Jg (Try.f60.body.get!) Job, q.Ok tau Try.prog 0 := by
  rw [JAj f]; intro q hq; cases hq
theorem JxR : Try.prog.funcs[60]? = some Try.f60 := by kernel_rfl
theorem JxS : Try.f60.body = some (Try.f60.body.get!) := by kernel_rfl
theorem JAl : Enters Try.prog 60 := enters_of JxR (by kernel_rfl) JxS
noncomputable def JlA : List PV → List Ent → (Res → Option Res) → Option Res
  | [.st 31 [.ro 5 k0_z k0_f k0, .ro 5 k1_z k1_f k1, .ro 5 k2_z k2_f k2], .sc (.int .i64 host), .st 93 [.st 77 [.ro 5 e_S_Body_z e_S_Body_f e_S_Body, .ar 37 e_S_Mac], .sc (.int .i64 e_At), .ro 99 e_Op_z e_Op_f e_Op, .ar 37 e_Hash, .ar 37 e_Mac]], [], k => g60 0 k0_z k0_f k0 k1_z k1_f k1 k2_z k2_f k2 host e_S_Body_z e_S_Body_f e_S_Body e_S_Mac e_At e_Op_z e_Op_f e_Op e_Hash e_Mac k
  | _, _, _ => none
noncomputable def s60 : Sig := { own := [], run := JlA }
theorem JAm : Jh tau Try.prog 60 s60 := JY Jq JsU Jr JxR JxS Job [.ro] 0 [] JlA (JAk 0) fun xs es k res hr => by
  unfold JlA at hr
  split at hr
  · exact ⟨rfl, 0, (e60 0 _ _ _ _ _ _ _ _ _ _ _ _ _ _ _ _ _ _ _ _  _).trans hr⟩
  · cases hr



-- FN
theorem EntRep.free_none {τ : Tab} {im : Im} {ow : Own} {i : Nat} {e : Ent} {w : World} (he : EntRep τ im ow i e w) (hf : e.free = true) {l : Loc} {b : Nat} (hl : ow i = some l) (hb : l.blk = some b) : im b = none := by
  obtain ⟨loc, h1, h2⟩ := he
  obtain rfl : loc = l := Option.some.inj (h1.symm.trans hl)
  cases e with
  | dead => cases hf
  | box fz t v =>
    obtain ⟨k1, k2, b', cells, el, fr, pre, mid, post, q1, q2, q3, q4, q5, q6, q7, q8⟩ := h2
    have : fz = false := by cases fz with | true => cases hf | false => rfl
    obtain rfl : b = b' := Option.some.inj (hb.symm.trans q1)
    exact q8.1 this
  | vec fz t nl els =>
    obtain ⟨k1, k2, k3⟩ := h2
    have : fz = false := by cases fz with | true => cases hf | false => rfl
    rcases k3 with k3 | ⟨_, b', cells, el, fr, pre, mid, post, q1, q2, q3, q4, q5, q6, q7, q8⟩
    · rw [k3.1] at hb; cases hb
    · obtain rfl : b = b' := Option.some.inj (hb.symm.trans q1)
      exact q8.1 this
theorem Jh.dead {τ : Tab} {P : Program} {g : FuncId} {sg : Sig} (h : Jh τ P g sg) :
    Jh τ P g { own := sg.own, run := fun xs es k => sg.run xs es fun r => bif r.news.isEmpty && decide (r.pars.length ≤ 15) then k ⟨r.val, r.pars, [.dead]⟩ else none } := by
  intro xs es k res hl hrun
  obtain ⟨r, hk, H⟩ := h xs es _ res hl hrun
  obtain ⟨hn, hk'⟩ := JH hk
  rw [Bool.and_eq_true, decide_eq_true_eq] at hn
  refine ⟨⟨r.val, r.pars, [.dead]⟩, hk', fun im ow w us hx hi => (H im ow w us hx hi).mono fun e w' hp => ?_⟩
  obtain ⟨u, im', ow', h1, h2, G⟩ := hp
  have hn0 : r.news = [] := List.isEmpty_iff.1 hn.1
  rw [hn0] at G
  have e16 : JF r.pars [] 16 = none := rfl
  have d16 : JF r.pars [.dead] 16 = some .dead := rfl
  have same : ∀ i, i ≠ 16 → JF r.pars [.dead] i = JF r.pars [] i := by
    intro i hi
    unfold JF
    by_cases h16 : i < 16
    · rw [if_pos h16, if_pos h16]
    · rw [if_neg h16, if_neg h16]
      obtain ⟨m, hm⟩ : ∃ m, i - 16 = m + 1 := ⟨i - 17, by omega⟩
      rw [hm]; rfl
  have o16 : ow' 16 = none := by
    cases ho : ow' 16 with
    | none => rfl
    | some l =>
      obtain ⟨e, he⟩ := G.inv.dom 16 l ho
      rw [e16] at he; cases he
  let ow2 : Own := Qz ow' 16 ⟨none, 0, .box 0, 0⟩
  have t16 : ow2 16 = some ⟨none, 0, .box 0, 0⟩ := if_pos rfl
  have tne : ∀ i, i ≠ 16 → ow2 i = ow' i := fun i hi => if_neg hi
  have how : ∀ i l, ow' i = some l → ow2 i = some l := by
    intro i l hil
    by_cases h16 : i = 16
    · subst h16; rw [o16] at hil; cases hil
    · rw [tne i h16]; exact hil
  have live : ∀ i b, Live (JF r.pars [.dead]) ow2 i b → Live (JF r.pars []) ow' i b := by
    rintro i b ⟨e, l, q1, q2, q3, q4⟩
    by_cases h16 : i = 16
    · subst h16; rw [d16] at q1; obtain rfl := Option.some.inj q1; cases q2
    · exact ⟨e, l, by rw [← same i h16]; exact q1, q2, by rw [← tne i h16]; exact q3, q4⟩
  refine ⟨u, im', ow2, h1, Jd.mono (fun _ _ h => h) how _ _ h2, ⟨G.imX, fun i l hil => how i l (G.owX i l hil), ⟨G.inv.imOk, ?_, ?_, ?_⟩, G.size, G.keep, G.newim, fun i b hb => G.newlive i b (live i b hb), G.rest⟩⟩
  · intro i e he
    by_cases h16 : i = 16
    · subst h16; rw [d16] at he; obtain rfl := Option.some.inj he; exact ⟨_, t16, trivial⟩
    · rw [same i h16] at he
      have q := G.inv.ent i e he
      exact EntRep.keep (fun _ _ h => h) how (fun _ _ _ _ _ => rfl) (fun hf l b hl hb => q.free_none hf hl hb) q
  · intro i j b hi hj
    exact G.inv.inj i j b (live i b hi) (live j b hj)
  · intro i l hil
    by_cases h16 : i = 16
    · subst h16; exact ⟨_, d16⟩
    · rw [tne i h16] at hil
      obtain ⟨e, he⟩ := G.inv.dom i l hil
      exact ⟨e, by rw [same i h16]; exact he⟩


-- FN sign.Delta | sign.Open | sign.Entry | sign.Check | ref9.Delta | ref9.Open | ref9.Next | ref9.Entry | ref9.Check
noncomputable def h32 : List PV → Bool := hid fun h => Je .u8 h && decide (h.length = 32)
theorem h32_iff {h : List PV} : h32 h = true ↔ Je .u8 h = true ∧ h.length = 32 := by rw [h32, hid_eq, Bool.and_eq_true, decide_eq_true_eq]
noncomputable def kO3 : List PV → Bool := hid fun l => l.all fun p => kOk p.els
theorem JdR {z0 f0 z1 f1 z2 f2 : Bool} {k0 k1 k2 : List PV} : kO3 [.ro 5 z0 f0 k0, .ro 5 z1 f1 k1, .ro 5 z2 f2 k2] = true ↔ kOk k0 = true ∧ kOk k1 = true ∧ kOk k2 = true := by
  rw [kO3, hid_eq]; simp [PV.els]
structure MK where
  (l : List PV) (d : Int) (t : List Int)
noncomputable def mcK : MK → List Int := hid fun m => Qw (Jf (QD ⟨m.l, m.d⟩)) m.t
theorem GA (m : MK) : mcK m = Qw (Jf (QD ⟨m.l, m.d⟩)) m.t := by rw [mcK, hid_eq]
theorem Yf (m : MK) : (mcK m).length = 32 := by rw [GA]; exact G0 _ _
structure NX where
  (p : List PV) (e : EV)
structure EM where
  (l : List PV) (d : Int) (e : EV) (h : List PV)
noncomputable def emP : EM → List Int := hid fun x => mcK ⟨x.l, x.d, Wn x.e ++ Jf x.h⟩
theorem JgV (x : EM) : emP x = mcK ⟨x.l, x.d, Wn x.e ++ Jf x.h⟩ := by rw [emP, hid_eq]
theorem JgW (x : EM) : (emP x).length = 32 := by rw [JgV]; exact Yf _
structure EC where
  (l : List PV) (d : Int) (e : EV) (h m : List PV)
noncomputable def emC : EC → Bool := hid fun x => kIn x.d && (emP ⟨x.l, x.d, x.e, x.h⟩ == Jf x.m)
theorem JlB (x : EC) : emC x = (kIn x.d && (emP ⟨x.l, x.d, x.e, x.h⟩ == Jf x.m)) := by rw [emC, hid_eq]
structure SO where
  (l b m : List PV)
noncomputable def ZD (x : SO) : Int := bif dE x.b == 0 then (bif kIn (dF 0 x.b) && (mcK ⟨x.l, dF 0 x.b, Jf x.b⟩ == Jf x.m) then 0 else 14) else dE x.b
noncomputable def soE : SO → Int := hid ZD
noncomputable def soF : Nat → SO → Int := hid fun i x => bif ZD x == 0 then dF i x.b else 0
noncomputable def soH : SO → List Int := hid fun x => bif ZD x == 0 then dH x.b else List.replicate 32 0
noncomputable def soO : SO → List PV := hid fun x => bif ZD x == 0 then dO x.b else []
theorem JdS (x : SO) : soE x = ZD x := by rw [soE, hid_eq]
theorem JgX (i : Nat) (x : SO) : soF i x = bif ZD x == 0 then dF i x.b else 0 := by rw [soF, hid_eq]
theorem JlC (x : SO) : soH x = bif ZD x == 0 then dH x.b else List.replicate 32 0 := by rw [soH, hid_eq]
theorem JlD (x : SO) : soO x = bif ZD x == 0 then dO x.b else [] := by rw [soO, hid_eq]
noncomputable def soP (x : SO) : PV := .tup [.st 73 [.st 45 [.sc (.int .i64 (soF 0 x)), .sc (.int .i64 (soF 1 x))], .sc (.int .i64 (soF 2 x)), .sc (.int .i64 (soF 3 x)), .ar 37 (pu .u8 (soH x)), .sc (.int .i64 (soF 4 x)), .ro 99 (soO x).isEmpty (soO x).isEmpty (soO x), .st 45 [.sc (.int .i64 (soF 5 x)), .sc (.int .i64 (soF 6 x))]], .sc (.int .i64 (soE x))]
theorem JiG {x : SO} {e : Int} (h : ZD x = e) (h0 : (e == 0) = false) : soP x = JiF e := by
  simp only [soP, JiF, JgX, JlC, JlD, JdS, h, h0, cond_false, List.isEmpty_nil]
theorem JsV {x : SO} (h : ZD x = 0) : soP x = .tup [.st 73 [.st 45 [.sc (.int .i64 (dF 0 x.b)), .sc (.int .i64 (dF 1 x.b))], .sc (.int .i64 (dF 2 x.b)), .sc (.int .i64 (dF 3 x.b)), .ar 37 (pu .u8 (dH x.b)), .sc (.int .i64 (dF 4 x.b)), .ro 99 (dO x.b).isEmpty (dO x.b).isEmpty (dO x.b), .st 45 [.sc (.int .i64 (dF 5 x.b)), .sc (.int .i64 (dF 6 x.b))]], .sc (.int .i64 0)] := by
  simp only [soP, JgX, JlC, JlD, JdS, h, beq_self_eq_true, cond_true]
theorem fl1 (z f : Bool) (l : List PV) : Jl [.ro 5 z f l] = l := by simp [PV.els]
theorem fl2 (z f z' f' : Bool) (l l' : List PV) : Jl [.ro 5 z f l, .ro 5 z' f' l'] = l ++ l' := by simp [PV.els]
theorem Jfj {a b : List PV} (h : Je .u8 a = true) (h' : Je .u8 b = true) : Je .u8 (a ++ b) = true := by
  induction a with
  | nil => exact h'
  | cons p ps ih =>
    have e : ∀ l : List PV, Je .u8 (p :: l) = (p.isInt .u8 && Je .u8 l) := fun l => rfl
    rw [e, Bool.and_eq_true] at h
    rw [List.cons_append, e, Bool.and_eq_true]; exact ⟨h.1, ih h.2⟩
theorem Jjo (a b : List PV) : Jf (a ++ b) = Jf a ++ Jf b := by simp [Jf]
theorem JsW {z0 f0 z1 f1 z2 f2 : Bool} {k0 k1 k2 : List PV} (h : kO3 [.ro 5 z0 f0 k0, .ro 5 z1 f1 k1, .ro 5 z2 f2 k2] = true) {d : Int} (hd : QL d 2 = true) :
    PV.isRo 5 (Jk (PV.st 31 [.ro 5 z0 f0 k0, .ro 5 z1 f1 k1, .ro 5 z2 f2 k2]) [d.toNat]) = true ∧ (Jk (PV.st 31 [.ro 5 z0 f0 k0, .ro 5 z1 f1 k1, .ro 5 z2 f2 k2]) [d.toNat]).els = QD ⟨[.ro 5 z0 f0 k0, .ro 5 z1 f1 k1, .ro 5 z2 f2 k2], d⟩ := by
  rw [Jan, WP, hd]
  simp only [QL, Bool.and_eq_true, decide_eq_true_eq] at hd
  have : d = 0 ∨ d = 1 ∨ d = 2 := by omega
  rcases this with rfl | rfl | rfl <;> exact ⟨rfl, rfl⟩
theorem JdT {z0 f0 z1 f1 z2 f2 : Bool} {k0 k1 k2 : List PV} (h : kO3 [.ro 5 z0 f0 k0, .ro 5 z1 f1 k1, .ro 5 z2 f2 k2] = true) (d : Int) : Je .u8 (QD ⟨[.ro 5 z0 f0 k0, .ro 5 z1 f1 k1, .ro 5 z2 f2 k2], d⟩) = true ∧ (QD ⟨[.ro 5 z0 f0 k0, .ro 5 z1 f1 k1, .ro 5 z2 f2 k2], d⟩).length ≤ 1000000000 := by
  obtain ⟨a, b, c⟩ := JdR.1 h
  have := Jna (z0 := z0) (f0 := f0) (z1 := z1) (f1 := f1) (z2 := z2) (f2 := f2) a b c d
  rw [kOk, Bool.and_eq_true, decide_eq_true_eq] at this; exact this
theorem GB {d : DV} (h : dOk d = true) : (dlB d).length ≤ 65618 := by rw [Vc h]; have := (WC.1 h).2.2.2; omega
theorem Jfk {e : EV} (h : eOk e = true) : (Wn e).length ≤ 131114 := by rw [V0 h]; have := VZ.1 h; omega
theorem Jqv {b : List PV} (h : dE b = 0) : QL (dF 0 b) 2 = true := by
  rw [Jfi] at h
  rw [JiE, h]
  show QL (dv b).ad 2 = true
  have hq := h
  unfold dE0 at hq
  cases he : ((d9 b).e == 0) with
  | false => rw [he, cond_false] at hq; rw [hq] at he; cases he
  | true =>
    rw [he, cond_true] at hq
    cases h9 : decide ((d9 b).b.length > 0) with
    | true => rw [h9, cond_true] at hq; exact absurd hq (by decide)
    | false =>
      rw [h9, cond_false] at hq
      cases ho : (opE (dt b) == 0) with
      | false => rw [ho, cond_false] at hq; rw [hq] at ho; cases ho
      | true =>
        rw [ho, cond_true, Jbr] at hq
        unfold Jjn at hq
        cases hi : inZ (dv b).ad 2 with
        | true => exact hi
        | false => rw [hi, Bool.false_and, cond_false] at hq; exact absurd hq (by decide)
/-! sign.Delta, ref9.Delta -/
noncomputable def JgY : List PV → List Ent → (Res → Option Res) → Option Res
  | [.st 31 [.ro 5 z0 f0 k0, .ro 5 z1 f1 k1, .ro 5 z2 f2 k2], .st 73 [.st 45 [.sc (.int .i64 ad), .sc (.int .i64 au)], .sc (.int .i64 id1), .sc (.int .i64 ve), .ar 37 h, .sc (.int .i64 kd), .ro 99 oz of o, .st 45 [.sc (.int .i64 wd), .sc (.int .i64 wu)]]], [], k =>
    bif dOk ⟨ad, au, id1, ve, h, kd, o, wd, wu⟩ && kO3 [.ro 5 z0 f0 k0, .ro 5 z1 f1 k1, .ro 5 z2 f2 k2] then
      k ⟨.st 77 [.ro 5 false false (pu .u8 (dlB ⟨ad, au, id1, ve, h, kd, o, wd, wu⟩)), .ar 37 (pu .u8 (mcK ⟨[.ro 5 z0 f0 k0, .ro 5 z1 f1 k1, .ro 5 z2 f2 k2], ad, dlB ⟨ad, au, id1, ve, h, kd, o, wd, wu⟩⟩))], [], []⟩ else none
  | _, _, _ => none
noncomputable def JsX : Sig := { own := [], run := JgY }
theorem Jqw : Jh tau Try.prog 46 JsX := Jz7.of fun xs es k res hr => by
  change JgY xs es k = some res at hr
  unfold JgY at hr
  split at hr
  · rename_i z0 f0 k0 z1 f1 k1 z2 f2 k2 ad au id1 ve h kd oz of o wd wu
    obtain ⟨hc, hr⟩ := JH hr
    rw [Bool.and_eq_true] at hc
    have hK := JdT hc.2 ad
    have hs := GB hc.1
    refine Eq.trans ?_ hr
    show g46 0 z0 f0 k0 z1 f1 k1 z2 f2 k2 ad au id1 ve h kd oz of o wd wu k = _
    unfold g46
    simp only [fl1, JV, Qv, JI]
    refine (Ja hc.1).trans ((Ja (by rw [hK.1]; simp; omega)).trans ?_)
    rw [GA]
  · cases hr
/-! sign.Open, ref9.Open -/
noncomputable def JgZ : List PV → List Ent → (Res → Option Res) → Option Res
  | [.st 31 [.ro 5 z0 f0 k0, .ro 5 z1 f1 k1, .ro 5 z2 f2 k2], .st 77 [.ro 5 z f b, .ar 37 m]], [], k =>
    bif (slB z b && byB b) && (h32 m && kO3 [.ro 5 z0 f0 k0, .ro 5 z1 f1 k1, .ro 5 z2 f2 k2]) then
      k ⟨soP ⟨[.ro 5 z0 f0 k0, .ro 5 z1 f1 k1, .ro 5 z2 f2 k2], b, m⟩, [], []⟩ else none
  | _, _, _ => none
noncomputable def JsY : Sig := { own := [], run := JgZ }
theorem Jqx : Jh tau Try.prog 49 JsY := JAi.of fun xs es k res hr => by
  change JgZ xs es k = some res at hr
  unfold JgZ at hr
  split at hr
  · rename_i z0 f0 k0 z1 f1 k1 z2 f2 k2 z f b m
    obtain ⟨hc, hr⟩ := JH hr
    simp only [Bool.and_eq_true] at hc
    have hK := JdT hc.2.2 (dF 0 b)
    obtain ⟨m1, m2⟩ := h32_iff.1 hc.2.1
    have hsl := (Q8.1 hc.1.1).2
    have hab := (Q9.1 hc.1.2).1
    refine Eq.trans ?_ hr
    show g49 0 z0 f0 k0 z1 f1 k1 z2 f2 k2 z f b m k = _
    generalize hx : SO.mk [.ro 5 z0 f0 k0, .ro 5 z1 f1 k1, .ro 5 z2 f2 k2] b m = x
    have hxb : x.b = b := by rw [← hx]
    have hE : ZD x = ZD x := rfl
    conv at hE => rhs; unfold ZD
    rw [hxb] at hE
    unfold g49
    simp only [fl1]
    refine (Ja (by rw [hc.1.1, hc.1.2]; rfl)).trans ?_
    cases he : (dE b == 0) with
    | false =>
      rw [he, cond_false] at hE
      rw [JiG hE he]
      exact Ja (by rw [bne, he]; rfl)
    | true =>
      rw [he, cond_true] at hE
      have hi := Jqv (show dE b = 0 by simpa using he)
      have hk : kIn (dF 0 b) = true := by rw [JdJ]; exact hi
      rw [hk, Bool.true_and] at hE
      refine (JA (by rw [bne, he]; rfl)).trans ((JA (by rw [hk]; rfl)).trans ((Ja (by rw [hK.1, hab]; simp; omega)).trans ((Ja (by rw [JV, m1]; simp [G0, m2])).trans ?_)))
      have hmm : mcK ⟨x.l, dF 0 b, Jf b⟩ = Qw (Jf (QD ⟨[.ro 5 z0 f0 k0, .ro 5 z1 f1 k1, .ro 5 z2 f2 k2], dF 0 b⟩)) (Jf b) := by rw [GA, ← hx]
      have hxm : x.m = m := by rw [← hx]
      rw [hxm, hmm] at hE
      have hq : Qy (pu .u8 (Qw (Jf (QD ⟨[.ro 5 z0 f0 k0, .ro 5 z1 f1 k1, .ro 5 z2 f2 k2], dF 0 b⟩)) (Jf b))) m = (Qw (Jf (QD ⟨[.ro 5 z0 f0 k0, .ro 5 z1 f1 k1, .ro 5 z2 f2 k2], dF 0 b⟩)) (Jf b) == Jf m) := by
        conv => lhs; rw [show m = pu .u8 (Jf m) from (Qb m1)]
        exact Xq _ _ _
      rw [hq]
      cases hm : (Qw (Jf (QD ⟨[.ro 5 z0 f0 k0, .ro 5 z1 f1 k1, .ro 5 z2 f2 k2], dF 0 b⟩)) (Jf b) == Jf m) with
      | false =>
        rw [hm, cond_false] at hE
        rw [JiG hE (by decide)]
        rfl
      | true =>
        rw [hm, cond_true] at hE
        rw [JsV hE, hxb]
        rfl
  · cases hr
/-! entries -/
noncomputable def Jg0 : List PV → List Ent → (Res → Option Res) → Option Res
  | [.st 31 [.ro 5 z0 f0 k0, .ro 5 z1 f1 k1, .ro 5 z2 f2 k2], .sc (.int .i64 ho), .st 93 [.st 77 [.ro 5 z f b, .ar 37 m], .sc (.int .i64 at1), .ro 99 oz of o, .ar 37 h, .ar 37 mc]], [], k =>
    bif eOk ⟨b, m, at1, o⟩ && (h32 h && (h32 mc && kO3 [.ro 5 z0 f0 k0, .ro 5 z1 f1 k1, .ro 5 z2 f2 k2])) then
      k ⟨.sc (.bool (emC ⟨[.ro 5 z0 f0 k0, .ro 5 z1 f1 k1, .ro 5 z2 f2 k2], ho, ⟨b, m, at1, o⟩, h, mc⟩)), [], []⟩ else none
  | _, _, _ => none
noncomputable def JxT : Sig := { own := [], run := Jg0 }
theorem JxU : Jh tau Try.prog 60 JxT := JAm.of fun xs es k res hr => by
  change Jg0 xs es k = some res at hr
  unfold Jg0 at hr
  split at hr
  · rename_i z0 f0 k0 z1 f1 k1 z2 f2 k2 ho z f b m at1 oz of o h mc
    obtain ⟨hc, hr⟩ := JH hr
    simp only [Bool.and_eq_true] at hc
    obtain ⟨c1, c2, c3, c4⟩ := hc
    have hK := JdT c4 ho
    obtain ⟨p1, p2⟩ := h32_iff.1 c2
    obtain ⟨m1, m2⟩ := h32_iff.1 c3
    have hcl := Jfk c1
    have hth : List.take 32 h = h := List.take_of_length_le (by omega)
    have hem : Qw (Jf (QD ⟨[.ro 5 z0 f0 k0, .ro 5 z1 f1 k1, .ro 5 z2 f2 k2], ho⟩)) (Wn ⟨b, m, at1, o⟩ ++ Jf h) = emP ⟨[.ro 5 z0 f0 k0, .ro 5 z1 f1 k1, .ro 5 z2 f2 k2], ho, ⟨b, m, at1, o⟩, h⟩ := by rw [JgV, GA]
    have hq : ∀ l : List Int, Qy (pu .u8 l) mc = (l == Jf mc) := fun l => by
      conv => lhs; rw [show mc = pu .u8 (Jf mc) from (Qb m1)]
      exact Xq _ _ _
    rw [JlB] at hr
    refine Eq.trans ?_ hr
    show g60 0 z0 f0 k0 z1 f1 k1 z2 f2 k2 ho z f b m at1 oz of o h mc k = _
    unfold g60
    cases kIn ho with
    | false => rfl
    | true =>
      simp only [fl2, hth, Jjo, Qv, hem, hq, JV]
      refine (Ja rfl).trans ((Ja c1).trans ((Ja (by rw [hK.1, Jfj (JV _ _) p1]; simp; omega)).trans ((Ja (by rw [m1]; simp [JgW, m2])).trans ?_)))
      rfl
  · cases hr
noncomputable def F42 : Fns := JG 60 JxT (JG 49 JsY (JG 46 JsX (JG 21 Jr3 (F0))))
theorem JsZ : Jx tau Try.prog F42 := ((((JE).add JpE Jtz).add Jqw Jxj).add Jqx JxQ).add JxU JAl
def Joc : An := (.seq .leaf (.seq .leaf (.seq .leaf (.seq .leaf (.seq .leaf .leaf)))))
noncomputable def g42 (f : Nat) (k : Res → Option Res) : Option Res := bif dOk (DV.mk 0 0 0 0 [.sc (.int .u8 0), .sc (.int .u8 0), .sc (.int .u8 0), .sc (.int .u8 0), .sc (.int .u8 0), .sc (.int .u8 0), .sc (.int .u8 0), .sc (.int .u8 0), .sc (.int .u8 0), .sc (.int .u8 0), .sc (.int .u8 0), .sc (.int .u8 0), .sc (.int .u8 0), .sc (.int .u8 0), .sc (.int .u8 0), .sc (.int .u8 0), .sc (.int .u8 0), .sc (.int .u8 0), .sc (.int .u8 0), .sc (.int .u8 0), .sc (.int .u8 0), .sc (.int .u8 0), .sc (.int .u8 0), .sc (.int .u8 0), .sc (.int .u8 0), .sc (.int .u8 0), .sc (.int .u8 0), .sc (.int .u8 0), .sc (.int .u8 0), .sc (.int .u8 0), .sc (.int .u8 0), .sc (.int .u8 0)] 2 [] 0 0) && kO3 [.ro 5 false false (kb 0 []), .ro 5 false false (kb 1 []), .ro 5 false false (kb 2 [])] then bif slB false (pu IntKind.u8 (dlB (DV.mk 0 0 0 0 [.sc (.int .u8 0), .sc (.int .u8 0), .sc (.int .u8 0), .sc (.int .u8 0), .sc (.int .u8 0), .sc (.int .u8 0), .sc (.int .u8 0), .sc (.int .u8 0), .sc (.int .u8 0), .sc (.int .u8 0), .sc (.int .u8 0), .sc (.int .u8 0), .sc (.int .u8 0), .sc (.int .u8 0), .sc (.int .u8 0), .sc (.int .u8 0), .sc (.int .u8 0), .sc (.int .u8 0), .sc (.int .u8 0), .sc (.int .u8 0), .sc (.int .u8 0), .sc (.int .u8 0), .sc (.int .u8 0), .sc (.int .u8 0), .sc (.int .u8 0), .sc (.int .u8 0), .sc (.int .u8 0), .sc (.int .u8 0), .sc (.int .u8 0), .sc (.int .u8 0), .sc (.int .u8 0), .sc (.int .u8 0)] 2 [] 0 0))) && byB (pu IntKind.u8 (dlB (DV.mk 0 0 0 0 [.sc (.int .u8 0), .sc (.int .u8 0), .sc (.int .u8 0), .sc (.int .u8 0), .sc (.int .u8 0), .sc (.int .u8 0), .sc (.int .u8 0), .sc (.int .u8 0), .sc (.int .u8 0), .sc (.int .u8 0), .sc (.int .u8 0), .sc (.int .u8 0), .sc (.int .u8 0), .sc (.int .u8 0), .sc (.int .u8 0), .sc (.int .u8 0), .sc (.int .u8 0), .sc (.int .u8 0), .sc (.int .u8 0), .sc (.int .u8 0), .sc (.int .u8 0), .sc (.int .u8 0), .sc (.int .u8 0), .sc (.int .u8 0), .sc (.int .u8 0), .sc (.int .u8 0), .sc (.int .u8 0), .sc (.int .u8 0), .sc (.int .u8 0), .sc (.int .u8 0), .sc (.int .u8 0), .sc (.int .u8 0)] 2 [] 0 0))) && (h32 (pu IntKind.u8 (mcK (MK.mk [.ro 5 false false (kb 0 []), .ro 5 false false (kb 1 []), .ro 5 false false (kb 2 [])] 0 (dlB (DV.mk 0 0 0 0 [.sc (.int .u8 0), .sc (.int .u8 0), .sc (.int .u8 0), .sc (.int .u8 0), .sc (.int .u8 0), .sc (.int .u8 0), .sc (.int .u8 0), .sc (.int .u8 0), .sc (.int .u8 0), .sc (.int .u8 0), .sc (.int .u8 0), .sc (.int .u8 0), .sc (.int .u8 0), .sc (.int .u8 0), .sc (.int .u8 0), .sc (.int .u8 0), .sc (.int .u8 0), .sc (.int .u8 0), .sc (.int .u8 0), .sc (.int .u8 0), .sc (.int .u8 0), .sc (.int .u8 0), .sc (.int .u8 0), .sc (.int .u8 0), .sc (.int .u8 0), .sc (.int .u8 0), .sc (.int .u8 0), .sc (.int .u8 0), .sc (.int .u8 0), .sc (.int .u8 0), .sc (.int .u8 0), .sc (.int .u8 0)] 2 [] 0 0))))) && kO3 [.ro 5 false false (kb 0 []), .ro 5 false false (kb 1 []), .ro 5 false false (kb 2 [])]) then bif soE (SO.mk [.ro 5 false false (kb 0 []), .ro 5 false false (kb 1 []), .ro 5 false false (kb 2 [])] (pu IntKind.u8 (dlB (DV.mk 0 0 0 0 [.sc (.int .u8 0), .sc (.int .u8 0), .sc (.int .u8 0), .sc (.int .u8 0), .sc (.int .u8 0), .sc (.int .u8 0), .sc (.int .u8 0), .sc (.int .u8 0), .sc (.int .u8 0), .sc (.int .u8 0), .sc (.int .u8 0), .sc (.int .u8 0), .sc (.int .u8 0), .sc (.int .u8 0), .sc (.int .u8 0), .sc (.int .u8 0), .sc (.int .u8 0), .sc (.int .u8 0), .sc (.int .u8 0), .sc (.int .u8 0), .sc (.int .u8 0), .sc (.int .u8 0), .sc (.int .u8 0), .sc (.int .u8 0), .sc (.int .u8 0), .sc (.int .u8 0), .sc (.int .u8 0), .sc (.int .u8 0), .sc (.int .u8 0), .sc (.int .u8 0), .sc (.int .u8 0), .sc (.int .u8 0)] 2 [] 0 0))) (pu IntKind.u8 (mcK (MK.mk [.ro 5 false false (kb 0 []), .ro 5 false false (kb 1 []), .ro 5 false false (kb 2 [])] 0 (dlB (DV.mk 0 0 0 0 [.sc (.int .u8 0), .sc (.int .u8 0), .sc (.int .u8 0), .sc (.int .u8 0), .sc (.int .u8 0), .sc (.int .u8 0), .sc (.int .u8 0), .sc (.int .u8 0), .sc (.int .u8 0), .sc (.int .u8 0), .sc (.int .u8 0), .sc (.int .u8 0), .sc (.int .u8 0), .sc (.int .u8 0), .sc (.int .u8 0), .sc (.int .u8 0), .sc (.int .u8 0), .sc (.int .u8 0), .sc (.int .u8 0), .sc (.int .u8 0), .sc (.int .u8 0), .sc (.int .u8 0), .sc (.int .u8 0), .sc (.int .u8 0), .sc (.int .u8 0), .sc (.int .u8 0), .sc (.int .u8 0), .sc (.int .u8 0), .sc (.int .u8 0), .sc (.int .u8 0), .sc (.int .u8 0), .sc (.int .u8 0)] 2 [] 0 0)))))) == 0 then bif soF 4 (SO.mk [.ro 5 false false (kb 0 []), .ro 5 false false (kb 1 []), .ro 5 false false (kb 2 [])] (pu IntKind.u8 (dlB (DV.mk 0 0 0 0 [.sc (.int .u8 0), .sc (.int .u8 0), .sc (.int .u8 0), .sc (.int .u8 0), .sc (.int .u8 0), .sc (.int .u8 0), .sc (.int .u8 0), .sc (.int .u8 0), .sc (.int .u8 0), .sc (.int .u8 0), .sc (.int .u8 0), .sc (.int .u8 0), .sc (.int .u8 0), .sc (.int .u8 0), .sc (.int .u8 0), .sc (.int .u8 0), .sc (.int .u8 0), .sc (.int .u8 0), .sc (.int .u8 0), .sc (.int .u8 0), .sc (.int .u8 0), .sc (.int .u8 0), .sc (.int .u8 0), .sc (.int .u8 0), .sc (.int .u8 0), .sc (.int .u8 0), .sc (.int .u8 0), .sc (.int .u8 0), .sc (.int .u8 0), .sc (.int .u8 0), .sc (.int .u8 0), .sc (.int .u8 0)] 2 [] 0 0))) (pu IntKind.u8 (mcK (MK.mk [.ro 5 false false (kb 0 []), .ro 5 false false (kb 1 []), .ro 5 false false (kb 2 [])] 0 (dlB (DV.mk 0 0 0 0 [.sc (.int .u8 0), .sc (.int .u8 0), .sc (.int .u8 0), .sc (.int .u8 0), .sc (.int .u8 0), .sc (.int .u8 0), .sc (.int .u8 0), .sc (.int .u8 0), .sc (.int .u8 0), .sc (.int .u8 0), .sc (.int .u8 0), .sc (.int .u8 0), .sc (.int .u8 0), .sc (.int .u8 0), .sc (.int .u8 0), .sc (.int .u8 0), .sc (.int .u8 0), .sc (.int .u8 0), .sc (.int .u8 0), .sc (.int .u8 0), .sc (.int .u8 0), .sc (.int .u8 0), .sc (.int .u8 0), .sc (.int .u8 0), .sc (.int .u8 0), .sc (.int .u8 0), .sc (.int .u8 0), .sc (.int .u8 0), .sc (.int .u8 0), .sc (.int .u8 0), .sc (.int .u8 0), .sc (.int .u8 0)] 2 [] 0 0)))))) == 2 then bif eOk (EV.mk [] [.sc (.int .u8 0), .sc (.int .u8 0), .sc (.int .u8 0), .sc (.int .u8 0), .sc (.int .u8 0), .sc (.int .u8 0), .sc (.int .u8 0), .sc (.int .u8 0), .sc (.int .u8 0), .sc (.int .u8 0), .sc (.int .u8 0), .sc (.int .u8 0), .sc (.int .u8 0), .sc (.int .u8 0), .sc (.int .u8 0), .sc (.int .u8 0), .sc (.int .u8 0), .sc (.int .u8 0), .sc (.int .u8 0), .sc (.int .u8 0), .sc (.int .u8 0), .sc (.int .u8 0), .sc (.int .u8 0), .sc (.int .u8 0), .sc (.int .u8 0), .sc (.int .u8 0), .sc (.int .u8 0), .sc (.int .u8 0), .sc (.int .u8 0), .sc (.int .u8 0), .sc (.int .u8 0), .sc (.int .u8 0)] 0 []) && (h32 [.sc (.int .u8 0), .sc (.int .u8 0), .sc (.int .u8 0), .sc (.int .u8 0), .sc (.int .u8 0), .sc (.int .u8 0), .sc (.int .u8 0), .sc (.int .u8 0), .sc (.int .u8 0), .sc (.int .u8 0), .sc (.int .u8 0), .sc (.int .u8 0), .sc (.int .u8 0), .sc (.int .u8 0), .sc (.int .u8 0), .sc (.int .u8 0), .sc (.int .u8 0), .sc (.int .u8 0), .sc (.int .u8 0), .sc (.int .u8 0), .sc (.int .u8 0), .sc (.int .u8 0), .sc (.int .u8 0), .sc (.int .u8 0), .sc (.int .u8 0), .sc (.int .u8 0), .sc (.int .u8 0), .sc (.int .u8 0), .sc (.int .u8 0), .sc (.int .u8 0), .sc (.int .u8 0), .sc (.int .u8 0)] && (h32 [.sc (.int .u8 0), .sc (.int .u8 0), .sc (.int .u8 0), .sc (.int .u8 0), .sc (.int .u8 0), .sc (.int .u8 0), .sc (.int .u8 0), .sc (.int .u8 0), .sc (.int .u8 0), .sc (.int .u8 0), .sc (.int .u8 0), .sc (.int .u8 0), .sc (.int .u8 0), .sc (.int .u8 0), .sc (.int .u8 0), .sc (.int .u8 0), .sc (.int .u8 0), .sc (.int .u8 0), .sc (.int .u8 0), .sc (.int .u8 0), .sc (.int .u8 0), .sc (.int .u8 0), .sc (.int .u8 0), .sc (.int .u8 0), .sc (.int .u8 0), .sc (.int .u8 0), .sc (.int .u8 0), .sc (.int .u8 0), .sc (.int .u8 0), .sc (.int .u8 0), .sc (.int .u8 0), .sc (.int .u8 0)] && kO3 [.ro 5 false false (kb 0 []), .ro 5 false false (kb 1 []), .ro 5 false false (kb 2 [])])) then k (Res.mk (.sc (.bool !emC (EC.mk [.ro 5 false false (kb 0 []), .ro 5 false false (kb 1 []), .ro 5 false false (kb 2 [])] 0 (EV.mk [] [.sc (.int .u8 0), .sc (.int .u8 0), .sc (.int .u8 0), .sc (.int .u8 0), .sc (.int .u8 0), .sc (.int .u8 0), .sc (.int .u8 0), .sc (.int .u8 0), .sc (.int .u8 0), .sc (.int .u8 0), .sc (.int .u8 0), .sc (.int .u8 0), .sc (.int .u8 0), .sc (.int .u8 0), .sc (.int .u8 0), .sc (.int .u8 0), .sc (.int .u8 0), .sc (.int .u8 0), .sc (.int .u8 0), .sc (.int .u8 0), .sc (.int .u8 0), .sc (.int .u8 0), .sc (.int .u8 0), .sc (.int .u8 0), .sc (.int .u8 0), .sc (.int .u8 0), .sc (.int .u8 0), .sc (.int .u8 0), .sc (.int .u8 0), .sc (.int .u8 0), .sc (.int .u8 0), .sc (.int .u8 0)] 0 []) [.sc (.int .u8 0), .sc (.int .u8 0), .sc (.int .u8 0), .sc (.int .u8 0), .sc (.int .u8 0), .sc (.int .u8 0), .sc (.int .u8 0), .sc (.int .u8 0), .sc (.int .u8 0), .sc (.int .u8 0), .sc (.int .u8 0), .sc (.int .u8 0), .sc (.int .u8 0), .sc (.int .u8 0), .sc (.int .u8 0), .sc (.int .u8 0), .sc (.int .u8 0), .sc (.int .u8 0), .sc (.int .u8 0), .sc (.int .u8 0), .sc (.int .u8 0), .sc (.int .u8 0), .sc (.int .u8 0), .sc (.int .u8 0), .sc (.int .u8 0), .sc (.int .u8 0), .sc (.int .u8 0), .sc (.int .u8 0), .sc (.int .u8 0), .sc (.int .u8 0), .sc (.int .u8 0), .sc (.int .u8 0)] [.sc (.int .u8 0), .sc (.int .u8 0), .sc (.int .u8 0), .sc (.int .u8 0), .sc (.int .u8 0), .sc (.int .u8 0), .sc (.int .u8 0), .sc (.int .u8 0), .sc (.int .u8 0), .sc (.int .u8 0), .sc (.int .u8 0), .sc (.int .u8 0), .sc (.int .u8 0), .sc (.int .u8 0), .sc (.int .u8 0), .sc (.int .u8 0), .sc (.int .u8 0), .sc (.int .u8 0), .sc (.int .u8 0), .sc (.int .u8 0), .sc (.int .u8 0), .sc (.int .u8 0), .sc (.int .u8 0), .sc (.int .u8 0), .sc (.int .u8 0), .sc (.int .u8 0), .sc (.int .u8 0), .sc (.int .u8 0), .sc (.int .u8 0), .sc (.int .u8 0), .sc (.int .u8 0), .sc (.int .u8 0)]))) [] []) else none else k (Res.mk (.sc (.bool false)) [] []) else k (Res.mk (.sc (.bool false)) [] []) else none else none
theorem e42 (f : Nat) (k : Res → Option Res) : JM tau F42 Try.f42 (Try.f42.body.get!) Joc [.ro] 0 [] [] k = g42 f k := by kernel_rfl
theorem JAn (f : Nat) : Jg (Try.f42.body.get!) Joc = [] := by kernel_rfl
theorem JAo (f : Nat) : ∀ q ∈ Jg (Try.f42.body.get!) Joc, q.Ok tau Try.prog 0 := by
  rw [JAn f]; intro q hq; cases hq
theorem JxV : Try.prog.funcs[42]? = some Try.f42 := by kernel_rfl
theorem JxW : Try.f42.body = some (Try.f42.body.get!) := by kernel_rfl
theorem JAp : Enters Try.prog 42 := enters_of JxV (by kernel_rfl) JxW
noncomputable def JlE : List PV → List Ent → (Res → Option Res) → Option Res
  | [], [], k => g42 0  k
  | _, _, _ => none
noncomputable def s42 : Sig := { own := [], run := JlE }
theorem JAq : Jh tau Try.prog 42 s42 := JY Jq JsZ Jr JxV JxW Joc [.ro] 0 [] JlE (JAo 0) fun xs es k res hr => by
  unfold JlE at hr
  split at hr
  · exact ⟨rfl, 0, (e42 0  _).trans hr⟩
  · cases hr
-- FN
theorem JlF {c : CV} (h : ckC c = 0) : 1 ≤ c.kd ∧ c.kd ≤ 3 ∧ 0 ≤ c.n ∧ c.n ≤ 120 ∧ c.s.size ≤ 120 := by
  rw [Jbk] at h
  unfold JgI at h
  cases h1 : (c.kd == 1 || c.kd == 3) with
  | true =>
    rw [h1, cond_true] at h
    cases h2 : (decide (c.n < 1) || (decide (c.n > 120) || !(c.s.size == 0))) with
    | true => rw [h2, cond_true] at h; exact absurd h (by decide)
    | false =>
      simp only [Bool.or_eq_false_iff, decide_eq_false_iff_not, Bool.not_eq_false', beq_iff_eq] at h2
      simp only [Bool.or_eq_true, beq_iff_eq] at h1
      omega
  | false =>
    rw [h1, cond_false] at h
    cases h3 : (c.kd == 2) with
    | false => rw [h3, cond_false] at h; exact absurd h (by decide)
    | true =>
      rw [h3, cond_true] at h
      cases h2 : (!(c.n == 0) || c.s.size == 0) with
      | true => rw [h2, cond_true] at h; exact absurd h (by decide)
      | false =>
        rw [h2, cond_false] at h
        cases h4 : decide (zi c.s.size > 120) with
        | true => rw [h4, cond_true] at h; exact absurd h (by decide)
        | false =>
          simp only [Bool.or_eq_false_iff, Bool.not_eq_false', beq_iff_eq] at h2
          simp only [zi, decide_eq_false_iff_not] at h4
          simp only [beq_iff_eq] at h3
          omega
theorem Jfl : ∀ {l : List PV}, ckL l = 0 → ∀ p ∈ l, ckC (cv p) = 0
  | [], _, p, hp => by cases hp
  | q :: r, h, p, hp => by
      simp only [ckL] at h
      cases hq : (ckC (cv q) == 0) with
      | false => rw [hq, cond_false] at h; rw [h] at hq; exact absurd hq (by decide)
      | true =>
        rw [hq, cond_true] at h
        rcases List.mem_cons.1 hp with rfl | hp
        · simpa using hq
        · exact Jfl h p hp
theorem JlG {l : List PV} (h : ckO l = 0) : l.length ≤ 40 ∧ ∀ p ∈ l, ckC (cv p) = 0 := by
  rw [JdC] at h
  unfold Jld at h
  cases hc : decide (zi l.length > 40) with
  | true => rw [hc, cond_true] at h; exact absurd h (by decide)
  | false =>
    rw [hc, cond_false] at h
    simp only [zi, decide_eq_false_iff_not] at hc
    exact ⟨by omega, Jfl h⟩
theorem QN {n : Int} (h : -1000000000000 ≤ n) (h2 : n ≤ 1000000000000) : i64B n = true := by
  unfold i64B; simp only [Bool.and_eq_true, decide_eq_true_eq]; omega
theorem Jbt {n : Int} (h : 0 ≤ n) (h2 : n < 256) : IntKind.u8.wrap n = n := by
  have := WN n; omega
theorem Jod {p : PV} (h : isCp p = true) (hc : ckC (cv p) = 0) (r : List PV) : cpV ⟨pu .u8 (Zc (cv p)) ++ r, 0⟩ = p ∧ cpN ⟨pu .u8 (Zc (cv p)) ++ r, 0⟩ = ⟨r, 0⟩ := by
  obtain ⟨kd, n, s, rfl⟩ := VX.1 h
  have hz := JlF hc
  have hcv : cv (.st 99 [.sc (.int .i64 kd), .sc (.int .i64 n), .sc (.string s)]) = ⟨kd, n, s⟩ := rfl
  rw [hcv] at hz ⊢
  simp only at hz
  have e1 : pu .u8 (Zc ⟨kd, n, s⟩) ++ r = pu .u8 [IntKind.u8.wrap kd] ++ (pu .u8 (J4 n) ++ (pu .u8 (Qf s) ++ r)) := by
    simp only [Zc, JO, List.append_assoc]
  obtain ⟨t1, t2⟩ := Jh5 (t := s) (by omega) r
  rw [e1]
  unfold cpV cpN
  rw [Jbd, Zv, XY (QN (by omega) (by omega)), QE, t1, t2, Jbt (by omega) (by omega)]
  exact ⟨rfl, rfl⟩
theorem Jfm : ∀ (l : List PV) (r : List PV), l.all isCp = true → (∀ p ∈ l, ckC (cv p) = 0) → cpL l.length ⟨pu .u8 (J9 l) ++ r, 0⟩ = l ∧ cpR l.length ⟨pu .u8 (J9 l) ++ r, 0⟩ = ⟨r, 0⟩
  | [], r, _, _ => ⟨rfl, by simp [J9, cpR]⟩
  | p :: l, r, h, hc => by
      rw [List.all_cons, Bool.and_eq_true] at h
      have e : pu .u8 (J9 (p :: l)) ++ r = pu .u8 (Zc (cv p)) ++ (pu .u8 (J9 l) ++ r) := by
        simp only [J9, List.flatMap_cons, JO, List.append_assoc]
      obtain ⟨a, b⟩ := Jod h.1 (hc p List.mem_cons_self) (pu .u8 (J9 l) ++ r)
      obtain ⟨c, d⟩ := Jfm l r h.2 fun q hq => hc q (List.mem_cons_of_mem _ hq)
      rw [e, List.length_cons, cpL, cpR, a, b, c, d]
      exact ⟨rfl, rfl⟩
theorem Joe {l : List PV} (h : l.all isCp = true) (hc : ckO l = 0) : opE (pu .u8 (opB l)) = 0 ∧ opL (pu .u8 (opB l)) = l := by
  obtain ⟨h1, h2⟩ := JlG hc
  have e : pu .u8 (opB l) = pu .u8 [IntKind.u8.wrap (zi l.length)] ++ (pu .u8 (J9 l) ++ []) := by
    rw [Gx, Jjl]; simp only [JO, List.append_nil]
  have hw : IntKind.u8.wrap (zi l.length) = (l.length : Int) := Jbt (by simp only [zi]; omega) (by simp only [zi]; omega)
  have hn : Jz 1 ⟨pu .u8 (opB l), 0⟩ = (l.length : Int) := by rw [e, Jbd, hw]
  have hs : Jb 1 ⟨pu .u8 (opB l), 0⟩ = ⟨pu .u8 (J9 l) ++ [], 0⟩ := by rw [e, Zv]
  have hd : decide ((l.length : Int) > 40) = false := by simp; omega
  have hN : opN (pu .u8 (opB l)) = l.length := by unfold opN; rw [hn, hd, cond_false, Int.toNat_natCast]
  have hS : opS (pu .u8 (opB l)) = ⟨pu .u8 (J9 l) ++ [], 0⟩ := by unfold opS; rw [hn, hd, cond_false, hs]
  obtain ⟨a, b⟩ := Jfm l [] h h2
  have hE : V1 (pu .u8 (opB l)) = 0 := by unfold V1; rw [hN, hS, a, b, hc]; rfl
  rw [JgR, JdL, hE, hN, hS, a]
  exact ⟨rfl, rfl⟩
theorem Jfn {d : DV} (h : dCk d = 0) : (0 ≤ d.ad ∧ d.ad ≤ 2) ∧ (0 ≤ d.au ∧ d.au ≤ 7) ∧ (0 ≤ d.id ∧ d.id ≤ 1073741824) ∧ (0 ≤ d.ve ∧ d.ve ≤ 1048576) ∧ (1 ≤ d.kd ∧ d.kd ≤ 3) ∧ ckO d.o = 0 ∧ (0 ≤ d.wd ∧ d.wd ≤ 2) ∧ (0 ≤ d.wu ∧ d.wu ≤ 7) := by
  have hnil : ckO [] = 0 := by rw [JdC]; rfl
  rw [Jbr] at h
  unfold Jjn at h
  cases h1 : (inZ d.ad 2 && (inZ d.au 7 && (inZ d.id 1073741824 && inZ d.ve 1048576))) with
  | false => rw [h1, cond_false] at h; exact absurd h (by decide)
  | true =>
    rw [h1, cond_true] at h
    simp only [V2, Bool.and_eq_true, decide_eq_true_eq] at h1
    cases hk : (d.kd == 1) with
    | true =>
      rw [hk, cond_true] at h
      cases hc : (ckO d.o == 0) with
      | false => rw [hc, cond_false] at h; rw [h] at hc; exact absurd hc (by decide)
      | true =>
        rw [hc, cond_true] at h
        cases hw : (d.wd == 0 && d.wu == 0) with
        | false => rw [hw, cond_false] at h; exact absurd h (by decide)
        | true =>
          simp only [Bool.and_eq_true, beq_iff_eq] at hw hk hc
          refine ⟨by omega, by omega, by omega, by omega, by omega, hc, by omega, by omega⟩
    | false =>
      rw [hk, cond_false] at h
      cases hk2 : (d.kd == 2 || d.kd == 3) with
      | false => rw [hk2, cond_false] at h; exact absurd h (by decide)
      | true =>
        rw [hk2, cond_true] at h
        cases hw : (d.o.isEmpty && (inZ d.wd 2 && inZ d.wu 7)) with
        | false => rw [hw, cond_false] at h; exact absurd h (by decide)
        | true =>
          simp only [Bool.and_eq_true, Bool.or_eq_true, beq_iff_eq, V2, decide_eq_true_eq, List.isEmpty_iff] at hw hk2
          refine ⟨by omega, by omega, by omega, by omega, by omega, by rw [hw.1]; exact hnil, by omega, by omega⟩
theorem Jg1 {d : DV} (ho : dOk d = true) (hb : byB d.h = true) (hc : dCk d = 0) :
    dE (pu .u8 (dlB d)) = 0 ∧ dv (pu .u8 (dlB d)) = d := by
  obtain ⟨o1, o2, o3, o4⟩ := WC.1 ho
  obtain ⟨c1, c2, c3, c4, c5, c6, c7, c8⟩ := Jfn hc
  have hcp : d.o.all isCp = true := (Zy.1 o3).1
  obtain ⟨q1, q2⟩ := Joe hcp c6
  have hbI : ∀ x ∈ Jf d.h, 0 ≤ x ∧ x < 256 := (Q9.1 hb).2
  have hl : (Jf d.h).length = 32 := by rw [QS]; exact o2
  have e : pu .u8 (dlB d) = pu .u8 (J4 d.ad) ++ (pu .u8 (J4 d.au) ++ (pu .u8 (J4 d.id) ++ (pu .u8 (J4 d.ve) ++ (pu .u8 (Jf d.h) ++ (pu .u8 [IntKind.u8.wrap d.kd] ++ (pu .u8 (Qf (tx (pu .u8 (opB d.o)))) ++ (pu .u8 (J4 d.wd) ++ (pu .u8 (J4 d.wu) ++ [])))))))) := by
    rw [JdH, Jjm]; simp only [JO, List.append_assoc, List.append_nil]
  generalize hB : pu .u8 (dlB d) = B at *
  have n1 : Jz 8 ⟨B, 0⟩ = d.ad := by rw [e]; exact XY (QN (by omega) (by omega)) _
  have s1 : Jb 8 ⟨B, 0⟩ = ⟨pu .u8 (J4 d.au) ++ (pu .u8 (J4 d.id) ++ (pu .u8 (J4 d.ve) ++ (pu .u8 (Jf d.h) ++ (pu .u8 [IntKind.u8.wrap d.kd] ++ (pu .u8 (Qf (tx (pu .u8 (opB d.o)))) ++ (pu .u8 (J4 d.wd) ++ (pu .u8 (J4 d.wu) ++ []))))))), 0⟩ := by rw [e]; exact QE _ _
  obtain ⟨r1, r2⟩ := JkS (Jf d.h) (pu .u8 [IntKind.u8.wrap d.kd] ++ (pu .u8 (Qf (tx (pu .u8 (opB d.o)))) ++ (pu .u8 (J4 d.wd) ++ (pu .u8 (J4 d.wu) ++ [])))) hbI
  rw [hl] at r1 r2
  have hd4 : d4 B = ⟨pu .u8 (Jf d.h) ++ (pu .u8 [IntKind.u8.wrap d.kd] ++ (pu .u8 (Qf (tx (pu .u8 (opB d.o)))) ++ (pu .u8 (J4 d.wd) ++ (pu .u8 (J4 d.wu) ++ [])))), 0⟩ := by
    unfold d4; rw [s1, QE, QE, QE]
  have hd5 : d5 B = ⟨pu .u8 [IntKind.u8.wrap d.kd] ++ (pu .u8 (Qf (tx (pu .u8 (opB d.o)))) ++ (pu .u8 (J4 d.wd) ++ (pu .u8 (J4 d.wu) ++ []))), 0⟩ := by
    unfold d5; rw [hd4, hashS_eq]; exact r1
  have hV : hashV (d4 B) = Jf d.h := by rw [hd4, hashV_eq]; exact r2
  obtain ⟨t1, t2⟩ := Jh5 (t := tx (pu .u8 (opB d.o))) (by rw [WB, JI]; exact o4) (pu .u8 (J4 d.wd) ++ (pu .u8 (J4 d.wu) ++ []))
  have hd7 : d7 B = ⟨pu .u8 (J4 d.wd) ++ (pu .u8 (J4 d.wu) ++ []), 0⟩ := by unfold d7; rw [hd5, Zv, t2]
  have hd9 : d9 B = ⟨[], 0⟩ := by unfold d9; rw [hd7, QE, QE]
  have hdt : dt B = pu .u8 (opB d.o) := by
    unfold dt; rw [hd5, Zv, t1]
    exact Jni _ (JjX.2 (Jsz d.o))
  have hdv : dv B = d := by
    have h0 : dv B = ⟨Jz 8 ⟨B, 0⟩, Jz 8 (Jb 8 ⟨B, 0⟩), Jz 8 (Jb 8 (Jb 8 ⟨B, 0⟩)), Jz 8 (Jb 8 (Jb 8 (Jb 8 ⟨B, 0⟩))), pu .u8 (hashV (d4 B)), Jz 1 (d5 B), opL (dt B), Jz 8 (d7 B), Jz 8 (Jb 8 (d7 B))⟩ := rfl
    rw [h0, n1, s1, XY (QN (by omega) (by omega)), QE, XY (QN (by omega) (by omega)), QE, XY (QN (by omega) (by omega)), hV, hd5, Jbd, hdt, q2, hd7, XY (QN (by omega) (by omega)), QE, XY (QN (by omega) (by omega)), Jbt (by omega) (by omega), ← Qb o1]
  refine ⟨?_, hdv⟩
  rw [Jfi]
  unfold dE0
  rw [hd9, hdt, q1, hdv, hc]; rfl
theorem Jbu {b : List PV} {d : DV} (h : dE b = 0) (hv : dv b = d) (h1 : Je .u8 d.h = true) :
    dF 0 b = d.ad ∧ dF 1 b = d.au ∧ dF 2 b = d.id ∧ dF 3 b = d.ve ∧ dF 4 b = d.kd ∧ dF 5 b = d.wd ∧ dF 6 b = d.wu ∧ pu .u8 (dH b) = d.h ∧ dO b = d.o := by
  have h0 : dE0 b = 0 := by rw [← Jfi]; exact h
  have a : ∀ i, dF i b = dN b i := fun i => by rw [JiE, h0]; rfl
  have hh : pu .u8 (dH b) = (dv b).h := by rw [Jlw, h0]; rfl
  have ho : dO b = (dv b).o := by rw [Jlx, h0]; rfl
  refine ⟨?_, ?_, ?_, ?_, ?_, ?_, ?_, ?_, ?_⟩
  · rw [a, ← hv]; rfl
  · rw [a, ← hv]; rfl
  · rw [a, ← hv]; rfl
  · rw [a, ← hv]; rfl
  · rw [a, ← hv]; rfl
  · rw [a, ← hv]; rfl
  · rw [a, ← hv]; rfl
  · rw [hh, hv]
  · rw [ho, hv]
def Js0 {α : Type} (n : Nat) (k : Nat → α) : α := Nat.rec (k 0) (fun m _ => k (m + 1)) n
theorem Jof {α : Type} (n : Nat) (k : Nat → α) : Js0 n k = k n := by cases n <;> rfl
def Jog {α : Type} (x : Int) (k : Int → α) : α := match x with
  | .ofNat n => Js0 n fun n => k (.ofNat n)
  | .negSucc n => Js0 n fun n => k (.negSucc n)
theorem JiH {α : Type} (x : Int) (k : Int → α) : Jog x k = k x := by cases x <;> simp only [Jog, Jof]
def Jbv {α : Type} : List Int → (List Int → α) → α
  | [], k => k []
  | x :: r, k => Jog x fun x => Jbv r fun r => k (x :: r)
theorem V3 {α : Type} : ∀ (l : List Int) (k : List Int → α), Jbv l k = k l
  | [], k => rfl
  | x :: r, k => by simp only [Jbv, JiH, V3 r]
def JdU : Nat → List Int → List Int
  | 0, R => R
  | n + 1, R => Jog (JmG (R.getD 15 0) (R.getD 14 0) (R.getD 6 0) (R.getD 1 0)) fun x => JdU n (x :: R)
theorem Jaq (L : List Int) (i j : Nat) (h : i + j + 1 = L.length) : L.reverse.getD i 0 = L.getD j 0 := by
  rw [List.getD_eq_getElem?_getD, List.getD_eq_getElem?_getD, List.getElem?_reverse (by omega)]
  congr 2; omega
theorem Jcz (bs : List Int) : ∀ (n i : Nat), JdU n (Qh bs i).reverse = (Qh bs (i + n)).reverse
  | 0, i => rfl
  | n + 1, i => by
      have hl := JR bs i
      simp only [JdU, JiH]
      rw [Jaq _ 15 i (by omega), Jaq _ 14 (i + 1) (by omega), Jaq _ 6 (i + 9) (by omega), Jaq _ 1 (i + 14) (by omega)]
      have := Jcz bs n (i + 1)
      rw [Qh, List.reverse_append] at this
      rw [show i + (n + 1) = i + 1 + n from by omega, ← this]
      rfl
def JiI : List Int → List Int → List Int → List Int
  | k :: ks, w :: ws, t => Jbv (rnd k w t) fun t => JiI ks ws t
  | _, _, t => t
theorem Jfo (W s : List Int) (hW : W.length = 64) : ∀ (d i : Nat), i + d = 64 → JiI (kks.drop i) (W.drop i) (YH W s i) = YH W s 64
  | 0, i, h => by
      obtain rfl : i = 64 := by omega
      rw [List.drop_of_length_le (l := W) (by rw [hW]; exact Nat.le_refl _)]
      cases kks.drop 64 <;> rfl
  | d + 1, i, h => by
      have h1 : i < kks.length := by show i < 64; omega
      have h2 : i < W.length := by omega
      rw [List.drop_eq_getElem_cons h1, List.drop_eq_getElem_cons h2]
      simp only [JiI, V3]
      have := Jfo W s hW d (i + 1) (by omega)
      rw [← this, YH]
      simp only [List.getD_eq_getElem?_getD, List.getElem?_eq_getElem h1, List.getElem?_eq_getElem h2, Option.getD_some]
def Js1 (s bs : List Int) : List Int :=
  Jbv ((List.range 16).map (JbE bs)) fun w => Jbv (JdU 48 w.reverse).reverse fun W => Jbv (JiI kks W s) fun t => (List.range 8).map fun i => ww (t.getD i 0 + s.getD i 0)
theorem Joh (s bs : List Int) : Js1 s bs = JeL s bs := by
  simp only [Js1, V3]
  have h1 := Jcz bs 48 0
  rw [Qh, Nat.zero_add] at h1
  rw [h1, List.reverse_reverse]
  have h2 := Jfo (Qh bs 48) s (JR bs 48) 64 0 rfl
  rw [List.drop_zero, List.drop_zero, YH] at h2
  rw [h2]; rfl
def JiJ (b : List Int) : Nat → List Int → List Int → List Int
  | 0, s, _ => s
  | n + 1, s, b' => Jbv (Js1 s (b'.take 64)) fun s => JiJ b n s (b'.drop 64)
theorem Jfp (b : List Int) : ∀ (n i : Nat) , JiJ b n (QX iv b i) (b.drop (64 * i)) = QX iv b (i + n)
  | 0, i => rfl
  | n + 1, i => by
      simp only [JiJ, V3, Joh, List.drop_drop]
      have := Jfp b n (i + 1)
      rw [QX, show 64 * (i + 1) = 64 * i + 64 from by omega] at this
      rw [this, show i + 1 + n = i + (n + 1) from by omega]
def JxX (bs : List Int) (n : Nat) : List Int := Jbv (Qo bs) fun P => Jbv (JiJ P n iv P) fun s => Jbv (Jje s) fun r => r
theorem JiK (bs : List Int) : JxX bs ((Qo bs).length / 64) = Jy bs := by
  rw [Jam]
  simp only [JxX, V3]
  have := Jfp (Qo bs) ((Qo bs).length / 64) 0
  rw [QX, Nat.mul_zero, List.drop_zero, Nat.zero_add] at this
  rw [this]; rfl
-- FN law9.known
def Js2 : List Int := [222, 87, 173, 32, 103, 237, 148, 204, 175, 52, 179, 142, 217, 35, 16, 25, 63, 14, 57, 74, 190, 160, 150, 87, 13, 59, 41, 224, 246, 97, 92, 43]
def JlH : List Int := [153, 23, 23, 68, 172, 113, 210, 173, 109, 178, 123, 198, 8, 243, 9, 87, 51, 187, 213, 49, 242, 44, 37, 15, 107, 179, 98, 137, 48, 46, 217, 95]
def k9L : List Int := [0, 0, 0, 0, 0, 0, 0, 0, 0, 0, 0, 0, 0, 0, 0, 0, 0, 0, 0, 0, 0, 0, 0, 0, 0, 0, 0, 0, 0, 0, 0, 0, 0, 0, 0, 0, 0, 0, 0, 0, 0, 0, 1, 0, 0, 0, 0, 0, 0, 0, 0, 0, 0, 0, 0, 0, 0, 0, 0, 0, 0, 0, 0, 0, 0, 0, 0, 0, 0, 0, 0, 0, 0, 0, 0, 0, 0]
theorem JxY : Jy ([93, 6, 54, 54, 54, 54, 54, 54, 54, 54, 54, 54, 54, 54, 54, 54, 54, 54, 54, 54, 54, 54, 54, 54, 54, 54, 54, 54, 54, 54, 54, 54, 54, 54, 54, 54, 54, 54, 54, 54, 54, 54, 54, 54, 54, 54, 54, 54, 54, 54, 54, 54, 54, 54, 54, 54, 54, 54, 54, 54, 54, 54, 54, 54] ++ k9L) = Js2 := (JiK ([93, 6, 54, 54, 54, 54, 54, 54, 54, 54, 54, 54, 54, 54, 54, 54, 54, 54, 54, 54, 54, 54, 54, 54, 54, 54, 54, 54, 54, 54, 54, 54, 54, 54, 54, 54, 54, 54, 54, 54, 54, 54, 54, 54, 54, 54, 54, 54, 54, 54, 54, 54, 54, 54, 54, 54, 54, 54, 54, 54, 54, 54, 54, 54] ++ k9L)).symm.trans (by kernel_rfl)
theorem Js3 : Jy ([55, 108, 92, 92, 92, 92, 92, 92, 92, 92, 92, 92, 92, 92, 92, 92, 92, 92, 92, 92, 92, 92, 92, 92, 92, 92, 92, 92, 92, 92, 92, 92, 92, 92, 92, 92, 92, 92, 92, 92, 92, 92, 92, 92, 92, 92, 92, 92, 92, 92, 92, 92, 92, 92, 92, 92, 92, 92, 92, 92, 92, 92, 92, 92] ++ Js2) = JlH := (JiK ([55, 108, 92, 92, 92, 92, 92, 92, 92, 92, 92, 92, 92, 92, 92, 92, 92, 92, 92, 92, 92, 92, 92, 92, 92, 92, 92, 92, 92, 92, 92, 92, 92, 92, 92, 92, 92, 92, 92, 92, 92, 92, 92, 92, 92, 92, 92, 92, 92, 92, 92, 92, 92, 92, 92, 92, 92, 92, 92, 92, 92, 92, 92, 92] ++ Js2)).symm.trans (by kernel_rfl)
theorem Js4 : Qw [107, 48] k9L = JlH := by
  have hk : VF [107, 48] = [107, 48] ++ List.replicate 62 0 := by simp [VF, Jji]
  rw [Jao, JeY, hk]
  rw [show JQ ([107, 48] ++ List.replicate 62 0) 54 = [93, 6, 54, 54, 54, 54, 54, 54, 54, 54, 54, 54, 54, 54, 54, 54, 54, 54, 54, 54, 54, 54, 54, 54, 54, 54, 54, 54, 54, 54, 54, 54, 54, 54, 54, 54, 54, 54, 54, 54, 54, 54, 54, 54, 54, 54, 54, 54, 54, 54, 54, 54, 54, 54, 54, 54, 54, 54, 54, 54, 54, 54, 54, 54] from by decide, show JQ ([107, 48] ++ List.replicate 62 0) 92 = [55, 108, 92, 92, 92, 92, 92, 92, 92, 92, 92, 92, 92, 92, 92, 92, 92, 92, 92, 92, 92, 92, 92, 92, 92, 92, 92, 92, 92, 92, 92, 92, 92, 92, 92, 92, 92, 92, 92, 92, 92, 92, 92, 92, 92, 92, 92, 92, 92, 92, 92, 92, 92, 92, 92, 92, 92, 92, 92, 92, 92, 92, 92, 92] from by decide, JxY, Js3]
noncomputable def z32 : List PV := List.replicate 32 (.sc (.int .u8 0))
noncomputable def k9 : List PV := [.ro 5 false false (kb 0 []), .ro 5 false false (kb 1 []), .ro 5 false false (kb 2 [])]
theorem Jg2 : kO3 k9 = true := JdR.2 ⟨Jh6 0 rfl, Jh6 1 rfl, Jh6 2 rfl⟩
noncomputable def d9v : DV := ⟨0, 0, 0, 0, z32, 2, [], 0, 0⟩
theorem JdV : opB [] = [0] := by rw [Gx]; rfl
theorem h32_z32 : h32 z32 = true := h32_iff.2 ⟨rfl, rfl⟩
theorem JdW : dOk d9v = true := WC.2 ⟨rfl, rfl, Zy.2 ⟨rfl, fun p hp => (by cases hp), by decide⟩, by show (opB []).length ≤ _; rw [JdV]; decide⟩
theorem JlI : dCk d9v = 0 := by rw [Jbr]; rfl
theorem JxZ : eOk ⟨[], z32, 0, []⟩ = true := VZ.2 ⟨rfl, by decide, rfl, rfl, Zy.2 ⟨rfl, fun p hp => (by cases hp), by decide⟩, by show (opB []).length ≤ _; rw [JdV]; decide⟩
theorem Jx0 : Wn ⟨[], z32, 0, []⟩ ++ Jf z32 = k9L := by
  rw [Jbp, Jbo]
  show Qf (tx []) ++ (Jf z32 ++ (J4 0 ++ Qf (tx (pu .u8 (opB []))))) ++ Jf z32 = _
  rw [JdV, QY, QY, Wa]
  unfold XW
  rw [Jbc, Jbc]
  rfl
theorem JlJ (d : DV) (h : byB d.h = true := by rfl) : byB (pu .u8 (dlB d)) = true := by
  rw [JjX]
  intro x hx
  rw [JdH] at hx
  simp only [Jjm, List.mem_append, List.mem_singleton] at hx
  rcases hx with h1 | h1 | h1 | h1 | h1 | h1 | h1 | h1 | h1
  · exact XX _ x h1
  · exact XX _ x h1
  · exact XX _ x h1
  · exact XX _ x h1
  · exact (Q9.1 h).2 x h1
  · rw [h1]; exact Zu _
  · exact JeZ _ x h1
  · exact XX _ x h1
  · exact XX _ x h1
theorem Jx1 {l : List PV} {d : DV} (ho : dOk d = true) (hb : byB d.h = true) (hc : dCk d = 0) : ZD ⟨l, pu .u8 (dlB d), pu .u8 (mcK ⟨l, d.ad, dlB d⟩)⟩ = 0 := by
  obtain ⟨t1, t2⟩ := Jg1 ho hb hc
  obtain ⟨f0, f1, f2, f3, f4, f5, f6, f7, f8⟩ := Jbu t1 t2 (WC.1 ho).1
  have hk : kIn d.ad = true := by rw [JdJ]; have := (Jfn hc).1; simp only [QL, Bool.and_eq_true, decide_eq_true_eq]; omega
  unfold ZD
  simp only [t1, f0, hk, Qv, beq_self_eq_true, Bool.and_self, cond_true]
theorem JAr : emC ⟨k9, 0, ⟨[], z32, 0, []⟩, z32, z32⟩ = false := by
  rw [JlB, JgV, GA]
  simp only [Jx0]
  have hk : QD ⟨k9, 0⟩ = pu .u8 [107, 48] := by
    rw [Jan]; show kb 0 [] = _; rw [JkT]; rfl
  rw [hk, Qv, Js4]
  rw [show (JlH == Jf z32) = false from by decide, Bool.and_false]
noncomputable def Jg3 : List PV → List Ent → (Res → Option Res) → Option Res
  | [], [], k => k ⟨.sc (.bool true), [], []⟩
  | _, _, _ => none
noncomputable def Jx2 : Sig := { own := [], run := Jg3 }
theorem Jx3 : Jh tau Try.prog 42 Jx2 := JAq.of fun xs es k res hr => by
  change Jg3 xs es k = some res at hr
  unfold Jg3 at hr
  split at hr
  · refine Eq.trans ?_ hr
    show g42 0 _ = _
    unfold g42
    have hz : [PV.sc (Value.int IntKind.u8 0), PV.sc (Value.int IntKind.u8 0), PV.sc (Value.int IntKind.u8 0), PV.sc (Value.int IntKind.u8 0), PV.sc (Value.int IntKind.u8 0), PV.sc (Value.int IntKind.u8 0), PV.sc (Value.int IntKind.u8 0), PV.sc (Value.int IntKind.u8 0), PV.sc (Value.int IntKind.u8 0), PV.sc (Value.int IntKind.u8 0), PV.sc (Value.int IntKind.u8 0), PV.sc (Value.int IntKind.u8 0), PV.sc (Value.int IntKind.u8 0), PV.sc (Value.int IntKind.u8 0), PV.sc (Value.int IntKind.u8 0), PV.sc (Value.int IntKind.u8 0), PV.sc (Value.int IntKind.u8 0), PV.sc (Value.int IntKind.u8 0), PV.sc (Value.int IntKind.u8 0), PV.sc (Value.int IntKind.u8 0), PV.sc (Value.int IntKind.u8 0), PV.sc (Value.int IntKind.u8 0), PV.sc (Value.int IntKind.u8 0), PV.sc (Value.int IntKind.u8 0), PV.sc (Value.int IntKind.u8 0), PV.sc (Value.int IntKind.u8 0), PV.sc (Value.int IntKind.u8 0), PV.sc (Value.int IntKind.u8 0), PV.sc (Value.int IntKind.u8 0), PV.sc (Value.int IntKind.u8 0), PV.sc (Value.int IntKind.u8 0), PV.sc (Value.int IntKind.u8 0)] = z32 := rfl
    have hk : [PV.ro 5 false false (kb 0 []), .ro 5 false false (kb 1 []), .ro 5 false false (kb 2 [])] = k9 := rfl
    have hd : DV.mk 0 0 0 0 z32 2 [] 0 0 = d9v := rfl
    simp only [hz, hk, hd]
    have hs := Jx1 (l := k9) JdW rfl JlI
    have had : d9v.ad = 0 := rfl
    rw [had] at hs
    have hsE : soE ⟨k9, pu .u8 (dlB d9v), pu .u8 (mcK ⟨k9, 0, dlB d9v⟩)⟩ = 0 := by rw [JdS, hs]
    have hsF : soF 4 ⟨k9, pu .u8 (dlB d9v), pu .u8 (mcK ⟨k9, 0, dlB d9v⟩)⟩ = 2 := by
      rw [JgX, hs]
      show dF 4 (pu .u8 (dlB d9v)) = 2
      obtain ⟨t1, t2⟩ := Jg1 JdW rfl JlI
      exact (Jbu t1 t2 rfl).2.2.2.2.1
    have hby : byB (pu .u8 (dlB d9v)) = true := JlJ _
    have hsl : slB false (pu .u8 (dlB d9v)) = true := Q8.2 ⟨fun h => (by cases h), by rw [JI]; have := GB JdW; omega⟩
    have hmk : h32 (pu .u8 (mcK ⟨k9, 0, dlB d9v⟩)) = true := h32_iff.2 ⟨JV _ _, by rw [JI]; exact Yf _⟩
    rw [hsE, hsF, JAr]
    refine (Ja (by rw [JdW, Jg2]; rfl)).trans ((Ja (by rw [hsl, hby, hmk, Jg2]; rfl)).trans ((Ja rfl).trans ((Ja rfl).trans ((Ja (by rw [JxZ, h32_z32, Jg2]; rfl)).trans rfl))))
  · cases hr
noncomputable def F43 : Fns := JG 99 JwZ (F0)
theorem Js5 : Jx tau Try.prog F43 := (JE).add Jw0 JzV
def Joi : An := (.seq .leaf (.seq .leaf .leaf))
noncomputable def g43 (f : Nat) (d_Author_D : Int) (d_Author_U : Int) (d_Id : Int) (d_Version : Int) (d_Hash : List
  PV) (d_Kind : Int) (d_Op_z : Bool) (d_Op_f : Bool) (d_Op : List PV) (d_Who_D : Int) (d_Who_U : Int) (k : Res → Option Res) : Option Res :=
  bif cOk d_Op then
    k (Res.mk (PV.sc (Value.bool (JgJ d_Op))) [] [])
  else none
theorem e43 (f : Nat) (d_Author_D : Int) (d_Author_U : Int) (d_Id : Int) (d_Version : Int) (d_Hash : List PV) (d_Kind : Int) (d_Op_z : Bool) (d_Op_f : Bool) (d_Op : List PV) (d_Who_D : Int) (d_Who_U : Int) (k : Res → Option Res) : JM tau F43 Try.f43 (Try.f43.body.get!) Joi [.ro] 0 [.st 73 [.st 45 [.sc (.int .i64 d_Author_D), .sc (.int .i64 d_Author_U)], .sc (.int .i64 d_Id), .sc (.int .i64 d_Version), .ar 37 d_Hash, .sc (.int .i64 d_Kind), .ro 99 d_Op_z d_Op_f d_Op, .st 45 [.sc (.int .i64 d_Who_D), .sc (.int .i64 d_Who_U)]]] [] k = g43 f d_Author_D d_Author_U d_Id d_Version d_Hash d_Kind d_Op_z d_Op_f d_Op d_Who_D d_Who_U k := by kernel_rfl
theorem JAs (f : Nat) : Jg (Try.f43.body.get!) Joi = [] := by kernel_rfl
theorem JAt (f : Nat) : ∀ q ∈ Jg (Try.f43.body.get!) Joi, q.Ok tau Try.prog 0 := by
  rw [JAs f]; intro q hq; cases hq
theorem Jx4 : Try.prog.funcs[43]? = some Try.f43 := by kernel_rfl
theorem Jx5 : Try.f43.body = some (Try.f43.body.get!) := by kernel_rfl
theorem JAu : Enters Try.prog 43 := enters_of Jx4 (by kernel_rfl) Jx5
noncomputable def JlK : List PV → List Ent → (Res → Option Res) → Option Res
  | [.st 73 [.st 45 [.sc (.int .i64 d_Author_D), .sc (.int .i64 d_Author_U)], .sc (.int .i64 d_Id), .sc (.int .i64 d_Version), .ar 37 d_Hash, .sc (.int .i64 d_Kind), .ro 99 d_Op_z d_Op_f d_Op, .st 45 [.sc (.int .i64 d_Who_D), .sc (.int .i64 d_Who_U)]]], [], k => g43 0 d_Author_D d_Author_U d_Id d_Version d_Hash d_Kind d_Op_z d_Op_f d_Op d_Who_D d_Who_U k
  | _, _, _ => none
noncomputable def s43 : Sig := { own := [], run := JlK }
theorem JAv : Jh tau Try.prog 43 s43 := JY Jq Js5 Jr Jx4 Jx5 Joi [.ro] 0 [] JlK (JAt 0) fun xs es k res hr => by
  unfold JlK at hr
  split at hr
  · exact ⟨rfl, 0, (e43 0 _ _ _ _ _ _ _ _ _ _ _  _).trans hr⟩
  · cases hr
noncomputable def Jx6 : Fns := F0
theorem Joj : Jx tau Try.prog Jx6 := JE
def JiL : An := (.seq .leaf (.seq .leaf (.seq (.seq .leaf (.cond .leaf .leaf)) (.seq .leaf .leaf))))
noncomputable def Jok (f : Nat) (at1 : Int) (n : Int) (k : Res → Option Res) : Option Res :=
  bif !decide (n = 0) && true then
    bif decide (at1.tmod n < 0) then
      k (Res.mk (PV.sc (Value.int IntKind.i64 (IntKind.i64.wrap (at1.tmod n + n)))) [] [])
    else k (Res.mk (PV.sc (Value.int IntKind.i64 (at1.tmod n))) [] [])
  else none
theorem JAw (f : Nat) (at1 : Int) (n : Int) (k : Res → Option Res) : JM tau Jx6 Try.f112 (Try.f112.body.get!) JiL [.ro] 0 [.sc (.int .i64 at1), .sc (.int .i64 n)] [] k = Jok f at1 n k := by kernel_rfl
theorem Jx7 (f : Nat) : Jg (Try.f112.body.get!) JiL = [] := by kernel_rfl
theorem Jx8 (f : Nat) : ∀ q ∈ Jg (Try.f112.body.get!) JiL, q.Ok tau Try.prog 0 := by
  rw [Jx7 f]; intro q hq; cases hq
theorem Jqy : Try.prog.funcs[112]? = some Try.f112 := by kernel_rfl
theorem Jqz : Try.f112.body = some (Try.f112.body.get!) := by kernel_rfl
theorem Jx9 : Enters Try.prog 112 := enters_of Jqy (by kernel_rfl) Jqz
noncomputable def Jg4 : List PV → List Ent → (Res → Option Res) → Option Res
  | [.sc (.int .i64 at1), .sc (.int .i64 n)], [], k => Jok 0 at1 n k
  | _, _, _ => none
noncomputable def JAx : Sig := { own := [], run := Jg4 }
theorem Jya : Jh tau Try.prog 112 JAx := JY Jq Joj Jr Jqy Jqz JiL [.ro] 0 [] Jg4 (Jx8 0) fun xs es k res hr => by
  unfold Jg4 at hr
  split at hr
  · exact ⟨rfl, 0, (JAw 0 _ _  _).trans hr⟩
  · cases hr
-- FN law4.within
noncomputable def JdX : List PV → List Ent → (Res → Option Res) → Option Res
  | [.sc (.int .i64 a), .sc (.int .i64 n)], [], k => bif okW n then k ⟨.sc (.int .i64 (a % n)), [], []⟩ else none
  | _, _, _ => none
noncomputable def JqA : Sig := { own := [], run := JdX }
theorem Jol (a n : Int) (h : 0 < n) (h2 : n < 1000000000000) (k : Res → Option Res) : Jok 0 a n k = k ⟨.sc (.int .i64 (a % n)), [], []⟩ := by
  have hn : (n == 0) = false := by simp; omega
  have e := Int.tmod_eq_emod (a := a) (b := n)
  have e0 := Int.emod_nonneg a (show n ≠ 0 by omega)
  have e1 := Int.emod_lt_of_pos a h
  have hna : (n.natAbs : Int) = n := by omega
  unfold Jok
  refine (Ja (by simp; omega)).trans ?_
  by_cases hc : a.tmod n < 0
  · refine (Ja (by simpa using hc)).trans ?_
    have : IntKind.i64.wrap (a.tmod n + n) = a % n := by
      split at e <;> (rw [wrap_i64 (by omega) (by omega)]; omega)
    rw [this]
  · refine (JA (by simpa using hc)).trans ?_
    have : a.tmod n = a % n := by split at e <;> omega
    rw [this]
theorem Js6 : Jh tau Try.prog 112 JqA := Jya.of fun xs es k res hr => by
  change JdX xs es k = some res at hr
  unfold JdX at hr
  split at hr
  · obtain ⟨hc, hr⟩ := JH hr
    simp only [YB, Bool.and_eq_true, decide_eq_true_eq] at hc
    exact (Jol _ _ hc.1 hc.2 _).trans hr
  · cases hr
def N54 : Nat := 114
noncomputable def F54 : Fns := JG 112 JqA (F0)
theorem JlL : Jx tau Try.prog F54 := (JE).add Js6 Jx9
noncomputable def JcA : Code := Qs (Try.f54.body.get!) [1, 1, 1, 0, 1, 0, 0]
def Yg : Nm := [(0, .any), (1, .any), (5, .own), (6, .any), (7, .any)]
def Zg : Nm := [(0, .any), (1, .any), (5, .any), (6, .any)]
def Jfq : An := (.seq (.seq .leaf (.cond .leaf .leaf)) (.seq (.block none (.seq .leaf (.seq .leaf (.block none (.seq (.seq .leaf (.cond .leaf .leaf)) (.cond (.seq .leaf .leaf) (.seq .leaf (.cond (.seq .leaf .leaf) (.seq .leaf (.cond (.seq .leaf (.seq .leaf (.cond (.seq .leaf .leaf) .leaf))) .leaf)))))))))) .leaf))
def Jom (r0 : QZ) : An := (.seq .leaf (.seq .leaf (.seq .leaf (.seq (.seq .leaf (.block none (.sum Yg N54 r0))) (.seq (.seq .leaf (.cond .leaf .leaf)) (.seq (.seq .leaf (.cond .leaf .leaf)) (.seq .leaf .leaf)))))))
noncomputable def ZA (f : Nat) (rc : Int → Bool → Bool → List
  PV → Nat → Int → Int → Bool → List
  PV → Option Res) (k0 : Int → Bool → Bool → List
  PV → Nat → Int → Bool → List PV → Option Res) (v0 : Int) (v1 : Bool) (v2 : Bool) (v3 : List PV) (v4 : Nat) (v5 : Int) (v6 : Int) (v7 : Bool) (v8 : List PV) : Option Res :=
  bif decide (v6 < zi v3.length) then
    bif decide (v6 < 12) then
      bif decide (v0 > 0) then
        bif decide (0 ≤ v6) && decide (v6 < zi v3.length) && PV.isInt IntKind.i64 (v3.getD v6.toNat PV.top) && true then
          bif okW (J0 v0 9) then
            bif decide (0 ≤ v6) && decide (v6 < zi v3.length) && PV.isInt IntKind.i64 (v3.getD v6.toNat PV.top) && true then
              bif okW 4 then
                bif (v3.getD v6.toNat PV.top).int % 4 == 0 then
                  bif (v3.getD v6.toNat PV.top).int % 4 == 0 then
                    bif Jj (v4 + 1) 32 && true then
                      rc (IntKind.i64.wrap
                        (v0 -
                          IntKind.i64.wrap
                            (1 +
                              IntKind.i64.wrap ((v3.getD v6.toNat PV.top).int.tdiv 7) %
                                J0 v0
                                  9))) v1 v2 v3 (v4 +
                        1) v5 (IntKind.i64.wrap
                        (v6 +
                          1)) (v7 &&
                        false) (List.take v4 v8 ++
                        [PV.st 99
                            [PV.sc (Value.int IntKind.i64 1), PV.sc (Value.int IntKind.i64 (IntKind.i64.wrap (1 + IntKind.i64.wrap ((v3.getD v6.toNat PV.top).int.tdiv 7) % J0 v0 9))),
                              PV.sc (Value.string (ByteArray.mk #[]))]])
                    else none
                  else bif (v3.getD v6.toNat PV.top).int % 4 == 2 then
                    bif Jj (v4 + 1) 32 && true then
                      rc (IntKind.i64.wrap
                        (v0 -
                          IntKind.i64.wrap
                            (1 +
                              IntKind.i64.wrap ((v3.getD v6.toNat PV.top).int.tdiv 7) %
                                J0 v0
                                  9))) v1 v2 v3 (v4 +
                        1) (IntKind.i64.wrap
                        (v5 -
                          IntKind.i64.wrap
                            (1 +
                              IntKind.i64.wrap ((v3.getD v6.toNat PV.top).int.tdiv 7) %
                                J0 v0
                                  9))) (IntKind.i64.wrap
                        (v6 +
                          1)) (v7 &&
                        false) (List.take v4 v8 ++
                        [PV.st 99
                            [PV.sc (Value.int IntKind.i64 3), PV.sc (Value.int IntKind.i64 (IntKind.i64.wrap (1 + IntKind.i64.wrap ((v3.getD v6.toNat PV.top).int.tdiv 7) % J0 v0 9))),
                              PV.sc (Value.string (ByteArray.mk #[]))]])
                    else none
                  else bif (v3.getD v6.toNat PV.top).int % 4 == 3 then
                    bif decide (0 ≤ v6) && decide (v6 < zi v3.length) && PV.isInt IntKind.i64 (v3.getD v6.toNat PV.top) && true then
                      bif okW 5 then
                        bif decide (0 ≤ IntKind.i64.wrap (1 + IntKind.i64.wrap ((v3.getD v6.toNat PV.top).int.tdiv 7) % 5)) && true &&
                            decide ((IntKind.i64.wrap (1 + IntKind.i64.wrap ((v3.getD v6.toNat PV.top).int.tdiv 7) % 5)).toNat ≤ 10) &&
                          true then
                          bif decide
                            (IntKind.i64.wrap
                                (v5 +
                                  zi
                                    ((ByteArray.mk (Array.mk (u8l [97, 98, 99, 100, 101, 102, 103, 104, 105, 106]))).extract 0
                                        (IntKind.i64.wrap (1 + IntKind.i64.wrap ((v3.getD v6.toNat PV.top).int.tdiv 7) % 5)).toNat).size) ≤
                              120) then
                            bif Jj (v4 + 1) 32 && true then
                              rc v0 v1 v2 v3 (v4 +
                                1) (IntKind.i64.wrap
                                (v5 +
                                  zi
                                    ((ByteArray.mk (Array.mk (u8l [97, 98, 99, 100, 101, 102, 103, 104, 105, 106]))).extract 0
                                        (IntKind.i64.wrap
                                            (1 +
                                              IntKind.i64.wrap ((v3.getD v6.toNat PV.top).int.tdiv 7) %
                                                5)).toNat).size)) (IntKind.i64.wrap
                                (v6 +
                                  1)) (v7 &&
                                false) (List.take v4 v8 ++
                                [PV.st 99
                                    [PV.sc (Value.int IntKind.i64 2), PV.sc (Value.int IntKind.i64 0),
                                      PV.sc
                                        (Value.string
                                          ((ByteArray.mk (Array.mk (u8l [97, 98, 99, 100, 101, 102, 103, 104, 105, 106]))).extract 0
                                            (IntKind.i64.wrap (1 + IntKind.i64.wrap ((v3.getD v6.toNat PV.top).int.tdiv 7) % 5)).toNat))]])
                            else none
                          else rc v0 v1 v2 v3 v4 v5 (IntKind.i64.wrap (v6 + 1)) v7 v8
                        else none
                      else none
                    else none
                  else rc v0 v1 v2 v3 v4 v5 (IntKind.i64.wrap (v6 + 1)) v7 v8
                else bif (v3.getD v6.toNat PV.top).int % 4 == 1 then
                  bif Jj (v4 + 1) 32 && true then
                    rc (IntKind.i64.wrap
                      (v0 -
                        IntKind.i64.wrap
                          (1 +
                            IntKind.i64.wrap ((v3.getD v6.toNat PV.top).int.tdiv 7) %
                              J0 v0
                                9))) v1 v2 v3 (v4 +
                      1) v5 (IntKind.i64.wrap
                      (v6 +
                        1)) (v7 &&
                      false) (List.take v4 v8 ++
                      [PV.st 99
                          [PV.sc (Value.int IntKind.i64 1), PV.sc (Value.int IntKind.i64 (IntKind.i64.wrap (1 + IntKind.i64.wrap ((v3.getD v6.toNat PV.top).int.tdiv 7) % J0 v0 9))),
                            PV.sc (Value.string (ByteArray.mk #[]))]])
                  else none
                else bif (v3.getD v6.toNat PV.top).int % 4 == 2 then
                  bif Jj (v4 + 1) 32 && true then
                    rc (IntKind.i64.wrap
                      (v0 -
                        IntKind.i64.wrap
                          (1 +
                            IntKind.i64.wrap ((v3.getD v6.toNat PV.top).int.tdiv 7) %
                              J0 v0
                                9))) v1 v2 v3 (v4 +
                      1) (IntKind.i64.wrap
                      (v5 -
                        IntKind.i64.wrap
                          (1 +
                            IntKind.i64.wrap ((v3.getD v6.toNat PV.top).int.tdiv 7) %
                              J0 v0
                                9))) (IntKind.i64.wrap
                      (v6 +
                        1)) (v7 &&
                      false) (List.take v4 v8 ++
                      [PV.st 99
                          [PV.sc (Value.int IntKind.i64 3), PV.sc (Value.int IntKind.i64 (IntKind.i64.wrap (1 + IntKind.i64.wrap ((v3.getD v6.toNat PV.top).int.tdiv 7) % J0 v0 9))),
                            PV.sc (Value.string (ByteArray.mk #[]))]])
                  else none
                else bif (v3.getD v6.toNat PV.top).int % 4 == 3 then
                  bif decide (0 ≤ v6) && decide (v6 < zi v3.length) && PV.isInt IntKind.i64 (v3.getD v6.toNat PV.top) && true then
                    bif okW 5 then
                      bif decide (0 ≤ IntKind.i64.wrap (1 + IntKind.i64.wrap ((v3.getD v6.toNat PV.top).int.tdiv 7) % 5)) && true &&
                          decide ((IntKind.i64.wrap (1 + IntKind.i64.wrap ((v3.getD v6.toNat PV.top).int.tdiv 7) % 5)).toNat ≤ 10) &&
                        true then
                        bif decide
                          (IntKind.i64.wrap
                              (v5 +
                                zi
                                  ((ByteArray.mk (Array.mk (u8l [97, 98, 99, 100, 101, 102, 103, 104, 105, 106]))).extract 0
                                      (IntKind.i64.wrap (1 + IntKind.i64.wrap ((v3.getD v6.toNat PV.top).int.tdiv 7) % 5)).toNat).size) ≤
                            120) then
                          bif Jj (v4 + 1) 32 && true then
                            rc v0 v1 v2 v3 (v4 +
                              1) (IntKind.i64.wrap
                              (v5 +
                                zi
                                  ((ByteArray.mk (Array.mk (u8l [97, 98, 99, 100, 101, 102, 103, 104, 105, 106]))).extract 0
                                      (IntKind.i64.wrap
                                          (1 +
                                            IntKind.i64.wrap ((v3.getD v6.toNat PV.top).int.tdiv 7) %
                                              5)).toNat).size)) (IntKind.i64.wrap
                              (v6 +
                                1)) (v7 &&
                              false) (List.take v4 v8 ++
                              [PV.st 99
                                  [PV.sc (Value.int IntKind.i64 2), PV.sc (Value.int IntKind.i64 0),
                                    PV.sc
                                      (Value.string
                                        ((ByteArray.mk (Array.mk (u8l [97, 98, 99, 100, 101, 102, 103, 104, 105, 106]))).extract 0
                                          (IntKind.i64.wrap (1 + IntKind.i64.wrap ((v3.getD v6.toNat PV.top).int.tdiv 7) % 5)).toNat))]])
                          else none
                        else rc v0 v1 v2 v3 v4 v5 (IntKind.i64.wrap (v6 + 1)) v7 v8
                      else none
                    else none
                  else none
                else rc v0 v1 v2 v3 v4 v5 (IntKind.i64.wrap (v6 + 1)) v7 v8
              else none
            else none
          else none
        else none
      else k0 v0 v1 v2 v3 v4 v5 v7 v8
    else k0 v0 v1 v2 v3 v4 v5 v7 v8
  else k0 v0 v1 v2 v3 v4 v5 v7 v8
noncomputable def Xj (f : Nat) (k0 : Int → Bool → Bool → List PV → Nat → Int → Bool → List PV → Option Res) : Nat → Int → Bool → Bool → List PV → Nat → Int → Int → Bool → List PV → Option Res
  | 0, _, _, _, _, _, _, _, _, _ => none
  | n + 1, v0, v1, v2, v3, v4, v5, v6, v7, v8 => ZA f (Xj f k0 n) k0 v0 v1 v2 v3 v4 v5 v6 v7 v8
theorem Jon (f : Nat) (k : Kont) (n : Nat) (v0 : Int) (v1 : Bool) (v2 : Bool) (v3 : List
  PV) (v4 : Nat) (v5 : Int) (v6 : Int) (v7 : Bool) (v8 : List
  PV) : Jo tau 0 Yg (fun s k => ev tau F54 0 0 JcA (Jfq ) s k) (n + 1) (Jc Yg N54 [PV.sc (Value.int IntKind.i64 v0), PV.ro 3 v1 v2 v3, PV.ow 99 1840 [] 0 v4 none,
  PV.sc (Value.int IntKind.i64 v5),
  PV.sc
    (Value.int IntKind.i64
      v6)] [(1840,
    Ent.vec false 99 v7
      v8)]) (Jv tau 0 Zg k) = ZA f (fun v0 v1 v2 v3 v4 v5 v6 v7 v8 => Jo tau 0 Yg (fun s k => ev tau F54 0 0 JcA (Jfq ) s k) n (Jc Yg N54 [PV.sc
    (Value.int IntKind.i64 v0),
  PV.ro 3 v1 v2 v3, PV.ow 99 1840 [] 0 v4 none, PV.sc (Value.int IntKind.i64 v5),
  PV.sc
    (Value.int IntKind.i64
      v6)] [(1840,
    Ent.vec false 99 v7
      v8)]) (Jv tau 0 Zg k)) (fun x0 x1 x2 x3 x4 x5 x6 x7 => k (Ex.exit
  0) (Jc Zg N54 [PV.sc (Value.int IntKind.i64 x0), PV.ro 3 x1 x2 x3, PV.ow 99 1840 [] 0 x4 none,
  PV.sc (Value.int IntKind.i64 x5)] [(1840, Ent.vec false 99 x6 x7)])) v0 v1 v2 v3 v4 v5 v6 v7 v8 := by kernel_rfl
theorem JiM (f : Nat) (k : Kont) : ∀ (n : Nat) (v0 : Int) (v1 : Bool) (v2 : Bool) (v3 : List
  PV) (v4 : Nat) (v5 : Int) (v6 : Int) (v7 : Bool) (v8 : List
  PV), Jo tau 0 Yg (fun s k => ev tau F54 0 0 JcA (Jfq ) s k) n (Jc Yg N54 [PV.sc (Value.int IntKind.i64 v0), PV.ro 3 v1 v2 v3, PV.ow 99 1840 [] 0 v4 none,
  PV.sc (Value.int IntKind.i64 v5),
  PV.sc
    (Value.int IntKind.i64
      v6)] [(1840,
    Ent.vec false 99 v7
      v8)]) (Jv tau 0 Zg k) = Xj f (fun x0 x1 x2 x3 x4 x5 x6 x7 => k (Ex.exit
  0) (Jc Zg N54 [PV.sc (Value.int IntKind.i64 x0), PV.ro 3 x1 x2 x3, PV.ow 99 1840 [] 0 x4 none,
  PV.sc (Value.int IntKind.i64 x5)] [(1840, Ent.vec false 99 x6 x7)])) n v0 v1 v2 v3 v4 v5 v6 v7 v8
  | 0, _, _, _, _, _, _, _, _, _ => rfl
  | n + 1, v0, v1, v2, v3, v4, v5, v6, v7, v8 => (Jon f k n v0 v1 v2 v3 v4 v5 v6 v7 v8).trans (congrArg (fun r => ZA f r (fun x0 x1 x2 x3 x4 x5 x6 x7 => k (Ex.exit
  0) (Jc Zg N54 [PV.sc (Value.int IntKind.i64 x0), PV.ro 3 x1 x2 x3, PV.ow 99 1840 [] 0 x4 none,
  PV.sc (Value.int IntKind.i64 x5)] [(1840, Ent.vec false 99 x6 x7)])) v0 v1 v2 v3 v4 v5 v6 v7 v8) (by funext v0 v1 v2 v3 v4 v5 v6 v7 v8; exact JiM f k n v0 v1 v2 v3 v4 v5 v6 v7 v8))
noncomputable def Jbw (f : Nat) : List PV → List (Nat × Ent) → Kont → Option Res
  | [PV.sc (Value.int IntKind.i64 v0), PV.ro 3 v1 v2 v3, PV.ow 99 1840 [] 0 v4 none, PV.sc (Value.int IntKind.i64 v5),
  PV.sc
    (Value.int IntKind.i64
      v6)], [(1840,
    Ent.vec false 99 v7
      v8)], k => Xj f (fun x0 x1 x2 x3 x4 x5 x6 x7 => k (Ex.exit
  0) (Jc Zg N54 [PV.sc (Value.int IntKind.i64 x0), PV.ro 3 x1 x2 x3, PV.ow 99 1840 [] 0 x4 none,
  PV.sc (Value.int IntKind.i64 x5)] [(1840, Ent.vec false 99 x6 x7)])) f v0 v1 v2 v3 v4 v5 v6 v7 v8
  | _, _, _ => none
theorem Js7 (f : Nat) : Jg JcA Jfq = [] := by kernel_rfl
theorem Jyb (f : Nat) : (Item.l JcA Yg N54 (Jbw f)).Ok tau Try.prog 0 := JJ Jq JlL Jr (x := Jfq) (nm2 := Zg) (Jp _ _ (by rw [Js7 f]; intro q hq; cases hq)) fun vs hp k res hr => by
  unfold Jbw at hr
  split at hr
  · exact ⟨f, 0, (JiM f _ f _ _ _ _ _ _ _ _ _ ).trans hr⟩
  · cases hr
noncomputable def g54 (f : Nat) (n : Int) (ns_z : Bool) (ns_f : Bool) (ns : List PV) (k : Res → Option Res) : Option Res :=
  Xj f (fun x0_0 x1_0 x2_0 x3_0 x4_0 x5_0 x6_0 x7_0 =>
    bif decide (x0_0 > 0) then
      bif Jj (x4_0 + 1) 32 && true then
        bif decide (zi x3_0.length > 0) then
          bif decide (0 < zi x3_0.length) && PV.isInt IntKind.i64 (x3_0.getD 0 PV.top) && true then
            bif okW 3 then
              bif IntKind.i64.wrap ((x3_0.getD 0 PV.top).int.tdiv 3) % 3 == 0 then
                bif decide (x5_0 ≤ 115) then
                  bif Jj (x4_0 + 1 + 1) 32 && true then
                    k (Res.mk
                      (PV.ro 99
                        (Ent.vec false 99 (x6_0 && false && false)
                            (List.take (x4_0 + 1) (List.take x4_0 x7_0 ++ [PV.st 99 [PV.sc (Value.int IntKind.i64 1), PV.sc (Value.int IntKind.i64 x0_0), PV.sc (Value.string (ByteArray.mk #[]))]]) ++
                              [PV.st 99 [PV.sc (Value.int IntKind.i64 2), PV.sc (Value.int IntKind.i64 0), PV.sc (Value.string (ByteArray.mk (Array.mk (u8l [122]))))]])).nil
                        false
                        (List.take (x4_0 + 1 + 1)
                          (List.take (x4_0 + 1) (List.take x4_0 x7_0 ++ [PV.st 99 [PV.sc (Value.int IntKind.i64 1), PV.sc (Value.int IntKind.i64 x0_0), PV.sc (Value.string (ByteArray.mk #[]))]]) ++
                            [PV.st 99 [PV.sc (Value.int IntKind.i64 2), PV.sc (Value.int IntKind.i64 0), PV.sc (Value.string (ByteArray.mk (Array.mk (u8l [122]))))]])))
                      [] [])
                  else none
                else k (Res.mk
                  (PV.ro 99
                    (Ent.vec false 99 (x6_0 && false)
                        (List.take x4_0 x7_0 ++ [PV.st 99 [PV.sc (Value.int IntKind.i64 1), PV.sc (Value.int IntKind.i64 x0_0), PV.sc (Value.string (ByteArray.mk #[]))]])).nil
                    false (List.take (x4_0 + 1) (List.take x4_0 x7_0 ++ [PV.st 99 [PV.sc (Value.int IntKind.i64 1), PV.sc (Value.int IntKind.i64 x0_0), PV.sc (Value.string (ByteArray.mk #[]))]])))
                  [] [])
              else k (Res.mk
                (PV.ro 99
                  (Ent.vec false 99 (x6_0 && false)
                      (List.take x4_0 x7_0 ++ [PV.st 99 [PV.sc (Value.int IntKind.i64 1), PV.sc (Value.int IntKind.i64 x0_0), PV.sc (Value.string (ByteArray.mk #[]))]])).nil
                  false (List.take (x4_0 + 1) (List.take x4_0 x7_0 ++ [PV.st 99 [PV.sc (Value.int IntKind.i64 1), PV.sc (Value.int IntKind.i64 x0_0), PV.sc (Value.string (ByteArray.mk #[]))]])))
                [] [])
            else none
          else none
        else k (Res.mk
          (PV.ro 99
            (Ent.vec false 99 (x6_0 && false) (List.take x4_0 x7_0 ++ [PV.st 99 [PV.sc (Value.int IntKind.i64 1), PV.sc (Value.int IntKind.i64 x0_0), PV.sc (Value.string (ByteArray.mk #[]))]])).nil
            false (List.take (x4_0 + 1) (List.take x4_0 x7_0 ++ [PV.st 99 [PV.sc (Value.int IntKind.i64 1), PV.sc (Value.int IntKind.i64 x0_0), PV.sc (Value.string (ByteArray.mk #[]))]])))
          [] [])
      else none
    else bif decide (zi x3_0.length > 0) then
      bif decide (0 < zi x3_0.length) && PV.isInt IntKind.i64 (x3_0.getD 0 PV.top) && true then
        bif okW 3 then
          bif IntKind.i64.wrap ((x3_0.getD 0 PV.top).int.tdiv 3) % 3 == 0 then
            bif decide (x5_0 ≤ 115) then
              bif Jj (x4_0 + 1) 32 && true then
                k (Res.mk
                  (PV.ro 99
                    (Ent.vec false 99 (x6_0 && false)
                        (List.take x4_0 x7_0 ++ [PV.st 99 [PV.sc (Value.int IntKind.i64 2), PV.sc (Value.int IntKind.i64 0), PV.sc (Value.string (ByteArray.mk (Array.mk (u8l [122]))))]])).nil
                    false
                    (List.take (x4_0 + 1)
                      (List.take x4_0 x7_0 ++ [PV.st 99 [PV.sc (Value.int IntKind.i64 2), PV.sc (Value.int IntKind.i64 0), PV.sc (Value.string (ByteArray.mk (Array.mk (u8l [122]))))]])))
                  [] [])
              else none
            else k (Res.mk (PV.ro 99 (Ent.vec false 99 x6_0 x7_0).nil false (List.take x4_0 x7_0)) [] [])
          else k (Res.mk (PV.ro 99 (Ent.vec false 99 x6_0 x7_0).nil false (List.take x4_0 x7_0)) [] [])
        else none
      else none
    else k (Res.mk (PV.ro 99 (Ent.vec false 99 x6_0 x7_0).nil false (List.take x4_0 x7_0)) [] [])) f n ns_z ns_f ns (0) n (0) true ([])
theorem e54 (f : Nat) (n : Int) (ns_z : Bool) (ns_f : Bool) (ns : List PV) (k : Res → Option Res) : JM tau F54 Try.f54 (Try.f54.body.get!) (Jom (Jbw f)) [.ro] 0 [.sc (.int .i64 n), .ro 3 ns_z ns_f ns] [] k = g54 f n ns_z ns_f ns k := by kernel_rfl
theorem JAy (f : Nat) : Jg (Try.f54.body.get!) (Jom (Jbw f)) = [.l JcA Yg N54 (Jbw f)] := by kernel_rfl
theorem JAz (f : Nat) : ∀ q ∈ Jg (Try.f54.body.get!) (Jom (Jbw f)), q.Ok tau Try.prog 0 := by
  rw [JAy f]; simp only [List.forall_mem_cons, List.not_mem_nil, false_implies, implies_true, and_true]; exact Jyb f
theorem Jyc : Try.prog.funcs[54]? = some Try.f54 := by kernel_rfl
theorem Jyd : Try.f54.body = some (Try.f54.body.get!) := by kernel_rfl
theorem JAA : Enters Try.prog 54 := enters_of Jyc (by kernel_rfl) Jyd
-- FN
def kpP (k : Int) : PV := .st 99 [.sc (.int .i64 1), .sc (.int .i64 k), .sc (.string (ByteArray.mk #[]))]
def ctP (k : Int) : PV := .st 99 [.sc (.int .i64 3), .sc (.int .i64 k), .sc (.string (ByteArray.mk #[]))]
def ptP (s : ByteArray) : PV := .st 99 [.sc (.int .i64 2), .sc (.int .i64 0), .sc (.string s)]
def abc : ByteArray := ByteArray.mk (Array.mk [97, 98, 99, 100, 101, 102, 103, 104, 105, 106])
def zed : ByteArray := ByteArray.mk (Array.mk [122])
def JbL (k : Int) : ByteArray := abc.extract 0 k.toNat
theorem JcB {k : Int} (h : 0 ≤ k) (h2 : k ≤ 10) : ((JbL k).size : Int) = k := by
  have : (JbL k).size = min k.toNat 10 - 0 := by simp [JbL, abc, ByteArray.size_extract]; rfl
  omega
def mkK (x n : Int) : Int := 1 + IntKind.i64.wrap (x.tdiv 7) % J0 n 9
def mkS (x : Int) : Int := 1 + IntKind.i64.wrap (x.tdiv 7) % 5
theorem JiN {n : Int} (h : 0 < n) : 0 < J0 n 9 ∧ J0 n 9 ≤ n ∧ J0 n 9 ≤ 9 := by unfold J0; split <;> omega
def mkE (c : Bool) (n out : Int) : List PV := (bif decide (n > 0) then [kpP n] else []) ++ (bif c && decide (out ≤ 115) then [ptP zed] else [])
def Xy (c : Bool) : Nat → Int → Int → List PV → List PV
  | 0, n, out, _ => mkE c n out
  | _ + 1, n, out, [] => mkE c n out
  | b + 1, n, out, p :: ps =>
      bif decide (n > 0) then
        (bif p.int % 4 == 0 || p.int % 4 == 1 then kpP (mkK p.int n) :: Xy c b (n - mkK p.int n) out ps
        else bif p.int % 4 == 2 then ctP (mkK p.int n) :: Xy c b (n - mkK p.int n) (out - mkK p.int n) ps
        else bif decide (out + mkS p.int ≤ 120) then ptP (JbL (mkS p.int)) :: Xy c b n (out + mkS p.int) ps
        else Xy c b n out ps)
      else mkE c n out
def mkC (ns : List PV) : Bool := decide (ns.length > 0) && IntKind.i64.wrap ((ns.getD 0 .top).int.tdiv 3) % 3 == 0
structure MN where
  (n : Int) (ns : List PV)
noncomputable def Zh : MN → List PV := hid fun x => Xy (mkC x.ns) 12 x.n x.n x.ns
theorem Jfr (x : MN) : Zh x = Xy (mkC x.ns) 12 x.n x.n x.ns := by rw [Zh, hid_eq]
noncomputable def Jbx : Int → List PV → Bool := hid fun n ns => decide (0 ≤ n) && (decide (n ≤ 120) && (Je .i64 ns && decide (ns.length ≤ 9223372036854775807)))
theorem Jby {n : Int} {ns : List PV} : Jbx n ns = true ↔ 0 ≤ n ∧ n ≤ 120 ∧ Je .i64 ns = true ∧ ns.length ≤ 9223372036854775807 := by
  rw [Jbx, hid_eq]; simp only [Bool.and_eq_true, decide_eq_true_eq]
def inC (c : CV) : Int := bif c.kd == 2 then 0 else c.n
def Js8 (c : CV) : Int := bif c.kd == 1 then c.n else c.s.size
def inL : List PV → Int
  | [] => 0
  | p :: ps => inC (cv p) + inL ps
def outL : List PV → Int
  | [] => 0
  | p :: ps => Js8 (cv p) + outL ps
structure MkOk (n done b : Int) (l : List PV) : Prop where
  cp : ∀ p ∈ l, isCp p = true
  ck : ∀ p ∈ l, ckC (cv p) = 0
  sz : ∀ p ∈ l, (cv p).s.size ≤ 10
  len : (l.length : Int) ≤ b
  inn : inL l = n
  out : done + outL l ≤ 120
  out0 : 0 ≤ outL l
theorem V4 {n n' done done' b : Int} {p : PV} {l : List PV} (h : MkOk n' done' b l) (h1 : isCp p = true) (h2 : ckC (cv p) = 0) (h3 : (cv p).s.size ≤ 10) (h4 : inC (cv p) + n' = n) (h5 : done + Js8 (cv p) = done') (h6 : 0 ≤ Js8 (cv p)) : MkOk n done (b + 1) (p :: l) where
  cp := fun q hq => (List.mem_cons.1 hq).elim (fun e => e ▸ h1) (fun m => h.cp q m)
  ck := fun q hq => (List.mem_cons.1 hq).elim (fun e => e ▸ h2) (fun m => h.ck q m)
  sz := fun q hq => (List.mem_cons.1 hq).elim (fun e => e ▸ h3) (fun m => h.sz q m)
  len := by have := h.len; simp only [List.length_cons]; omega
  inn := by have := h.inn; simp only [inL]; omega
  out := by have := h.out; simp only [outL]; omega
  out0 := by have := h.out0; simp only [outL]; omega
theorem Zi {n done b b' : Int} {l : List PV} (h : MkOk n done b l) (hb : b ≤ b') : MkOk n done b' l := { h with len := by have := h.len; omega }
theorem JdY {done : Int} (h : done ≤ 120) : MkOk 0 done 0 [] where
  cp := fun q hq => by cases hq
  ck := fun q hq => by cases hq
  sz := fun q hq => by cases hq
  len := by simp
  inn := rfl
  out := by simp only [outL]; omega
  out0 := by simp [outL]
theorem JqB {k : Int} (h : 1 ≤ k) (h2 : k ≤ 120) : ckC (cv (kpP k)) = 0 := by
  have e : cv (kpP k) = ⟨1, k, ByteArray.mk #[]⟩ := rfl
  rw [e, Jbk]; unfold JgI
  have hs : (ByteArray.mk #[]).size = 0 := rfl
  simp only [hs]
  rw [show (decide (k < 1)) = false from decide_eq_false (by omega), show (decide (k > 120)) = false from decide_eq_false (by omega)]; rfl
theorem Jye {k : Int} (h : 1 ≤ k) (h2 : k ≤ 120) : ckC (cv (ctP k)) = 0 := by
  have e : cv (ctP k) = ⟨3, k, ByteArray.mk #[]⟩ := rfl
  rw [e, Jbk]; unfold JgI
  have hs : (ByteArray.mk #[]).size = 0 := rfl
  simp only [hs]
  rw [show (decide (k < 1)) = false from decide_eq_false (by omega), show (decide (k > 120)) = false from decide_eq_false (by omega)]; rfl
theorem JqC {s : ByteArray} (h : 1 ≤ s.size) (h2 : s.size ≤ 120) : ckC (cv (ptP s)) = 0 := by
  have e : cv (ptP s) = ⟨2, 0, s⟩ := rfl
  rw [e, Jbk]; unfold JgI
  rw [show (s.size == 0) = false from beq_false_of_ne (by omega)]
  refine (JA rfl).trans ((Ja rfl).trans ((JA rfl).trans (JA (decide_eq_false (by show ¬ ((s.size : Int) > 120); omega)))))
theorem Jg5 (c : Bool) {n out : Int} (h : 0 ≤ n) (h2 : n ≤ out) (h3 : out ≤ 120) : MkOk n (out - n) 2 (mkE c n out) := by
  have hz : ∀ {d : Int}, d + 1 ≤ 120 → MkOk 0 d 1 [ptP zed] := fun {d} hd =>
    V4 (n' := 0) (done' := d + 1) (JdY hd) rfl (JqC (by decide) (by decide)) (by show zed.size ≤ 10; decide) rfl rfl (by decide)
  unfold mkE
  cases hn : decide (n > 0) with
  | true =>
    have hn := of_decide_eq_true hn
    rw [cond_true, List.singleton_append]
    have e : ∀ {b : Int} {l : List PV}, MkOk 0 out b l → MkOk n (out - n) (b + 1) (kpP n :: l) := fun hl =>
      V4 hl rfl (JqB (by omega) (by omega)) (by show (0 : Nat) ≤ 10; omega) (by show n + 0 = n; omega) (by show out - n + n = out; omega) (by show 0 ≤ n; omega)
    cases hc : (c && decide (out ≤ 115)) with
    | true => simp only [Bool.and_eq_true, decide_eq_true_eq] at hc; rw [cond_true]; exact e (hz (by omega))
    | false => rw [cond_false]; exact Zi (e (JdY h3)) (by omega)
  | false =>
    have hn := of_decide_eq_false hn
    have : n = 0 := by omega
    subst this
    rw [cond_false, List.nil_append, Int.sub_zero]
    cases hc : (c && decide (out ≤ 115)) with
    | true => simp only [Bool.and_eq_true, decide_eq_true_eq] at hc; rw [cond_true]; exact Zi (hz (by omega)) (by omega)
    | false => rw [cond_false]; exact Zi (JdY h3) (by omega)
theorem JlM {x n : Int} (h : 0 < n) : 1 ≤ mkK x n ∧ mkK x n ≤ n ∧ mkK x n ≤ 9 := by
  obtain ⟨m1, m2, m3⟩ := JiN h
  have h1 := Int.emod_nonneg (IntKind.i64.wrap (x.tdiv 7)) (show J0 n 9 ≠ 0 by omega)
  have h2 := Int.emod_lt_of_pos (IntKind.i64.wrap (x.tdiv 7)) m1
  unfold mkK; omega
theorem JlN (x : Int) : 1 ≤ mkS x ∧ mkS x ≤ 5 := by
  have h1 := Int.emod_nonneg (IntKind.i64.wrap (x.tdiv 7)) (show (5 : Int) ≠ 0 by omega)
  have h2 := Int.emod_lt_of_pos (IntKind.i64.wrap (x.tdiv 7)) (show (0 : Int) < 5 by omega)
  unfold mkS; omega
theorem V5 (c : Bool) : ∀ (b : Nat) (n out : Int) (ns : List PV), 0 ≤ n → n ≤ out → out ≤ 120 → MkOk n (out - n) (b + 2) (Xy c b n out ns)
  | 0, n, out, _, h, h2, h3 => Zi (Jg5 c h h2 h3) (by omega)
  | b + 1, n, out, [], h, h2, h3 => Zi (Jg5 c h h2 h3) (by omega)
  | b + 1, n, out, p :: ps, h, h2, h3 => by
      simp only [Xy]
      cases hn : decide (n > 0) with
      | false => rw [cond_false]; exact Zi (Jg5 c h h2 h3) (by omega)
      | true =>
        have hn := of_decide_eq_true hn
        obtain ⟨k1, k2, k3⟩ := JlM (x := p.int) hn
        obtain ⟨s1, s2⟩ := JlN p.int
        rw [cond_true]
        cases hc : (p.int % 4 == 0 || p.int % 4 == 1) with
        | true =>
          rw [cond_true]
          refine Zi (V4 (V5 c b (n - mkK p.int n) out ps (by omega) (by omega) h3) rfl (JqB k1 (by omega)) (by show (0 : Nat) ≤ 10; omega) (by show mkK p.int n + _ = _; omega) (by show out - n + mkK p.int n = _; omega) (by show 0 ≤ mkK p.int n; omega)) (by omega)
        | false =>
          rw [cond_false]
          cases hc2 : (p.int % 4 == 2) with
          | true =>
            rw [cond_true]
            refine Zi (V4 (V5 c b (n - mkK p.int n) (out - mkK p.int n) ps (by omega) (by omega) (by omega)) rfl (Jye k1 (by omega)) (by show (0 : Nat) ≤ 10; omega) (by show mkK p.int n + _ = _; omega) (by show out - n + (0 : Int) = _; omega) (by show 0 ≤ (0 : Int); omega)) (by omega)
          | false =>
            rw [cond_false]
            cases hc3 : decide (out + mkS p.int ≤ 120) with
            | false => rw [cond_false]; exact Zi (V5 c b n out ps h h2 h3) (by omega)
            | true =>
              have hc3 := of_decide_eq_true hc3
              have hz := JcB (k := mkS p.int) (by omega) (by omega)
              rw [cond_true]
              refine Zi (V4 (V5 c b n (out + mkS p.int) ps (by omega) (by omega) hc3) rfl (JqC (by omega) (by omega)) (by show (JbL (mkS p.int)).size ≤ 10; omega) (by show (0 : Int) + n = n; omega) (by show out - n + ((JbL (mkS p.int)).size : Int) = _; omega) (by show 0 ≤ ((JbL (mkS p.int)).size : Int); omega)) (by omega)
theorem JlO {n : Int} (ns : List PV) (h : 0 ≤ n) (h2 : n ≤ 120) : MkOk n 0 14 (Zh ⟨n, ns⟩) := by
  rw [Jfr]
  have := V5 (mkC ns) 12 n n ns h (by omega) h2
  rwa [Int.sub_self] at this
theorem JlP : ∀ {l : List PV}, (∀ p ∈ l, ckC (cv p) = 0) → ckL l = 0
  | [], _ => rfl
  | p :: r, h => by
      simp only [ckL]
      rw [h p List.mem_cons_self]
      exact JlP fun q hq => h q (List.mem_cons_of_mem _ hq)
theorem Js9 {n d : Int} {l : List PV} (h : MkOk n d 14 l) : ckO l = 0 := by
  rw [JdC]; unfold Jld
  have := h.len
  exact (JA (decide_eq_false (by simp only [zi]; omega))).trans (JlP h.ck)
theorem Jta {n d : Int} {l : List PV} (h : MkOk n d 14 l) : cBy l = true := by
  have := h.len
  exact Zy.2 ⟨List.all_eq_true.2 h.cp, fun p hp => by have := h.sz p hp; omega, by omega⟩
theorem Jtb {n d : Int} {l : List PV} (h : MkOk n d 14 l) : (opB l).length ≤ 400 := by
  have h1 := Jbn 10 l h.sz
  have h2 := h.len
  rw [Gx, Jjl, List.length_append]
  simp only [List.length_cons, List.length_nil]; omega
-- FN law4.Make
theorem Zj {l : List PV} (h : Je .i64 l = true) {i : Nat} (hi : i < l.length) : (l.getD i .top).isInt .i64 = true := by
  induction l generalizing i with
  | nil => simp at hi
  | cons p ps ih =>
    have e : Je .i64 (p :: ps) = (p.isInt .i64 && Je .i64 ps) := rfl
    rw [e, Bool.and_eq_true] at h
    cases i with
    | zero => exact h.1
    | succ i => simpa using ih h.2 (by simpa using hi)
theorem isE (L : List PV) (x : PV) : (L ++ [x]).isEmpty = false := by cases L <;> rfl
theorem Jfs (L : List PV) (x y : PV) : (L ++ [x, y]).isEmpty = false := by cases L <;> rfl
theorem JlQ (c z fl : Bool) (ns : List PV) (hns : Je .i64 ns = true) (h2 : ns.length ≤ 9223372036854775807) (f : Nat) (k0 : Int → Bool → Bool → List PV → Nat → Int → Bool → List PV → Option Res) (R : List PV → Option Res)
    (hk : ∀ (n out : Int) (L : List PV), 0 ≤ n → n ≤ out → out ≤ 120 → L.length ≤ 12 → k0 n z fl ns L.length out L.isEmpty L = R (L ++ mkE c n out)) :
    ∀ (b i m : Nat) (n out : Int) (L : List PV), i + b = 12 → b < m → 0 ≤ n → n ≤ out → out ≤ 120 → L.length ≤ i →
      Xj f k0 m n z fl ns L.length out (i : Int) L.isEmpty L = R (L ++ Xy c b n out (ns.drop i))
  | 0, i, m + 1, n, out, L, hi, hm, h3, h4, h5, hL => by
      have e : Xy c 0 n out (ns.drop i) = mkE c n out := rfl
      rw [e]
      simp only [Xj, ZA]
      by_cases hc : i < ns.length
      · refine (Ja (by simp [zi]; omega)).trans ((JA (by simp; omega)).trans (hk n out L h3 h4 h5 (by omega)))
      · exact (JA (by simp [zi]; omega)).trans (hk n out L h3 h4 h5 (by omega))
  | b + 1, i, m + 1, n, out, L, hi, hm, h3, h4, h5, hL => by
      by_cases hc : ¬ i < ns.length
      · rw [List.drop_of_length_le (by omega)]
        simp only [Xj, ZA]
        exact (JA (by simp [zi]; omega)).trans (hk n out L h3 h4 h5 (by omega))
      have hc := Decidable.not_not.1 hc
      rw [Xx hc]
      have g1 : ((i : Int)).toNat = i := by omega
      have w1 : IntKind.i64.wrap ((i : Int) + 1) = ((i + 1 : Nat) : Int) := by rw [wrap_i64 (by omega) (by omega)]; omega
      have hin := Zj hns hc
      have tk : List.take L.length L = L := List.take_length
      have e1 : ∀ x : PV, L.length + 1 = (L ++ [x]).length := fun x => by simp
      have e2 : ∀ x : PV, (L.isEmpty && false) = (L ++ [x]).isEmpty := fun x => by simp
      simp only [Xj, ZA, g1, w1, hin, tk]
      generalize ns.getD i .top = p at *
      refine (Ja (by simp [zi]; omega)).trans ((Ja (by simp; omega)).trans ?_)
      have hrd : (decide (0 ≤ (i : Int)) && decide ((i : Int) < zi ns.length) && true && true) = true := by simp [zi]; omega
      have hro : (Jj (L.length + 1) 32 && true) = true := by simp [Jj]; omega
      by_cases hn : ¬ n > 0
      · refine (JA (by simp; omega)).trans ((hk n out L h3 h4 h5 (by omega)).trans ?_)
        have : Xy c (b + 1) n out (p :: ns.drop (i + 1)) = mkE c n out := by simp only [Xy]; exact JA (by simp; omega)
        rw [this]
      have hn := Decidable.not_not.1 hn
      obtain ⟨k1, k2, k3⟩ := JlM (x := p.int) hn
      obtain ⟨m1, m2, m3⟩ := JiN hn
      obtain ⟨s1, s2⟩ := JlN p.int
      have wK : IntKind.i64.wrap (1 + IntKind.i64.wrap (p.int.tdiv 7) % J0 n 9) = mkK p.int n := wrap_i64 (by show _ ≤ mkK p.int n; omega) (by show mkK p.int n < _; omega)
      have wS : IntKind.i64.wrap (1 + IntKind.i64.wrap (p.int.tdiv 7) % 5) = mkS p.int := wrap_i64 (by show _ ≤ mkS p.int; omega) (by show mkS p.int < _; omega)
      have wN : IntKind.i64.wrap (n - mkK p.int n) = n - mkK p.int n := wrap_i64 (by omega) (by omega)
      have wO : IntKind.i64.wrap (out - mkK p.int n) = out - mkK p.int n := wrap_i64 (by omega) (by omega)
      have hab : (ByteArray.mk (Array.mk (u8l [97, 98, 99, 100, 101, 102, 103, 104, 105, 106]))).extract 0 (mkS p.int).toNat = JbL (mkS p.int) := rfl
      have hsz : zi (JbL (mkS p.int)).size = mkS p.int := JcB (by omega) (by omega)
      have wP : IntKind.i64.wrap (out + mkS p.int) = out + mkS p.int := wrap_i64 (by omega) (by omega)
      simp only [wK, wS, wN, wO, hab, hsz, wP]
      refine (Ja (by simpa using hn)).trans ((Ja hrd).trans ((Ja (by rw [YB, Bool.and_eq_true, decide_eq_true_eq, decide_eq_true_eq]; omega)).trans ((Ja hrd).trans ((Ja (by rw [YB]; rfl)).trans ?_))))
      have hmk : Xy c (b + 1) n out (p :: ns.drop (i + 1)) = (bif p.int % 4 == 0 || p.int % 4 == 1 then kpP (mkK p.int n) :: Xy c b (n - mkK p.int n) out (ns.drop (i + 1))
        else bif p.int % 4 == 2 then ctP (mkK p.int n) :: Xy c b (n - mkK p.int n) (out - mkK p.int n) (ns.drop (i + 1))
        else bif decide (out + mkS p.int ≤ 120) then ptP (JbL (mkS p.int)) :: Xy c b n (out + mkS p.int) (ns.drop (i + 1))
        else Xy c b n out (ns.drop (i + 1))) := by simp only [Xy]; exact Ja (by simpa using hn)
      have A : ∀ (x : PV) (n' out' : Int), 0 ≤ n' → n' ≤ out' → out' ≤ 120 → Xj f k0 m n' z fl ns (L.length + 1) out' ((i + 1 : Nat) : Int) (L.isEmpty && false) (L ++ [x]) = R (L ++ x :: Xy c b n' out' (ns.drop (i + 1))) := fun x n' out' a1 a2 a3 => by
        rw [e1 x, e2 x, JlQ c z fl ns hns h2 f k0 R hk b (i + 1) m n' out' (L ++ [x]) (by omega) (by omega) a1 a2 a3 (by simp; omega), List.append_assoc]; rfl
      have B : Xj f k0 m n z fl ns L.length out ((i + 1 : Nat) : Int) L.isEmpty L = R (L ++ Xy c b n out (ns.drop (i + 1))) :=
        JlQ c z fl ns hns h2 f k0 R hk b (i + 1) m n out L (by omega) (by omega) h3 h4 h5 (by omega)
      rw [hmk]
      have q0 := Int.emod_nonneg p.int (show (4 : Int) ≠ 0 by omega)
      have q1 := Int.emod_lt_of_pos p.int (show (0 : Int) < 4 by omega)
      have : p.int % 4 = 0 ∨ p.int % 4 = 1 ∨ p.int % 4 = 2 ∨ p.int % 4 = 3 := by omega
      rcases this with hq | hq | hq | hq
      · rw [hq]
        exact (Ja rfl).trans ((Ja rfl).trans ((Ja hro).trans (A _ _ _ (by omega) (by omega) h5)))
      · rw [hq]
        exact (JA rfl).trans ((Ja rfl).trans ((Ja hro).trans (A _ _ _ (by omega) (by omega) h5)))
      · rw [hq]
        exact (JA rfl).trans ((JA rfl).trans ((Ja rfl).trans ((Ja hro).trans (A _ _ _ (by omega) (by omega) (by omega)))))
      · rw [hq]
        refine (JA rfl).trans ((JA rfl).trans ((JA rfl).trans ((Ja rfl).trans ((Ja hrd).trans ((Ja (by rw [YB]; rfl)).trans ((Ja (by simp; omega)).trans ?_))))))
        by_cases hz : out + mkS p.int ≤ 120
        · refine (Ja (decide_eq_true hz)).trans ((Ja hro).trans ((A _ _ _ (by omega) (by omega) hz).trans ?_))
          rw [decide_eq_true hz]; rfl
        · refine (JA (decide_eq_false hz)).trans (B.trans ?_)
          rw [decide_eq_false hz]; rfl
noncomputable def Jg6 : List PV → List Ent → (Res → Option Res) → Option Res
  | [.sc (.int .i64 n), .ro 3 z f ns], [], k => bif Jbx n ns then k ⟨.ro 99 (Zh ⟨n, ns⟩).isEmpty false (Zh ⟨n, ns⟩), [], []⟩ else none
  | _, _, _ => none
noncomputable def Jyf : Sig := { own := [], run := Jg6 }
theorem Jtc (n : Int) (z f : Bool) (ns : List PV) (h : Jbx n ns = true) (k : Res → Option Res) : g54 20 n z f ns k = k ⟨.ro 99 (Zh ⟨n, ns⟩).isEmpty false (Zh ⟨n, ns⟩), [], []⟩ := by
  obtain ⟨h1, h2, h3, h4⟩ := Jby.1 h
  unfold g54
  rw [Jfr]
  refine (JlQ (mkC ns) z f ns h3 h4 20 _ (fun M => k ⟨.ro 99 M.isEmpty false M, [], []⟩) ?_ 12 0 20 n n [] rfl (by omega) h1 (by omega) h2 (by simp)).trans ?_
  · intro n' out L a1 a2 a3 a4
    have tk : List.take L.length L = L := List.take_length
    have tk1 : ∀ x : PV, List.take (L.length + 1) (L ++ [x]) = L ++ [x] := fun x => List.take_of_length_le (by simp)
    have tk2 : ∀ x y : PV, List.take (L.length + 1 + 1) (L ++ [x] ++ [y]) = L ++ [x] ++ [y] := fun x y => List.take_of_length_le (by simp)
    have hro : (Jj (L.length + 1) 32 && true) = true := by simp [Jj]; omega
    have hro2 : (Jj (L.length + 1 + 1) 32 && true) = true := by simp [Jj]; omega
    have em : ∀ x : PV, (L.isEmpty && false) = (L ++ [x]).isEmpty := fun x => by simp
    have hz : PV.st 99 [PV.sc (Value.int IntKind.i64 2), PV.sc (Value.int IntKind.i64 0), PV.sc (Value.string (ByteArray.mk (Array.mk (u8l [122]))))] = ptP zed := rfl
    have hk' : PV.st 99 [PV.sc (Value.int IntKind.i64 1), PV.sc (Value.int IntKind.i64 n'), PV.sc (Value.string (ByteArray.mk #[]))] = kpP n' := rfl
    have okw : okW 3 = true := by rw [YB]; rfl
    simp only [tk, tk1, tk2, hz, hk', Ent.nil, okw, hro, hro2]
    unfold mkE mkC
    cases hn : decide (n' > 0) with
    | true =>
      refine (Ja rfl).trans ((Ja rfl).trans ?_)
      by_cases hl : ns.length > 0
      · have hl' : decide (zi ns.length > 0) = true := by simp [zi]; omega
        have hin := Zj h3 hl
        rw [hl', decide_eq_true hl]
        refine (Ja rfl).trans ((Ja (by rw [hin]; simp [zi, hl])).trans ((Ja rfl).trans ?_))
        cases hc : (IntKind.i64.wrap ((ns.getD 0 PV.top).int.tdiv 3) % 3 == 0) with
        | false => refine (JA rfl).trans ?_; simp only [List.append_assoc, List.singleton_append, List.append_nil, Bool.and_false, Bool.and_true, Bool.false_and, Bool.true_and, cond_true, cond_false, isE, Jfs, List.cons_append, List.nil_append]
        | true =>
          refine (Ja rfl).trans ?_
          cases ho : decide (out ≤ 115) with
          | false => refine (JA rfl).trans ?_; simp only [List.append_assoc, List.singleton_append, List.append_nil, Bool.and_false, Bool.and_true, Bool.false_and, Bool.true_and, cond_true, cond_false, isE, Jfs, List.cons_append, List.nil_append]
          | true => refine (Ja rfl).trans ((Ja rfl).trans ?_); simp [isE, Jfs]
      · have hl' : decide (zi ns.length > 0) = false := decide_eq_false (by simp only [zi]; omega)
        rw [hl', decide_eq_false hl]
        refine (JA rfl).trans ?_; simp only [List.append_assoc, List.singleton_append, List.append_nil, Bool.and_false, Bool.and_true, Bool.false_and, Bool.true_and, cond_true, cond_false, isE, Jfs, List.cons_append, List.nil_append]
    | false =>
      refine (JA rfl).trans ?_
      by_cases hl : ns.length > 0
      · have hl' : decide (zi ns.length > 0) = true := by simp [zi]; omega
        have hin := Zj h3 hl
        rw [hl', decide_eq_true hl]
        refine (Ja rfl).trans ((Ja (by rw [hin]; simp [zi, hl])).trans ((Ja rfl).trans ?_))
        cases hc : (IntKind.i64.wrap ((ns.getD 0 PV.top).int.tdiv 3) % 3 == 0) with
        | false => refine (JA rfl).trans ?_; simp only [List.append_assoc, List.singleton_append, List.append_nil, Bool.and_false, Bool.and_true, Bool.false_and, Bool.true_and, cond_true, cond_false, isE, Jfs, List.cons_append, List.nil_append]
        | true =>
          refine (Ja rfl).trans ?_
          cases ho : decide (out ≤ 115) with
          | false => refine (JA rfl).trans ?_; simp only [List.append_assoc, List.singleton_append, List.append_nil, Bool.and_false, Bool.and_true, Bool.false_and, Bool.true_and, cond_true, cond_false, isE, Jfs, List.cons_append, List.nil_append]
          | true => refine (Ja rfl).trans ((Ja rfl).trans ?_); simp [isE, Jfs]
      · have hl' : decide (zi ns.length > 0) = false := decide_eq_false (by simp only [zi]; omega)
        rw [hl', decide_eq_false hl]
        refine (JA rfl).trans ?_; simp only [List.append_assoc, List.singleton_append, List.append_nil, Bool.and_false, Bool.and_true, Bool.false_and, Bool.true_and, cond_true, cond_false, isE, Jfs, List.cons_append, List.nil_append]
  · simp
theorem Jyg : Jh tau Try.prog 54 Jyf := Jh.mk' fun xs es k res hl hr => by
  change Jg6 xs es k = some res at hr
  unfold Jg6 at hr
  split at hr
  · rename_i n z f ns
    obtain ⟨hc, hr⟩ := JH hr
    exact Ql Jq JlL Jr Jyc Jyd (Jom (Jbw 20)) [.ro] 0 0 (JAz 20) hl rfl ((e54 20 n z f ns k).trans ((Jtc n z f ns hc k).trans hr))
  · cases hr
noncomputable def Jyh : Fns := F0
theorem Joo : Jx tau Try.prog Jyh := JE
def JiO : An := (.seq .leaf (.seq .leaf (.seq (.seq .leaf (.cond .leaf .leaf)) (.seq .leaf .leaf))))
noncomputable def Jop (f : Nat) (at1 : Int) (n : Int) (k : Res → Option Res) : Option Res :=
  bif !decide (n = 0) && true then
    bif decide (at1.tmod n < 0) then
      k (Res.mk (PV.sc (Value.int IntKind.i64 (IntKind.i64.wrap (at1.tmod n + n)))) [] [])
    else k (Res.mk (PV.sc (Value.int IntKind.i64 (at1.tmod n))) [] [])
  else none
theorem JAB (f : Nat) (at1 : Int) (n : Int) (k : Res → Option Res) : JM tau Jyh Try.f100 (Try.f100.body.get!) JiO [.ro] 0 [.sc (.int .i64 at1), .sc (.int .i64 n)] [] k = Jop f at1 n k := by kernel_rfl
theorem Jyi (f : Nat) : Jg (Try.f100.body.get!) JiO = [] := by kernel_rfl
theorem Jyj (f : Nat) : ∀ q ∈ Jg (Try.f100.body.get!) JiO, q.Ok tau Try.prog 0 := by
  rw [Jyi f]; intro q hq; cases hq
theorem JqD : Try.prog.funcs[100]? = some Try.f100 := by kernel_rfl
theorem JqE : Try.f100.body = some (Try.f100.body.get!) := by kernel_rfl
theorem Jyk : Enters Try.prog 100 := enters_of JqD (by kernel_rfl) JqE
noncomputable def Jg7 : List PV → List Ent → (Res → Option Res) → Option Res
  | [.sc (.int .i64 at1), .sc (.int .i64 n)], [], k => Jop 0 at1 n k
  | _, _, _ => none
noncomputable def JAC : Sig := { own := [], run := Jg7 }
theorem Jyl : Jh tau Try.prog 100 JAC := JY Jq Joo Jr JqD JqE JiO [.ro] 0 [] Jg7 (Jyj 0) fun xs es k res hr => by
  unfold Jg7 at hr
  split at hr
  · exact ⟨rfl, 0, (JAB 0 _ _  _).trans hr⟩
  · cases hr
-- FN law8.within
noncomputable def JdZ : List PV → List Ent → (Res → Option Res) → Option Res
  | [.sc (.int .i64 a), .sc (.int .i64 n)], [], k => bif okW n then k ⟨.sc (.int .i64 (a % n)), [], []⟩ else none
  | _, _, _ => none
noncomputable def JqF : Sig := { own := [], run := JdZ }
theorem Joq (a n : Int) (h : 0 < n) (h2 : n < 1000000000000) (k : Res → Option Res) : Jop 0 a n k = k ⟨.sc (.int .i64 (a % n)), [], []⟩ := by
  have hn : (n == 0) = false := by simp; omega
  have e := Int.tmod_eq_emod (a := a) (b := n)
  have e0 := Int.emod_nonneg a (show n ≠ 0 by omega)
  have e1 := Int.emod_lt_of_pos a h
  have hna : (n.natAbs : Int) = n := by omega
  unfold Jop
  refine (Ja (by simp; omega)).trans ?_
  by_cases hc : a.tmod n < 0
  · refine (Ja (by simpa using hc)).trans ?_
    have : IntKind.i64.wrap (a.tmod n + n) = a % n := by
      split at e <;> (rw [wrap_i64 (by omega) (by omega)]; omega)
    rw [this]
  · refine (JA (by simpa using hc)).trans ?_
    have : a.tmod n = a % n := by split at e <;> omega
    rw [this]
theorem Jtd : Jh tau Try.prog 100 JqF := Jyl.of fun xs es k res hr => by
  change JdZ xs es k = some res at hr
  unfold JdZ at hr
  split at hr
  · obtain ⟨hc, hr⟩ := JH hr
    simp only [YB, Bool.and_eq_true, decide_eq_true_eq] at hc
    exact (Joq _ _ hc.1 hc.2 _).trans hr
  · cases hr
noncomputable def F44 : Fns := JG 100 JqF (JG 54 Jyf (F0))
theorem Jte : Jx tau Try.prog F44 := ((JE).add Jyg JAA).add Jtd Jyk
def Jor : An := (.seq .leaf (.seq .leaf (.seq (.seq .leaf (.cond .leaf .leaf)) (.seq .leaf .leaf))))
noncomputable def g44 (f : Nat) (d_Author_D : Int) (d_Author_U : Int) (d_Id : Int) (d_Version : Int) (d_Hash : List
  PV) (d_Kind : Int) (d_Op_z : Bool) (d_Op_f : Bool) (d_Op : List PV) (d_Who_D : Int) (d_Who_U : Int) (n : Int) (ns_z : Bool) (ns_f : Bool) (ns : List PV) (k : Res → Option Res) : Option Res :=
  bif okW 3 then
    bif okW 8 then
      bif okW 1073741825 then
        bif okW 1048577 then
          bif okW 3 then
            bif IntKind.i64.wrap (1 + d_Kind % 3) == 1 then
              bif Jbx n ns then
                k (Res.mk
                  (PV.st 73
                    [PV.st 45 [PV.sc (Value.int IntKind.i64 (d_Author_D % 3)), PV.sc (Value.int IntKind.i64 (d_Author_U % 8))], PV.sc (Value.int IntKind.i64 (d_Id % 1073741825)),
                      PV.sc (Value.int IntKind.i64 (d_Version % 1048577)), PV.ar 37 d_Hash, PV.sc (Value.int IntKind.i64 (IntKind.i64.wrap (1 + d_Kind % 3))),
                      PV.ro 99 (Zh (MN.mk n ns)).isEmpty false (Zh (MN.mk n ns)), PV.st 45 [PV.sc (Value.int IntKind.i64 0), PV.sc (Value.int IntKind.i64 0)]])
                  [] [])
              else none
            else bif okW 3 then
              bif okW 8 then
                k (Res.mk
                  (PV.st 73
                    [PV.st 45 [PV.sc (Value.int IntKind.i64 (d_Author_D % 3)), PV.sc (Value.int IntKind.i64 (d_Author_U % 8))], PV.sc (Value.int IntKind.i64 (d_Id % 1073741825)),
                      PV.sc (Value.int IntKind.i64 (d_Version % 1048577)), PV.ar 37 d_Hash, PV.sc (Value.int IntKind.i64 (IntKind.i64.wrap (1 + d_Kind % 3))), PV.ro 99 true true [],
                      PV.st 45 [PV.sc (Value.int IntKind.i64 (d_Who_D % 3)), PV.sc (Value.int IntKind.i64 (d_Who_U % 8))]])
                  [] [])
              else none
            else none
          else none
        else none
      else none
    else none
  else none
theorem e44 (f : Nat) (d_Author_D : Int) (d_Author_U : Int) (d_Id : Int) (d_Version : Int) (d_Hash : List PV) (d_Kind : Int) (d_Op_z : Bool) (d_Op_f : Bool) (d_Op : List PV) (d_Who_D : Int) (d_Who_U : Int) (n : Int) (ns_z : Bool) (ns_f : Bool) (ns : List PV) (k : Res → Option Res) : JM tau F44 Try.f44 (Try.f44.body.get!) Jor [.ro] 0 [.st 73 [.st 45 [.sc (.int .i64 d_Author_D), .sc (.int .i64 d_Author_U)], .sc (.int .i64 d_Id), .sc (.int .i64 d_Version), .ar 37 d_Hash, .sc (.int .i64 d_Kind), .ro 99 d_Op_z d_Op_f d_Op, .st 45 [.sc (.int .i64 d_Who_D), .sc (.int .i64 d_Who_U)]], .sc (.int .i64 n), .ro 3 ns_z ns_f ns] [] k = g44 f d_Author_D d_Author_U d_Id d_Version d_Hash d_Kind d_Op_z d_Op_f d_Op d_Who_D d_Who_U n ns_z ns_f ns k := by kernel_rfl
theorem JAD (f : Nat) : Jg (Try.f44.body.get!) Jor = [] := by kernel_rfl
theorem JAE (f : Nat) : ∀ q ∈ Jg (Try.f44.body.get!) Jor, q.Ok tau Try.prog 0 := by
  rw [JAD f]; intro q hq; cases hq
theorem Jym : Try.prog.funcs[44]? = some Try.f44 := by kernel_rfl
theorem Jyn : Try.f44.body = some (Try.f44.body.get!) := by kernel_rfl
theorem JAF : Enters Try.prog 44 := enters_of Jym (by kernel_rfl) Jyn
noncomputable def JlR : List PV → List Ent → (Res → Option Res) → Option Res
  | [.st 73 [.st 45 [.sc (.int .i64 d_Author_D), .sc (.int .i64 d_Author_U)], .sc (.int .i64 d_Id), .sc (.int .i64 d_Version), .ar 37 d_Hash, .sc (.int .i64 d_Kind), .ro 99 d_Op_z d_Op_f d_Op, .st 45 [.sc (.int .i64 d_Who_D), .sc (.int .i64 d_Who_U)]], .sc (.int .i64 n), .ro 3 ns_z ns_f ns], [], k => g44 0 d_Author_D d_Author_U d_Id d_Version d_Hash d_Kind d_Op_z d_Op_f d_Op d_Who_D d_Who_U n ns_z ns_f ns k
  | _, _, _ => none
noncomputable def s44 : Sig := { own := [], run := JlR }
theorem JAG : Jh tau Try.prog 44 s44 := JY Jq Jte Jr Jym Jyn Jor [.ro] 0 [] JlR (JAE 0) fun xs es k res hr => by
  unfold JlR at hr
  split at hr
  · exact ⟨rfl, 0, (e44 0 _ _ _ _ _ _ _ _ _ _ _ _ _ _ _  _).trans hr⟩
  · cases hr



-- FN slices.EqualFunc[[][]byte,[][]byte,[]byte,[]byte] | ref16.Same
structure MS where
  (c : C13) (b : List PV)
noncomputable def Jg8 (T : TypeId) : List TypeId := match tau.und T with | some (.struct fds) => fds.toList.map (·.type) | _ => []
theorem JlS {τ : Tab} {n : Nat} : ∀ (ts : List TypeId) (ps : List PV), ts.length = ps.length → (∀ (i : Nat) (t : TypeId) (q : PV), ts[i]? = some t → ps[i]? = some q → Ty τ n t q) → TyL τ n ts ps
  | [], [], _, _ => trivial
  | t :: ts, p :: ps, hl, h => ⟨h 0 t p rfl rfl, JlS ts ps (by simpa using hl) fun i t q h1 h2 => h (i + 1) t q (by simpa using h1) (by simpa using h2)⟩
  | [], _ :: _, hl, _ => by simp at hl
  | _ :: _, [], hl, _ => by simp at hl
theorem Xz {τ : Tab} {n : Nat} {t : TypeId} {ts : List TypeId} {ps : List PV} (h : TyL τ n (t :: ts) ps) : ∃ p r, ps = p :: r ∧ Ty τ n t p ∧ TyL τ n ts r := by
  cases ps with
  | nil => exact h.elim
  | cons p r => exact ⟨p, r, rfl, h.1, h.2⟩
theorem GC {n : Nat} {T : TypeId} {tys : List TypeId} {p : PV} (hc : Jg8 T = tys) (hne : tys ≠ []) (h : Ty tau (n + 1) T p) : ∃ fs, p = .st T fs ∧ TyL tau n tys fs := by
  unfold Jg8 at hc
  split at hc
  · rename_i fds hu
    obtain ⟨fs, rfl, hl, hf⟩ := Jja hu h
    refine ⟨fs, rfl, JlS tys fs (by rw [← hc]; simpa using hl.symm) fun i t q h1 h2 => ?_⟩
    rw [← hc, List.getElem?_map] at h1
    rw [Array.getElem?_toList] at h1
    cases hfi : fds[i]? with
    | none => rw [hfi] at h1; cases h1
    | some f =>
      rw [hfi] at h1
      obtain rfl := Option.some.inj h1
      exact hf i f q hfi h2
  · exact absurd hc.symm hne
theorem Zk {n : Nat} {p : PV} (h : Ty tau (n + 1) 3 p) : ∃ x, p = .sc (.int .i64 x) ∧ i64B x = true := by
  have u : tau.und 3 = some (.int .i64) := by kernel_rfl
  obtain ⟨x, rfl, hx⟩ := Jf8 u h
  refine ⟨x, rfl, ?_⟩
  have e1 : IntKind.i64.min = -9223372036854775808 := rfl
  have e2 : IntKind.i64.max = 9223372036854775807 := rfl
  simp only [Lit.wf, e1, e2, Bool.and_eq_true, decide_eq_true_eq] at hx
  simp only [i64B, Bool.and_eq_true, decide_eq_true_eq]
  omega
theorem JlT {n : Nat} {T : TypeId} {p : PV} (hc : Jg8 T = [3, 3]) (h : Ty tau (n + 2) T p) : ∃ x y, p = .st T [.sc (.int .i64 x), .sc (.int .i64 y)] := by
  obtain ⟨fs, rfl, hf⟩ := GC (n := n + 1) hc (List.cons_ne_nil _ _) h
  obtain ⟨p, q, rfl, h1, h2⟩ := JvX hf
  obtain ⟨x, rfl, _⟩ := Zk h1
  obtain ⟨y, rfl, _⟩ := Zk h2
  exact ⟨x, y, rfl⟩
theorem JlU {n : Nat} : ∀ (l : List PV), (∀ q ∈ l, Ty tau (n + 1) 5 q) → byB l = true
  | [], _ => rfl
  | p :: ps, h => by
      have u : tau.und 5 = some (.int .u8) := by kernel_rfl
      obtain ⟨x, rfl, hx⟩ := Jf8 u (h p List.mem_cons_self)
      have ih := JlU ps fun q hq => h q (List.mem_cons_of_mem _ hq)
      have e1 : IntKind.u8.min = 0 := rfl
      have e2 : IntKind.u8.max = 255 := rfl
      simp only [Lit.wf, e1, e2, Bool.and_eq_true, decide_eq_true_eq] at hx
      have e : byB (PV.sc (.int .u8 x) :: ps) = (((PV.sc (.int .u8 x)).isInt .u8 && (decide (0 ≤ (PV.sc (.int .u8 x)).int) && decide ((PV.sc (.int .u8 x)).int < 256))) && byB ps) := rfl
      rw [e, ih, Bool.and_true, Bool.and_eq_true, Bool.and_eq_true]
      exact ⟨rfl, decide_eq_true (by show 0 ≤ x; omega), decide_eq_true (by show x < 256; omega)⟩
theorem JlV {n : Nat} {p : PV} (h : Ty tau (n + 2) 29 p) : ∃ z b, p = .ro 5 z false b ∧ (z = true → b = []) ∧ b.length ≤ maxLen ∧ byB b = true := by
  have u : tau.und 29 = some (.slice 5) := by kernel_rfl
  obtain ⟨z, b, rfl, h1, h2, h3⟩ := JaY u h
  exact ⟨z, b, rfl, h1, h2, JlU b h3⟩
theorem Jos {n : Nat} {p : PV} (h : Ty tau (n + 2) 37 p) : ∃ l, p = .ar 37 l ∧ l.length = 32 ∧ byB l = true := by
  have u : tau.und 37 = some (.array 32 5) := by kernel_rfl
  obtain ⟨l, rfl, h1, h2⟩ := JjS u h
  exact ⟨l, rfl, h1, JlU l h2⟩
theorem Jot {n : Nat} {p : PV} (h : Ty tau (n + 2) 99 p) : isCp p = true := by
  obtain ⟨fs, rfl, hf⟩ := GC (n := n + 1) (T := 99) (tys := [3, 3, 9]) (by kernel_rfl) (List.cons_ne_nil _ _) h
  obtain ⟨p, q, r, rfl, h1, h2, h3⟩ := JvY hf
  obtain ⟨a, rfl, _⟩ := Zk h1
  obtain ⟨b, rfl, _⟩ := Zk h2
  have u : tau.und 9 = some .string := by kernel_rfl
  obtain ⟨s, rfl, _⟩ := Ji9 u h3
  exact VX.2 ⟨a, b, s, rfl⟩
theorem Jyo {n : Nat} {p : PV} (h : Ty tau (n + 3) 71 p) : ∃ z l, p = .ro 99 z false l ∧ (z = true → l = []) ∧ l.length ≤ maxLen ∧ l.all isCp = true := by
  have u : tau.und 71 = some (.slice 99) := by kernel_rfl
  obtain ⟨z, b, rfl, h1, h2, h3⟩ := JaY u h
  exact ⟨z, b, rfl, h1, h2, List.all_eq_true.2 fun q hq => Jot (h3 q hq)⟩
theorem Jou {n : Nat} {p : PV} (h : Ty tau (n + 2) 55 p) : ∃ z l, p = .ro 3 z false l ∧ (z = true → l = []) ∧ l.length ≤ maxLen ∧ Je .i64 l = true := by
  have u : tau.und 55 = some (.slice 3) := by kernel_rfl
  have u2 : tau.und 3 = some (.int .i64) := by kernel_rfl
  obtain ⟨z, b, rfl, h1, h2, h3⟩ := JaY u h
  exact ⟨z, b, rfl, h1, h2, Jht u2 b h3⟩
theorem JlW {n : Nat} {p : PV} (h : Ty tau (n + 4) 73 p) : ∃ ad au id1 ve hs kd z o wd wu, p = .st 73 [.st 45 [.sc (.int .i64 ad), .sc (.int .i64 au)], .sc (.int .i64 id1), .sc (.int .i64 ve), .ar 37 hs, .sc (.int .i64 kd), .ro 99 z false o, .st 45 [.sc (.int .i64 wd), .sc (.int .i64 wu)]] ∧ hs.length = 32 ∧ byB hs = true ∧ (z = true → o = []) ∧ o.length ≤ maxLen ∧ o.all isCp = true := by
  obtain ⟨fs, rfl, hf⟩ := GC (n := n + 3) (T := 73) (tys := [45, 3, 3, 37, 3, 71, 45]) (by kernel_rfl) (List.cons_ne_nil _ _) h
  obtain ⟨p1, r1, rfl, h1, hf⟩ := Xz hf
  obtain ⟨p2, r2, rfl, h2, hf⟩ := Xz hf
  obtain ⟨p3, r3, rfl, h3, hf⟩ := Xz hf
  obtain ⟨p4, r4, rfl, h4, hf⟩ := Xz hf
  obtain ⟨p5, r5, rfl, h5, hf⟩ := Xz hf
  obtain ⟨p6, p7, rfl, h6, h7⟩ := JvX hf
  obtain ⟨ad, au, rfl⟩ := JlT (n := n + 1) (by kernel_rfl) h1
  obtain ⟨id1, rfl, _⟩ := Zk h2
  obtain ⟨ve, rfl, _⟩ := Zk h3
  obtain ⟨hs, rfl, g1, g2⟩ := Jos h4
  obtain ⟨kd, rfl, _⟩ := Zk h5
  obtain ⟨z, o, rfl, g3, g4, g5⟩ := Jyo h6
  obtain ⟨wd, wu, rfl⟩ := JlT (n := n + 1) (by kernel_rfl) h7
  exact ⟨ad, au, id1, ve, hs, kd, z, o, wd, wu, rfl, g1, g2, g3, g4, g5⟩
noncomputable def F45 : Fns := F0
theorem Jtf : Jx tau Try.prog F45 := JE
def Jov : An := (.seq .leaf (.seq .leaf (.seq (.seq .leaf (.cond .leaf .leaf)) (.seq .leaf .leaf))))
noncomputable def g45 (f : Nat) (at1 : Int) (n : Int) (k : Res → Option Res) : Option Res :=
  bif !decide (n = 0) && true then
    bif decide (at1.tmod n < 0) then
      k (Res.mk (PV.sc (Value.int IntKind.i64 (IntKind.i64.wrap (at1.tmod n + n)))) [] [])
    else k (Res.mk (PV.sc (Value.int IntKind.i64 (at1.tmod n))) [] [])
  else none
theorem e45 (f : Nat) (at1 : Int) (n : Int) (k : Res → Option Res) : JM tau F45 Try.f45 (Try.f45.body.get!) Jov [.ro] 0 [.sc (.int .i64 at1), .sc (.int .i64 n)] [] k = g45 f at1 n k := by kernel_rfl
theorem JAH (f : Nat) : Jg (Try.f45.body.get!) Jov = [] := by kernel_rfl
theorem JAI (f : Nat) : ∀ q ∈ Jg (Try.f45.body.get!) Jov, q.Ok tau Try.prog 0 := by
  rw [JAH f]; intro q hq; cases hq
theorem Jyp : Try.prog.funcs[45]? = some Try.f45 := by kernel_rfl
theorem Jyq : Try.f45.body = some (Try.f45.body.get!) := by kernel_rfl
theorem JAJ : Enters Try.prog 45 := enters_of Jyp (by kernel_rfl) Jyq
noncomputable def JlX : List PV → List Ent → (Res → Option Res) → Option Res
  | [.sc (.int .i64 at1), .sc (.int .i64 n)], [], k => g45 0 at1 n k
  | _, _, _ => none
noncomputable def s45 : Sig := { own := [], run := JlX }
theorem JAK : Jh tau Try.prog 45 s45 := JY Jq Jtf Jr Jyp Jyq Jov [.ro] 0 [] JlX (JAI 0) fun xs es k res hr => by
  unfold JlX at hr
  split at hr
  · exact ⟨rfl, 0, (e45 0 _ _  _).trans hr⟩
  · cases hr
-- FN law9.within
noncomputable def Jg9 : List PV → List Ent → (Res → Option Res) → Option Res
  | [.sc (.int .i64 a), .sc (.int .i64 n)], [], k => bif okW n then k ⟨.sc (.int .i64 (a % n)), [], []⟩ else none
  | _, _, _ => none
noncomputable def Jyr : Sig := { own := [], run := Jg9 }
theorem Jtg (a n : Int) (h : 0 < n) (h2 : n < 1000000000000) (k : Res → Option Res) : g45 0 a n k = k ⟨.sc (.int .i64 (a % n)), [], []⟩ := by
  have hn : (n == 0) = false := by simp; omega
  have e := Int.tmod_eq_emod (a := a) (b := n)
  have e0 := Int.emod_nonneg a (show n ≠ 0 by omega)
  have e1 := Int.emod_lt_of_pos a h
  have hna : (n.natAbs : Int) = n := by omega
  unfold g45
  refine (Ja (by simp; omega)).trans ?_
  by_cases hc : a.tmod n < 0
  · refine (Ja (by simpa using hc)).trans ?_
    have : IntKind.i64.wrap (a.tmod n + n) = a % n := by
      split at e <;> (rw [wrap_i64 (by omega) (by omega)]; omega)
    rw [this]
  · refine (JA (by simpa using hc)).trans ?_
    have : a.tmod n = a % n := by split at e <;> omega
    rw [this]
theorem Jys : Jh tau Try.prog 45 Jyr := JAK.of fun xs es k res hr => by
  change Jg9 xs es k = some res at hr
  unfold Jg9 at hr
  split at hr
  · obtain ⟨hc, hr⟩ := JH hr
    simp only [YB, Bool.and_eq_true, decide_eq_true_eq] at hc
    exact (Jtg _ _ hc.1 hc.2 _).trans hr
  · cases hr
-- FN
theorem JqG {n : Int} (h : 0 < n) (h2 : n < 1000000000000) : okW n = true := by rw [YB, Bool.and_eq_true, decide_eq_true_eq, decide_eq_true_eq]; exact ⟨h, h2⟩
theorem h32_by {l : List PV} (h : byB l = true) (h2 : l.length = 32) : h32 l = true := h32_iff.2 ⟨(Q9.1 h).1, h2⟩
theorem G6 {l : List PV} (h : Je .u8 l = true) : Qy l l = true := by
  rw [Qb h, Xq]; exact beq_self_eq_true _
-- FN law8.Good
noncomputable def gdK : Int → Int := hid fun kd => 1 + kd % 3
theorem JlY (kd : Int) : gdK kd = 1 + kd % 3 := by rw [gdK, hid_eq]
structure GO where
  (kd n : Int) (ns : List PV)
noncomputable def gdO : GO → List PV := hid fun x => bif gdK x.kd == 1 then Zh ⟨x.n, x.ns⟩ else []
theorem Jha (x : GO) : gdO x = bif gdK x.kd == 1 then Zh ⟨x.n, x.ns⟩ else [] := by rw [gdO, hid_eq]
noncomputable def gdF : Int → Bool := hid fun kd => !(gdK kd == 1)
theorem Jth (kd : Int) : gdF kd = !(gdK kd == 1) := by rw [gdF, hid_eq]
noncomputable def gdW : Int → Int → Int → Int := hid fun kd w m => bif gdK kd == 1 then 0 else w % m
theorem Jhb (kd w m : Int) : gdW kd w m = bif gdK kd == 1 then 0 else w % m := by rw [gdW, hid_eq]
noncomputable def gdV (d : DV) (n : Int) (ns : List PV) : DV := ⟨d.ad % 3, d.au % 8, d.id % 1073741825, d.ve % 1048577, d.h, gdK d.kd, gdO ⟨d.kd, n, ns⟩, gdW d.kd d.wd 3, gdW d.kd d.wu 8⟩
theorem Wd (x : Int) {m : Int} (h : 0 < m) : 0 ≤ x % m ∧ x % m < m := ⟨Int.emod_nonneg _ (by omega), Int.emod_lt_of_pos _ h⟩
theorem JlZ {x : GO} (h : Jbx x.n x.ns = true) : ∃ m, MkOk m 0 14 (gdO x) := by
  obtain ⟨h1, h2, h3, h4⟩ := Jby.1 h
  rw [Jha]
  cases gdK x.kd == 1 with
  | true => exact ⟨x.n, JlO x.ns h1 h2⟩
  | false => exact ⟨0, Zi (JdY (by decide)) (by decide)⟩
theorem Jti {d : DV} {n : Int} {ns : List PV} (hh : h32 d.h = true) (h : Jbx n ns = true) : dOk (gdV d n ns) = true := by
  obtain ⟨a, b⟩ := h32_iff.1 hh
  obtain ⟨m, hm⟩ := JlZ (x := ⟨d.kd, n, ns⟩) h
  exact WC.2 ⟨a, b, Jta hm, by have := Jtb hm; show (opB (gdO ⟨d.kd, n, ns⟩)).length ≤ _; omega⟩
theorem Jtj {d : DV} {n : Int} {ns : List PV} (h : Jbx n ns = true) : dCk (gdV d n ns) = 0 := by
  obtain ⟨m, hm⟩ := JlZ (x := ⟨d.kd, n, ns⟩) h
  have hc := Js9 hm
  have a1 := Wd d.ad (m := 3) (by decide)
  have a2 := Wd d.au (m := 8) (by decide)
  have a3 := Wd d.id (m := 1073741825) (by decide)
  have a4 := Wd d.ve (m := 1048577) (by decide)
  have a5 := Wd d.kd (m := 3) (by decide)
  have w1 := Wd d.wd (m := 3) (by decide)
  have w2 := Wd d.wu (m := 8) (by decide)
  have hk := JlY d.kd
  rw [Jbr]
  unfold Jjn gdV
  refine (Ja ?_).trans ?_
  · simp only [V2, Bool.and_eq_true, decide_eq_true_eq]; omega
  simp only [Jhb, Jha] at hc ⊢
  cases h1 : (gdK d.kd == 1) with
  | true =>
    rw [h1] at hc
    refine (Ja rfl).trans ((Ja (by rw [hc]; rfl)).trans (Ja rfl))
  | false =>
    have h1 : gdK d.kd ≠ 1 := by simpa using h1
    refine (JA rfl).trans ((Ja ?_).trans (Ja ?_))
    · simp only [Bool.or_eq_true, beq_iff_eq]; omega
    · simp only [cond_false, V2, Bool.and_eq_true, decide_eq_true_eq]; exact ⟨rfl, by omega, by omega⟩
noncomputable def Jhc : List PV → List Ent → (Res → Option Res) → Option Res
  | [.st 73 [.st 45 [.sc (.int .i64 ad), .sc (.int .i64 au)], .sc (.int .i64 id1), .sc (.int .i64 ve), .ar 37 h, .sc (.int .i64 kd), .ro 99 oz of o, .st 45 [.sc (.int .i64 wd), .sc (.int .i64 wu)]], .sc (.int .i64 n), .ro 3 z f ns], [], k =>
    bif Jbx n ns then k ⟨.st 73 [.st 45 [.sc (.int .i64 (ad % 3)), .sc (.int .i64 (au % 8))], .sc (.int .i64 (id1 % 1073741825)), .sc (.int .i64 (ve % 1048577)), .ar 37 h, .sc (.int .i64 (gdK kd)), .ro 99 (gdO ⟨kd, n, ns⟩).isEmpty (gdF kd) (gdO ⟨kd, n, ns⟩), .st 45 [.sc (.int .i64 (gdW kd wd 3)), .sc (.int .i64 (gdW kd wu 8))]], [], []⟩ else none
  | _, _, _ => none
noncomputable def Jyt : Sig := { own := [], run := Jhc }
theorem Jyu : Jh tau Try.prog 44 Jyt := JAG.of fun xs es k res hr => by
  change Jhc xs es k = some res at hr
  unfold Jhc at hr
  split at hr
  · rename_i ad au id1 ve h kd oz of o wd wu n z f ns
    obtain ⟨hc, hr⟩ := JH hr
    refine Eq.trans ?_ hr
    show g44 0 ad au id1 ve h kd oz of o wd wu n z f ns k = _
    unfold g44
    have a5 := Wd kd (m := 3) (by decide)
    have e : IntKind.i64.wrap (1 + kd % 3) = gdK kd := by rw [JlY, wrap_i64 (by omega) (by omega)]
    have w : ∀ n : Int, 0 < n → n < 1000000000000 → okW n = true := fun n h h2 => JqG h h2
    rw [e, Jha, Jth, Jhb, Jhb]
    refine (Ja (w _ (by decide) (by decide))).trans ((Ja (w _ (by decide) (by decide))).trans ((Ja (w _ (by decide) (by decide))).trans ((Ja (w _ (by decide) (by decide))).trans ((Ja (w _ (by decide) (by decide))).trans ?_))))
    cases gdK kd == 1 with
    | true => exact (Ja rfl).trans (Ja hc)
    | false => exact (JA rfl).trans ((Ja (w _ (by decide) (by decide))).trans (Ja (w _ (by decide) (by decide))))
  · cases hr
end Go.Proofs.Ytcklhipdldpkhaa.Rx
