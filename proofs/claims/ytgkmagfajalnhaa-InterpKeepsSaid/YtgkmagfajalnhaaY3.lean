-- Written by a program of this session (xprint), out of the translation. Not trusted: Lean checks it.
import Derived.Test.YtgkmagfajalnhaaY0
import Derived.Test.YtgkmagfajalnhaaY1
import Derived.Test.YtgkmagfajalnhaaY2
import Derived.Test.YtgkmagfajalnhaaYIExec
import Derived.Test.YtgkmagfajalnhaaYIStepE
namespace Go.Proofs.Ytgkmagfajalnhaa.Y
open Go.RowKit Go.Proofs.YtgkmagfajalnhaaW.PrintWords Go.Proofs.YtgkmagfajalnhaaW.PrintLast Go.Proofs.YtgkmagfajalnhaaW.PrintMore
attribute [local go_sem] max2_int min2_int max_two min_two max_three min_three max_four min_four   -- for this text's walks alone
set_option linter.unusedVariables false
set_option linter.unusedSimpArgs false

/-! ### regcertlaw09_InterpKeeps: function 10 -/
mutual
def regcertlaw09_InterpKeeps.j0 : Nat → List Int → Int → Bool → Int → Int → List (S50) → Option (Bool)
 | 0, _, _, _, _, _, _ => none
 | k + 1, x1, x2, x30, x223000, x223001, x223002 => if x30 = true then ((regcertlaw09_awake.f k).bind fun t225 => (some t225)) else ((some (([] : List Int) : List Int)).bind fun y226 => (if y226.length + x1.length < 17592186044416 then ((some (y226 ++ x1 : List Int)).bind fun y229 => ((interp_Exec.f k x223000 x223001 x223002 y229 (Int.tmod (wrap64 (x2)) 60)).bind fun bt232 => ((regcertref09_Copy.f bt232.1 bt232.2.1 bt232.2.2.1 bt232.2.2.2.1 bt232.2.2.2.2.1 bt232.2.2.2.2.2.1 bt232.2.2.2.2.2.2.1 bt232.2.2.2.2.2.2.2.1).bind fun bt248 => ((interp_Step.f x223000 x223001 x223002 bt232.1 bt232.2.1 bt232.2.2.1 bt232.2.2.2.1 bt232.2.2.2.2.1 bt232.2.2.2.2.2.1 bt232.2.2.2.2.2.2.1 bt232.2.2.2.2.2.2.2.1).bind fun bt263 => (regcertlaw09_InterpKeeps.l0 k x1 y229 0 bt232.1 bt232.2.1 bt232.2.2.1 bt232.2.2.2.1 bt232.2.2.2.2.1 bt232.2.2.2.2.2.1 bt232.2.2.2.2.2.2.1 bt232.2.2.2.2.2.2.2.1 bt248.1 bt248.2.1 bt248.2.2.1 bt248.2.2.2.1 bt248.2.2.2.2.1 bt248.2.2.2.2.2.1 bt248.2.2.2.2.2.2.1 bt248.2.2.2.2.2.2.2 bt263.1 bt263.2.1 bt263.2.2.1 bt263.2.2.2.1 bt263.2.2.2.2.1 bt263.2.2.2.2.2.1 bt263.2.2.2.2.2.2.1 bt263.2.2.2.2.2.2.2))))) else (none)))
def regcertlaw09_InterpKeeps.l0 : Nat → List Int → List Int → Int → Int → Int → Int → Int → List Int → List Int → List Int → Int → Int → Int → Int → Int → List Int → List Int → List Int → Int → Int → Int → Int → Int → List Int → List Int → List Int → Int → Option (Bool)
 | 0, _, _, _, _, _, _, _, _, _, _, _, _, _, _, _, _, _, _, _, _, _, _, _, _, _, _, _ => none
 | k + 1, x1, x7, x12, x248000, x248001, x248002, x248003, x248004, x248005, x248006, x248007, x263000, x263001, x263002, x263003, x263004, x263005, x263006, x263007, x278000, x278001, x278002, x278003, x278004, x278005, x278006, x278007 => if x12 < (x278004.length : Int) then (if 0 ≤ x12 then (regcertlaw09_InterpKeeps.l0 k x1 x7 (wrap64 (x12 + 1)) x248000 x248001 x248002 x248003 x248004 x248005 x248006 x248007 x263000 x263001 x263002 x263003 x263004 x263005 x263006 x263007 x278000 x278001 x278002 x278003 (x278004.set (x12 : Int).toNat (wrap64 ((rd x278004 x12) + 1))) x278005 x278006 x278007) else (none)) else (regcertlaw09_InterpKeeps.l1 k x1 x7 0 x248000 x248001 x248002 x248003 x248004 x248005 x248006 x248007 x263000 x263001 x263002 x263003 x263004 x263005 x263006 x263007 x278000 x278001 x278002 x278003 x278004 x278005 x278006 x278007)
def regcertlaw09_InterpKeeps.l1 : Nat → List Int → List Int → Int → Int → Int → Int → Int → List Int → List Int → List Int → Int → Int → Int → Int → Int → List Int → List Int → List Int → Int → Int → Int → Int → Int → List Int → List Int → List Int → Int → Option (Bool)
 | 0, _, _, _, _, _, _, _, _, _, _, _, _, _, _, _, _, _, _, _, _, _, _, _, _, _, _, _ => none
 | k + 1, x1, x7, x13, x248000, x248001, x248002, x248003, x248004, x248005, x248006, x248007, x263000, x263001, x263002, x263003, x263004, x263005, x263006, x263007, x278000, x278001, x278002, x278003, x278004, x278005, x278006, x278007 => if x13 < (x278006.length : Int) then (if 0 ≤ x13 then (regcertlaw09_InterpKeeps.l1 k x1 x7 (wrap64 (x13 + 1)) x248000 x248001 x248002 x248003 x248004 x248005 x248006 x248007 x263000 x263001 x263002 x263003 x263004 x263005 x263006 x263007 x278000 x278001 x278002 x278003 x278004 x278005 (x278006.set (x13 : Int).toNat (wrap64 ((rd x278006 x13) + 1))) x278007) else (none)) else ((regcertref09_Same.f k x248000 x248001 x248002 x248003 x248004 x248005 x248006 x248007 x263000 x263001 x263002 x263003 x263004 x263005 x263006 x263007).bind fun t282 => (regcertlaw09_InterpKeeps.l2 k x1 x7 t282 0 x248000 x248001 x248002 x248003 x248004 x248005 x248006 x248007))
def regcertlaw09_InterpKeeps.l2 : Nat → List Int → List Int → Bool → Int → Int → Int → Int → Int → List Int → List Int → List Int → Int → Option (Bool)
 | 0, _, _, _, _, _, _, _, _, _, _, _, _ => none
 | k + 1, x1, x7, x14, x15, x248000, x248001, x248002, x248003, x248004, x248005, x248006, x248007 => if x15 < (x248004.length : Int) then (if 0 ≤ x15 then (regcertlaw09_InterpKeeps.l2 k x1 x7 x14 (wrap64 (x15 + 1)) x248000 x248001 x248002 x248003 (x248004.set (x15 : Int).toNat (wrap64 ((rd x248004 x15) + 1))) x248005 x248006 x248007) else (none)) else (if x14 = true then ((regcertref09_Values.f k x7 x1).bind fun t285 => (some t285)) else (some false))
end
def regcertlaw09_InterpKeeps.f (k : Nat) (a0_0 : Int) (a0_1 : Int) (l0_2 : List (S50)) (l1 : List Int) (a2 : Int) : Option (Bool) := (regcertlaw09_awake.f k).bind fun t223 => (if t223 = true then ((regcertref09_Right.f k a0_0 a0_1 l0_2 l1 0).bind fun t224 => (if t224 = true then (regcertlaw09_InterpKeeps.j0 k l1 a2 ((l1.length : Int) != a0_0) a0_0 a0_1 l0_2) else (regcertlaw09_InterpKeeps.j0 k l1 a2 true a0_0 a0_1 l0_2))) else (regcertlaw09_InterpKeeps.j0 k l1 a2 true a0_0 a0_1 l0_2))
theorem regcertlaw09_InterpKeeps.mono_l : ∀ k, (∀ y0 y1 y2 y3 y4 y5, LeO (regcertlaw09_InterpKeeps.j0 k y0 y1 y2 y3 y4 y5) (regcertlaw09_InterpKeeps.j0 (k + 1) y0 y1 y2 y3 y4 y5)) ∧ (∀ y0 y1 y2 y3 y4 y5 y6 y7 y8 y9 y10 y11 y12 y13 y14 y15 y16 y17 y18 y19 y20 y21 y22 y23 y24 y25 y26, LeO (regcertlaw09_InterpKeeps.l0 k y0 y1 y2 y3 y4 y5 y6 y7 y8 y9 y10 y11 y12 y13 y14 y15 y16 y17 y18 y19 y20 y21 y22 y23 y24 y25 y26) (regcertlaw09_InterpKeeps.l0 (k + 1) y0 y1 y2 y3 y4 y5 y6 y7 y8 y9 y10 y11 y12 y13 y14 y15 y16 y17 y18 y19 y20 y21 y22 y23 y24 y25 y26)) ∧ (∀ y0 y1 y2 y3 y4 y5 y6 y7 y8 y9 y10 y11 y12 y13 y14 y15 y16 y17 y18 y19 y20 y21 y22 y23 y24 y25 y26, LeO (regcertlaw09_InterpKeeps.l1 k y0 y1 y2 y3 y4 y5 y6 y7 y8 y9 y10 y11 y12 y13 y14 y15 y16 y17 y18 y19 y20 y21 y22 y23 y24 y25 y26) (regcertlaw09_InterpKeeps.l1 (k + 1) y0 y1 y2 y3 y4 y5 y6 y7 y8 y9 y10 y11 y12 y13 y14 y15 y16 y17 y18 y19 y20 y21 y22 y23 y24 y25 y26)) ∧ (∀ y0 y1 y2 y3 y4 y5 y6 y7 y8 y9 y10 y11, LeO (regcertlaw09_InterpKeeps.l2 k y0 y1 y2 y3 y4 y5 y6 y7 y8 y9 y10 y11) (regcertlaw09_InterpKeeps.l2 (k + 1) y0 y1 y2 y3 y4 y5 y6 y7 y8 y9 y10 y11))
 | 0 => ⟨fun _ _ _ _ _ _ r h => by simp [regcertlaw09_InterpKeeps.j0] at h, fun _ _ _ _ _ _ _ _ _ _ _ _ _ _ _ _ _ _ _ _ _ _ _ _ _ _ _ r h => by simp [regcertlaw09_InterpKeeps.l0] at h, fun _ _ _ _ _ _ _ _ _ _ _ _ _ _ _ _ _ _ _ _ _ _ _ _ _ _ _ r h => by simp [regcertlaw09_InterpKeeps.l1] at h, fun _ _ _ _ _ _ _ _ _ _ _ _ r h => by simp [regcertlaw09_InterpKeeps.l2] at h⟩
 | k + 1 => by
  obtain ⟨ih0, ih1, ih2, ih3⟩ := regcertlaw09_InterpKeeps.mono_l k
  refine ⟨?_, ?_, ?_, ?_⟩
  ·intro y0 y1 y2 y3 y4 y5
   unfold regcertlaw09_InterpKeeps.j0
   repeat' first
   | (with_reducible exact ih0 _ _ _ _ _ _)
   | (with_reducible exact ih1 _ _ _ _ _ _ _ _ _ _ _ _ _ _ _ _ _ _ _ _ _ _ _ _ _ _ _)
   | (with_reducible exact ih2 _ _ _ _ _ _ _ _ _ _ _ _ _ _ _ _ _ _ _ _ _ _ _ _ _ _ _)
   | (with_reducible exact ih3 _ _ _ _ _ _ _ _ _ _ _ _)
   | (with_reducible exact interp_Exec.mono _ _ _ _ _ _)
   | (with_reducible exact regcertlaw09_awake.mono _)
   | (with_reducible exact regcertref09_Right.mono _ _ _ _ _ _)
   | (with_reducible exact regcertref09_Same.mono _ _ _ _ _ _ _ _ _ _ _ _ _ _ _ _ _)
   | (with_reducible exact regcertref09_Values.mono _ _ _)
   | (with_reducible exact LeO.refl _)
   | (with_reducible exact LeO.none _)
   | (with_reducible refine LeO.ite ?_ ?_)
   | (with_reducible refine LeO.bind ?_ (fun _ => ?_))
   | exact ih0 _ _ _ _ _ _
   | exact ih1 _ _ _ _ _ _ _ _ _ _ _ _ _ _ _ _ _ _ _ _ _ _ _ _ _ _ _
   | exact ih2 _ _ _ _ _ _ _ _ _ _ _ _ _ _ _ _ _ _ _ _ _ _ _ _ _ _ _
   | exact ih3 _ _ _ _ _ _ _ _ _ _ _ _
   | exact interp_Exec.mono _ _ _ _ _ _
   | exact regcertlaw09_awake.mono _
   | exact regcertref09_Right.mono _ _ _ _ _ _
   | exact regcertref09_Same.mono _ _ _ _ _ _ _ _ _ _ _ _ _ _ _ _ _
   | exact regcertref09_Values.mono _ _ _
   | exact LeO.none _
   | refine LeO.ite ?_ ?_
   | refine LeO.bind ?_ (fun _ => ?_)
  ·intro y0 y1 y2 y3 y4 y5 y6 y7 y8 y9 y10 y11 y12 y13 y14 y15 y16 y17 y18 y19 y20 y21 y22 y23 y24 y25 y26
   unfold regcertlaw09_InterpKeeps.l0
   repeat' first
   | (with_reducible exact ih0 _ _ _ _ _ _)
   | (with_reducible exact ih1 _ _ _ _ _ _ _ _ _ _ _ _ _ _ _ _ _ _ _ _ _ _ _ _ _ _ _)
   | (with_reducible exact ih2 _ _ _ _ _ _ _ _ _ _ _ _ _ _ _ _ _ _ _ _ _ _ _ _ _ _ _)
   | (with_reducible exact ih3 _ _ _ _ _ _ _ _ _ _ _ _)
   | (with_reducible exact interp_Exec.mono _ _ _ _ _ _)
   | (with_reducible exact regcertlaw09_awake.mono _)
   | (with_reducible exact regcertref09_Right.mono _ _ _ _ _ _)
   | (with_reducible exact regcertref09_Same.mono _ _ _ _ _ _ _ _ _ _ _ _ _ _ _ _ _)
   | (with_reducible exact regcertref09_Values.mono _ _ _)
   | (with_reducible exact LeO.refl _)
   | (with_reducible exact LeO.none _)
   | (with_reducible refine LeO.ite ?_ ?_)
   | (with_reducible refine LeO.bind ?_ (fun _ => ?_))
   | exact ih0 _ _ _ _ _ _
   | exact ih1 _ _ _ _ _ _ _ _ _ _ _ _ _ _ _ _ _ _ _ _ _ _ _ _ _ _ _
   | exact ih2 _ _ _ _ _ _ _ _ _ _ _ _ _ _ _ _ _ _ _ _ _ _ _ _ _ _ _
   | exact ih3 _ _ _ _ _ _ _ _ _ _ _ _
   | exact interp_Exec.mono _ _ _ _ _ _
   | exact regcertlaw09_awake.mono _
   | exact regcertref09_Right.mono _ _ _ _ _ _
   | exact regcertref09_Same.mono _ _ _ _ _ _ _ _ _ _ _ _ _ _ _ _ _
   | exact regcertref09_Values.mono _ _ _
   | exact LeO.none _
   | refine LeO.ite ?_ ?_
   | refine LeO.bind ?_ (fun _ => ?_)
  ·intro y0 y1 y2 y3 y4 y5 y6 y7 y8 y9 y10 y11 y12 y13 y14 y15 y16 y17 y18 y19 y20 y21 y22 y23 y24 y25 y26
   unfold regcertlaw09_InterpKeeps.l1
   repeat' first
   | (with_reducible exact ih0 _ _ _ _ _ _)
   | (with_reducible exact ih1 _ _ _ _ _ _ _ _ _ _ _ _ _ _ _ _ _ _ _ _ _ _ _ _ _ _ _)
   | (with_reducible exact ih2 _ _ _ _ _ _ _ _ _ _ _ _ _ _ _ _ _ _ _ _ _ _ _ _ _ _ _)
   | (with_reducible exact ih3 _ _ _ _ _ _ _ _ _ _ _ _)
   | (with_reducible exact interp_Exec.mono _ _ _ _ _ _)
   | (with_reducible exact regcertlaw09_awake.mono _)
   | (with_reducible exact regcertref09_Right.mono _ _ _ _ _ _)
   | (with_reducible exact regcertref09_Same.mono _ _ _ _ _ _ _ _ _ _ _ _ _ _ _ _ _)
   | (with_reducible exact regcertref09_Values.mono _ _ _)
   | (with_reducible exact LeO.refl _)
   | (with_reducible exact LeO.none _)
   | (with_reducible refine LeO.ite ?_ ?_)
   | (with_reducible refine LeO.bind ?_ (fun _ => ?_))
   | exact ih0 _ _ _ _ _ _
   | exact ih1 _ _ _ _ _ _ _ _ _ _ _ _ _ _ _ _ _ _ _ _ _ _ _ _ _ _ _
   | exact ih2 _ _ _ _ _ _ _ _ _ _ _ _ _ _ _ _ _ _ _ _ _ _ _ _ _ _ _
   | exact ih3 _ _ _ _ _ _ _ _ _ _ _ _
   | exact interp_Exec.mono _ _ _ _ _ _
   | exact regcertlaw09_awake.mono _
   | exact regcertref09_Right.mono _ _ _ _ _ _
   | exact regcertref09_Same.mono _ _ _ _ _ _ _ _ _ _ _ _ _ _ _ _ _
   | exact regcertref09_Values.mono _ _ _
   | exact LeO.none _
   | refine LeO.ite ?_ ?_
   | refine LeO.bind ?_ (fun _ => ?_)
  ·intro y0 y1 y2 y3 y4 y5 y6 y7 y8 y9 y10 y11
   unfold regcertlaw09_InterpKeeps.l2
   repeat' first
   | (with_reducible exact ih0 _ _ _ _ _ _)
   | (with_reducible exact ih1 _ _ _ _ _ _ _ _ _ _ _ _ _ _ _ _ _ _ _ _ _ _ _ _ _ _ _)
   | (with_reducible exact ih2 _ _ _ _ _ _ _ _ _ _ _ _ _ _ _ _ _ _ _ _ _ _ _ _ _ _ _)
   | (with_reducible exact ih3 _ _ _ _ _ _ _ _ _ _ _ _)
   | (with_reducible exact interp_Exec.mono _ _ _ _ _ _)
   | (with_reducible exact regcertlaw09_awake.mono _)
   | (with_reducible exact regcertref09_Right.mono _ _ _ _ _ _)
   | (with_reducible exact regcertref09_Same.mono _ _ _ _ _ _ _ _ _ _ _ _ _ _ _ _ _)
   | (with_reducible exact regcertref09_Values.mono _ _ _)
   | (with_reducible exact LeO.refl _)
   | (with_reducible exact LeO.none _)
   | (with_reducible refine LeO.ite ?_ ?_)
   | (with_reducible refine LeO.bind ?_ (fun _ => ?_))
   | exact ih0 _ _ _ _ _ _
   | exact ih1 _ _ _ _ _ _ _ _ _ _ _ _ _ _ _ _ _ _ _ _ _ _ _ _ _ _ _
   | exact ih2 _ _ _ _ _ _ _ _ _ _ _ _ _ _ _ _ _ _ _ _ _ _ _ _ _ _ _
   | exact ih3 _ _ _ _ _ _ _ _ _ _ _ _
   | exact interp_Exec.mono _ _ _ _ _ _
   | exact regcertlaw09_awake.mono _
   | exact regcertref09_Right.mono _ _ _ _ _ _
   | exact regcertref09_Same.mono _ _ _ _ _ _ _ _ _ _ _ _ _ _ _ _ _
   | exact regcertref09_Values.mono _ _ _
   | exact LeO.none _
   | refine LeO.ite ?_ ?_
   | refine LeO.bind ?_ (fun _ => ?_)
theorem regcertlaw09_InterpKeeps.mono : ∀ a0 a1 a2 a3 a4 k, LeO (regcertlaw09_InterpKeeps.f k a0 a1 a2 a3 a4) (regcertlaw09_InterpKeeps.f (k + 1) a0 a1 a2 a3 a4) := by
 intro a0 a1 a2 a3 a4 k
 obtain ⟨ih0, ih1, ih2, ih3⟩ := regcertlaw09_InterpKeeps.mono_l k
 unfold regcertlaw09_InterpKeeps.f
 repeat' first
   | (with_reducible exact ih0 _ _ _ _ _ _)
   | (with_reducible exact ih1 _ _ _ _ _ _ _ _ _ _ _ _ _ _ _ _ _ _ _ _ _ _ _ _ _ _ _)
   | (with_reducible exact ih2 _ _ _ _ _ _ _ _ _ _ _ _ _ _ _ _ _ _ _ _ _ _ _ _ _ _ _)
   | (with_reducible exact ih3 _ _ _ _ _ _ _ _ _ _ _ _)
   | (with_reducible exact interp_Exec.mono _ _ _ _ _ _)
   | (with_reducible exact regcertlaw09_awake.mono _)
   | (with_reducible exact regcertref09_Right.mono _ _ _ _ _ _)
   | (with_reducible exact regcertref09_Same.mono _ _ _ _ _ _ _ _ _ _ _ _ _ _ _ _ _)
   | (with_reducible exact regcertref09_Values.mono _ _ _)
   | (with_reducible exact LeO.refl _)
   | (with_reducible exact LeO.none _)
   | (with_reducible refine LeO.ite ?_ ?_)
   | (with_reducible refine LeO.bind ?_ (fun _ => ?_))
   | exact ih0 _ _ _ _ _ _
   | exact ih1 _ _ _ _ _ _ _ _ _ _ _ _ _ _ _ _ _ _ _ _ _ _ _ _ _ _ _
   | exact ih2 _ _ _ _ _ _ _ _ _ _ _ _ _ _ _ _ _ _ _ _ _ _ _ _ _ _ _
   | exact ih3 _ _ _ _ _ _ _ _ _ _ _ _
   | exact interp_Exec.mono _ _ _ _ _ _
   | exact regcertlaw09_awake.mono _
   | exact regcertref09_Right.mono _ _ _ _ _ _
   | exact regcertref09_Same.mono _ _ _ _ _ _ _ _ _ _ _ _ _ _ _ _ _
   | exact regcertref09_Values.mono _ _ _
   | exact LeO.none _
   | refine LeO.ite ?_ ?_
   | refine LeO.bind ?_ (fun _ => ?_)
set_option maxHeartbeats 8000000 in
set_option maxRecDepth 100000 in
theorem regcertlaw09_InterpKeeps.calls (k : Nat) (a0_0 : Int) (a0_1 : Int) (A0_2 : Option Addr) (c0_2 : Nat) (l0_2 : List (S50)) (A1 : Option Addr) (c1 : Nat) (l1 : List Int) (a2 : Int) (r : Bool) (w : World) (hr0_2 : Kd.C k50 w A0_2 l0_2.length l0_2) (hc0_2 : l0_2.length ≤ c0_2) (hr1 : Kd.C (Kd.int .i64) w A1 l1.length l1) (hc1 : l1.length ≤ c1) (h : regcertlaw09_InterpKeeps.f k a0_0 a0_1 l0_2 l1 a2 = some r) :
  Calls Try.prog 10 #[.agg #[.int .i64 a0_0, .int .i64 a0_1, .slice A0_2 l0_2.length c0_2], .slice A1 l1.length c1, .int .u8 a2] w fun e w' => e = .returned (.bool r) ∧ Below w.heap.size w w' := by
 have hu34 := Try.underlying34
 have hu39 := Try.underlying39
 have HR0_2 := As0 hr0_2
 have HC0_2 := As0 hc0_2
 clear hr0_2 hc0_2
 have HR1 := As0 hr1
 have HC1 := As0 hc1
 clear hr1 hc1
 have HB := As0 (Below.refl w.heap.size w)
 have H : ((regcertlaw09_awake.f k).bind fun t223 => (if t223 = true then ((regcertref09_Right.f k a0_0 a0_1 l0_2 l1 0).bind fun t224 => (if t224 = true then (regcertlaw09_InterpKeeps.j0 k l1 a2 ((l1.length : Int) != a0_0) a0_0 a0_1 l0_2) else (regcertlaw09_InterpKeeps.j0 k l1 a2 true a0_0 a0_1 l0_2))) else (regcertlaw09_InterpKeeps.j0 k l1 a2 true a0_0 a0_1 l0_2))) = some r := h
 clear h
 have HC4 := As0 H
 clear H
 go_enter Try.func10, Try.ntmps10
 go_upto_region 1 with (first | ((with_reducible refine gate_dst (N := 3) rfl ?_); (try (refine gate_guard (by rfl) ?_; dsimp only)); refine box_event ?hg (N := 3) ?hd (cs := #[.int .i64 a0_0, .int .i64 a0_1, .slice A0_2 l0_2.length c0_2]) (t := 34) ?hr ?_; (case hd => rfl); (case hg => rfl); (case hr => first | (go_simp; done) | (go_simp; rfl)); intro gb222 hg w5 hbox hb; have n0_ := As0 (below_step (by repeat (first | (with_reducible first | exact HB.out | apply below_alloc | apply bdN | apply bd1) | exact HB.out)) hb); have n1_ := As0 (hbox); have n2_ := As0 ((by rw [hg]; exact (below_size (by repeat (first | (with_reducible first | exact HB.out | apply below_alloc | apply bdN | apply bd1) | exact HB.out))) : w.heap.size ≤ gb222)); have n3_ := As0 ((by rw [hg]; exact (below_size (by repeat (first | (with_reducible first | exact HB.out | apply below_alloc | apply bdN | apply bd1) | exact HB.out))) : w.heap.size ≤ gb222)); clear HB; have HB := n0_; have BK222 := n1_; have GW222 := n2_; have GE222 := n3_; clear n0_ n1_ n2_ n3_; clear hb hbox hg))
 (try simp only [Act.put, sL1, sL2, sL3])
 go_cut [30] (fun v30 wc => ∃ (kq : Nat) (x30_3 : Bool), v30 = .bool x30_3 ∧ Aside0 (regcertlaw09_InterpKeeps.j0 kq l1 a2 x30_3 a0_0 a0_1 l0_2 = some r) ∧ Aside0 (kq ≤ k) ∧ Aside0 (wc.heap[gb222]? = some (.cells #[.int .i64 a0_0, .int .i64 a0_1, (.slice A0_2 l0_2.length c0_2)] 34 (0, 0))) ∧ Aside0 (Below w.heap.size w wc))
 case first =>
  have H := HC4.out
  clear HC4
  replace H := Option.bind_eq_some_iff.mp H
  obtain ⟨t223, A60, H⟩ := H
  replace H : (if t223 = true then ((regcertref09_Right.f k a0_0 a0_1 l0_2 l1 0).bind fun t224 => (if t224 = true then (regcertlaw09_InterpKeeps.j0 k l1 a2 ((l1.length : Int) != a0_0) a0_0 a0_1 l0_2) else (regcertlaw09_InterpKeeps.j0 k l1 a2 true a0_0 a0_1 l0_2))) else (regcertlaw09_InterpKeeps.j0 k l1 a2 true a0_0 a0_1 l0_2)) = some r := H
  have A6 := As0 A60
  clear A60
  by_cases c7 : t223 = true
  ·subst c7
   have H1 : ((regcertref09_Right.f k a0_0 a0_1 l0_2 l1 0).bind fun t224 => (if t224 = true then (regcertlaw09_InterpKeeps.j0 k l1 a2 ((l1.length : Int) != a0_0) a0_0 a0_1 l0_2) else (regcertlaw09_InterpKeeps.j0 k l1 a2 true a0_0 a0_1 l0_2))) = some r := by rw [if_pos rfl] at H; exact H
   clear H
   have H := H1
   clear H1
   replace H := Option.bind_eq_some_iff.mp H
   obtain ⟨t224, A80, H⟩ := H
   replace H : (if t224 = true then (regcertlaw09_InterpKeeps.j0 k l1 a2 ((l1.length : Int) != a0_0) a0_0 a0_1 l0_2) else (regcertlaw09_InterpKeeps.j0 k l1 a2 true a0_0 a0_1 l0_2)) = some r := H
   have A8 := As0 A80
   clear A80
   by_cases c9 : t224 = true
   ·subst c9
    have H1 : (regcertlaw09_InterpKeeps.j0 k l1 a2 ((l1.length : Int) != a0_0) a0_0 a0_1 l0_2) = some r := by rw [if_pos rfl] at H; exact H
    clear H
    have H := H1
    clear H1
    have H' := As0 H
    clear H
    go_wp2_with (first | ((with_reducible refine gate_callee (f := 29) rfl ?_); refine goesL_ (some 16) rfl rfl Try.func29 (by kernel_rfl) rfl #[] rfl (by (try simp only [List.map_toArray, List.map_cons, List.map_nil]); first | done | rfl | (simp only [List.length_drop, List.length_take]; rfl)) ?_; (with_reducible refine (regcertlaw09_awake.calls k  true _ A6.out).mono ?_); rintro e w10 ⟨rfl, hb⟩; refine ⟨_, rfl, ?_⟩; have n0_ := As0 (blk_below (g := gb222) (o := .cells #[.int .i64 a0_0, .int .i64 a0_1, .slice A0_2 l0_2.length c0_2] 34 (0, 0)) (by (with_reducible repeat (first | refine blk_drewN ?_ _ | refine blk_drew ?_ | refine blk_alloc ?_ _)); exact BK222.out) hb); have n1_ := As0 (below_step (by repeat (first | (with_reducible first | exact HB.out | apply below_alloc | apply bdN | apply bd1 | refine below_set ?_ GE222.out) | exact HB.out)) hb); clear BK222; clear HB; have BK222 := n0_; have HB := n1_; clear n0_ n1_; (try clear hb); (try clear hb2); (try clear hk); (try clear hi); have hcz11_0 : w10.cell? ⟨gb222, 0, none⟩ = some (.int .i64 a0_0) := (blk_cell BK222.out 0).trans rfl; have hcz11_1 : w10.cell? ⟨gb222, 1, none⟩ = some (.int .i64 a0_1) := (blk_cell BK222.out 1).trans rfl; have hcz11_2 : w10.cell? ⟨gb222, 2, none⟩ = some (.slice A0_2 l0_2.length c0_2) := (blk_cell BK222.out 2).trans rfl; have hfz11_0 := blk_frozen BK222.out 0; have hfz11_1 := blk_frozen BK222.out 1; have hfz11_2 := blk_frozen BK222.out 2) | (go_at_call 30; (with_reducible refine (regcertref09_Right.calls k a0_0 a0_1 _ _ l0_2 _ _ l1 0 true _ ?side1 ?side2 ?side3 ?side4 A8.out).mono ?_); (case side1 => repeat (first | exact (Kd.C_below HR0_2.out HB.out) | (with_reducible refine Kd.C_alloc ?_ _) | (with_reducible refine Kd.C_drewN ?_ _) | (with_reducible refine Kd.C_drew ?_))); (case side2 => exact HC0_2.out); (case side3 => repeat (first | exact (Kd.C_below HR1.out HB.out) | (with_reducible refine Kd.C_alloc ?_ _) | (with_reducible refine Kd.C_drewN ?_ _) | (with_reducible refine Kd.C_drew ?_))); (case side4 => exact HC1.out); rintro e w12 ⟨rfl, hb⟩; have n0_ := As0 (blk_below (g := gb222) (o := .cells #[.int .i64 a0_0, .int .i64 a0_1, .slice A0_2 l0_2.length c0_2] 34 (0, 0)) (by (with_reducible repeat (first | refine blk_drewN ?_ _ | refine blk_drew ?_ | refine blk_alloc ?_ _)); exact BK222.out) hb); have n1_ := As0 (below_step (by repeat (first | (with_reducible first | exact HB.out | apply below_alloc | apply bdN | apply bd1 | refine below_set ?_ GE222.out) | exact HB.out)) hb); clear BK222; clear HB; have BK222 := n0_; have HB := n1_; clear n0_ n1_; (try clear hb); (try clear hb2); (try clear hk); (try clear hi); have hcz13_0 : w12.cell? ⟨gb222, 0, none⟩ = some (.int .i64 a0_0) := (blk_cell BK222.out 0).trans rfl; have hcz13_1 : w12.cell? ⟨gb222, 1, none⟩ = some (.int .i64 a0_1) := (blk_cell BK222.out 1).trans rfl; have hcz13_2 : w12.cell? ⟨gb222, 2, none⟩ = some (.slice A0_2 l0_2.length c0_2) := (blk_cell BK222.out 2).trans rfl; have hfz13_0 := blk_frozen BK222.out 0; have hfz13_1 := blk_frozen BK222.out 1; have hfz13_2 := blk_frozen BK222.out 2))
    go_meet
    case rel => exact ⟨_, (((l1.length : Int) != a0_0)), (by first | rfl | (simp; done) | (simp [*]; done)), H', ⟨by first | omega | exact Nat.le_refl _⟩, ⟨by (with_reducible repeat (first | refine blk_drewN ?_ _ | refine blk_drew ?_ | refine blk_alloc ?_ _)); exact BK222.out⟩, ⟨by repeat (first | (with_reducible first | exact HB.out | apply below_alloc | apply bdN | apply bd1 | refine below_set ?_ GE222.out) | exact HB.out)⟩⟩
   ·replace c9 := Bool.eq_false_iff.mpr c9
    subst c9
    have H1 : (regcertlaw09_InterpKeeps.j0 k l1 a2 true a0_0 a0_1 l0_2) = some r := by rw [if_neg (show ¬ (false = true) by decide)] at H; exact H
    clear H
    have H := H1
    clear H1
    have H' := As0 H
    clear H
    go_wp2_with (first | ((with_reducible refine gate_callee (f := 29) rfl ?_); refine goesL_ (some 16) rfl rfl Try.func29 (by kernel_rfl) rfl #[] rfl (by (try simp only [List.map_toArray, List.map_cons, List.map_nil]); first | done | rfl | (simp only [List.length_drop, List.length_take]; rfl)) ?_; (with_reducible refine (regcertlaw09_awake.calls k  true _ A6.out).mono ?_); rintro e w14 ⟨rfl, hb⟩; refine ⟨_, rfl, ?_⟩; have n0_ := As0 (blk_below (g := gb222) (o := .cells #[.int .i64 a0_0, .int .i64 a0_1, .slice A0_2 l0_2.length c0_2] 34 (0, 0)) (by (with_reducible repeat (first | refine blk_drewN ?_ _ | refine blk_drew ?_ | refine blk_alloc ?_ _)); exact BK222.out) hb); have n1_ := As0 (below_step (by repeat (first | (with_reducible first | exact HB.out | apply below_alloc | apply bdN | apply bd1 | refine below_set ?_ GE222.out) | exact HB.out)) hb); clear BK222; clear HB; have BK222 := n0_; have HB := n1_; clear n0_ n1_; (try clear hb); (try clear hb2); (try clear hk); (try clear hi); have hcz15_0 : w14.cell? ⟨gb222, 0, none⟩ = some (.int .i64 a0_0) := (blk_cell BK222.out 0).trans rfl; have hcz15_1 : w14.cell? ⟨gb222, 1, none⟩ = some (.int .i64 a0_1) := (blk_cell BK222.out 1).trans rfl; have hcz15_2 : w14.cell? ⟨gb222, 2, none⟩ = some (.slice A0_2 l0_2.length c0_2) := (blk_cell BK222.out 2).trans rfl; have hfz15_0 := blk_frozen BK222.out 0; have hfz15_1 := blk_frozen BK222.out 1; have hfz15_2 := blk_frozen BK222.out 2) | (go_at_call 30; (with_reducible refine (regcertref09_Right.calls k a0_0 a0_1 _ _ l0_2 _ _ l1 0 false _ ?side1 ?side2 ?side3 ?side4 A8.out).mono ?_); (case side1 => repeat (first | exact (Kd.C_below HR0_2.out HB.out) | (with_reducible refine Kd.C_alloc ?_ _) | (with_reducible refine Kd.C_drewN ?_ _) | (with_reducible refine Kd.C_drew ?_))); (case side2 => exact HC0_2.out); (case side3 => repeat (first | exact (Kd.C_below HR1.out HB.out) | (with_reducible refine Kd.C_alloc ?_ _) | (with_reducible refine Kd.C_drewN ?_ _) | (with_reducible refine Kd.C_drew ?_))); (case side4 => exact HC1.out); rintro e w16 ⟨rfl, hb⟩; have n0_ := As0 (blk_below (g := gb222) (o := .cells #[.int .i64 a0_0, .int .i64 a0_1, .slice A0_2 l0_2.length c0_2] 34 (0, 0)) (by (with_reducible repeat (first | refine blk_drewN ?_ _ | refine blk_drew ?_ | refine blk_alloc ?_ _)); exact BK222.out) hb); have n1_ := As0 (below_step (by repeat (first | (with_reducible first | exact HB.out | apply below_alloc | apply bdN | apply bd1 | refine below_set ?_ GE222.out) | exact HB.out)) hb); clear BK222; clear HB; have BK222 := n0_; have HB := n1_; clear n0_ n1_; (try clear hb); (try clear hb2); (try clear hk); (try clear hi)))
    go_meet
    case rel => exact ⟨_, (true), (by first | rfl | (simp; done) | (simp [*]; done)), H', ⟨by first | omega | exact Nat.le_refl _⟩, ⟨by (with_reducible repeat (first | refine blk_drewN ?_ _ | refine blk_drew ?_ | refine blk_alloc ?_ _)); exact BK222.out⟩, ⟨by repeat (first | (with_reducible first | exact HB.out | apply below_alloc | apply bdN | apply bd1 | refine below_set ?_ GE222.out) | exact HB.out)⟩⟩
  ·replace c7 := Bool.eq_false_iff.mpr c7
   subst c7
   have H1 : (regcertlaw09_InterpKeeps.j0 k l1 a2 true a0_0 a0_1 l0_2) = some r := by rw [if_neg (show ¬ (false = true) by decide)] at H; exact H
   clear H
   have H := H1
   clear H1
   have H' := As0 H
   clear H
   go_wp2_with (first | ((with_reducible refine gate_callee (f := 29) rfl ?_); refine goesL_ (some 16) rfl rfl Try.func29 (by kernel_rfl) rfl #[] rfl (by (try simp only [List.map_toArray, List.map_cons, List.map_nil]); first | done | rfl | (simp only [List.length_drop, List.length_take]; rfl)) ?_; (with_reducible refine (regcertlaw09_awake.calls k  false _ A6.out).mono ?_); rintro e w17 ⟨rfl, hb⟩; refine ⟨_, rfl, ?_⟩; have n0_ := As0 (blk_below (g := gb222) (o := .cells #[.int .i64 a0_0, .int .i64 a0_1, .slice A0_2 l0_2.length c0_2] 34 (0, 0)) (by (with_reducible repeat (first | refine blk_drewN ?_ _ | refine blk_drew ?_ | refine blk_alloc ?_ _)); exact BK222.out) hb); have n1_ := As0 (below_step (by repeat (first | (with_reducible first | exact HB.out | apply below_alloc | apply bdN | apply bd1 | refine below_set ?_ GE222.out) | exact HB.out)) hb); clear BK222; clear HB; have BK222 := n0_; have HB := n1_; clear n0_ n1_; (try clear hb); (try clear hb2); (try clear hk); (try clear hi)))
   go_meet
   case rel => exact ⟨_, (true), (by first | rfl | (simp; done) | (simp [*]; done)), H', ⟨by first | omega | exact Nat.le_refl _⟩, ⟨by (with_reducible repeat (first | refine blk_drewN ?_ _ | refine blk_drew ?_ | refine blk_alloc ?_ _)); exact BK222.out⟩, ⟨by repeat (first | (with_reducible first | exact HB.out | apply below_alloc | apply bdN | apply bd1 | refine below_set ?_ GE222.out) | exact HB.out)⟩⟩
 case rest =>
  clear HC4
  try clear c1
  try clear c2
  try clear p2
  try clear c7
  try clear c9
  try clear c10
  try clear hcz11_0
  try clear hcz11_1
  try clear hcz11_2
  try clear hcz13_0
  try clear hcz13_1
  try clear hcz13_2
  try clear hcz15_0
  try clear hcz15_1
  try clear hcz15_2
  try clear hfz11_0
  try clear hfz11_1
  try clear hfz11_2
  try clear hfz13_0
  try clear hfz13_1
  try clear hfz13_2
  try clear hfz15_0
  try clear hfz15_1
  try clear hfz15_2
  obtain ⟨kq, x30_3, rfl, HA, HJ3, BK222, HB⟩ := hcut
  cases kq with
  | zero => exact absurd HA.out (by simp [regcertlaw09_InterpKeeps.j0])
  | succ kj3 =>
   have H := HA.out
   clear HA
   simp only [regcertlaw09_InterpKeeps.j0] at H
   by_cases c18 : x30_3 = true
   ·subst c18
    have H1 : ((regcertlaw09_awake.f kj3).bind fun t225 => (some t225)) = some r := by rw [if_pos rfl] at H; exact H
    clear H
    have H := H1
    clear H1
    replace H := Option.bind_eq_some_iff.mp H
    obtain ⟨t225, A190, H⟩ := H
    replace H : (some t225) = some r := H
    have A19 := As0 A190
    clear A190
    obtain rfl := Option.some.inj H
    go_wp2_with (first | ((with_reducible refine gate_callee (f := 29) rfl ?_); refine goesL_ (some 31) rfl rfl Try.func29 (by kernel_rfl) rfl #[] rfl (by (try simp only [List.map_toArray, List.map_cons, List.map_nil]); first | done | rfl | (simp only [List.length_drop, List.length_take]; rfl)) ?_; (with_reducible refine (regcertlaw09_awake.calls kj3  t225 _ A19.out).mono ?_); rintro e w20 ⟨rfl, hb⟩; refine ⟨_, rfl, ?_⟩; have n0_ := As0 (blk_below (g := gb222) (o := .cells #[.int .i64 a0_0, .int .i64 a0_1, .slice A0_2 l0_2.length c0_2] 34 (0, 0)) (by (with_reducible repeat (first | refine blk_drewN ?_ _ | refine blk_drew ?_ | refine blk_alloc ?_ _)); exact BK222.out) hb); have n1_ := As0 (below_step (by repeat (first | (with_reducible first | exact HB.out | apply below_alloc | apply bdN | apply bd1 | refine below_set ?_ GE222.out) | exact HB.out)) hb); clear BK222; clear HB; have BK222 := n0_; have HB := n1_; clear n0_ n1_; (try clear hb); (try clear hb2); (try clear hk); (try clear hi)))
    go_ret
    exact ⟨by first | rfl | (simp [errW_none, errW_some] <;> rfl) | (simp [*, errW_none, errW_some] <;> rfl), by repeat (first | (with_reducible first | exact HB.out | apply below_alloc | apply bdN | apply bd1 | refine below_set ?_ GE222.out) | exact HB.out)⟩
   ·replace c18 := Bool.eq_false_iff.mpr c18
    subst c18
    have H1 : ((some (([] : List Int) : List Int)).bind fun y226 => (if y226.length + l1.length < 17592186044416 then ((some (y226 ++ l1 : List Int)).bind fun y229 => ((interp_Exec.f kj3 a0_0 a0_1 l0_2 y229 (Int.tmod (wrap64 (a2)) 60)).bind fun bt232 => ((regcertref09_Copy.f bt232.1 bt232.2.1 bt232.2.2.1 bt232.2.2.2.1 bt232.2.2.2.2.1 bt232.2.2.2.2.2.1 bt232.2.2.2.2.2.2.1 bt232.2.2.2.2.2.2.2.1).bind fun bt248 => ((interp_Step.f a0_0 a0_1 l0_2 bt232.1 bt232.2.1 bt232.2.2.1 bt232.2.2.2.1 bt232.2.2.2.2.1 bt232.2.2.2.2.2.1 bt232.2.2.2.2.2.2.1 bt232.2.2.2.2.2.2.2.1).bind fun bt263 => (regcertlaw09_InterpKeeps.l0 kj3 l1 y229 0 bt232.1 bt232.2.1 bt232.2.2.1 bt232.2.2.2.1 bt232.2.2.2.2.1 bt232.2.2.2.2.2.1 bt232.2.2.2.2.2.2.1 bt232.2.2.2.2.2.2.2.1 bt248.1 bt248.2.1 bt248.2.2.1 bt248.2.2.2.1 bt248.2.2.2.2.1 bt248.2.2.2.2.2.1 bt248.2.2.2.2.2.2.1 bt248.2.2.2.2.2.2.2 bt263.1 bt263.2.1 bt263.2.2.1 bt263.2.2.2.1 bt263.2.2.2.2.1 bt263.2.2.2.2.2.1 bt263.2.2.2.2.2.2.1 bt263.2.2.2.2.2.2.2))))) else (none))) = some r := by rw [if_neg (show ¬ (false = true) by decide)] at H; exact H
    clear H
    have H := H1
    clear H1
    obtain ⟨y226, hy226⟩ : ∃ y_ : List Int, y_ = (([] : List Int)) := ⟨_, rfl⟩
    replace H : (if y226.length + l1.length < 17592186044416 then ((some (y226 ++ l1 : List Int)).bind fun y229 => ((interp_Exec.f kj3 a0_0 a0_1 l0_2 y229 (Int.tmod (wrap64 (a2)) 60)).bind fun bt232 => ((regcertref09_Copy.f bt232.1 bt232.2.1 bt232.2.2.1 bt232.2.2.2.1 bt232.2.2.2.2.1 bt232.2.2.2.2.2.1 bt232.2.2.2.2.2.2.1 bt232.2.2.2.2.2.2.2.1).bind fun bt248 => ((interp_Step.f a0_0 a0_1 l0_2 bt232.1 bt232.2.1 bt232.2.2.1 bt232.2.2.2.1 bt232.2.2.2.2.1 bt232.2.2.2.2.2.1 bt232.2.2.2.2.2.2.1 bt232.2.2.2.2.2.2.2.1).bind fun bt263 => (regcertlaw09_InterpKeeps.l0 kj3 l1 y229 0 bt232.1 bt232.2.1 bt232.2.2.1 bt232.2.2.2.1 bt232.2.2.2.2.1 bt232.2.2.2.2.2.1 bt232.2.2.2.2.2.2.1 bt232.2.2.2.2.2.2.2.1 bt248.1 bt248.2.1 bt248.2.2.1 bt248.2.2.2.1 bt248.2.2.2.2.1 bt248.2.2.2.2.2.1 bt248.2.2.2.2.2.2.1 bt248.2.2.2.2.2.2.2 bt263.1 bt263.2.1 bt263.2.2.1 bt263.2.2.2.1 bt263.2.2.2.2.1 bt263.2.2.2.2.2.1 bt263.2.2.2.2.2.2.1 bt263.2.2.2.2.2.2.2))))) else (none)) = some r := by first | (rw [hy226]; with_reducible exact H) | (have H2_ := (Option.bind_some _ _).symm.trans H; rw [hy226]; with_reducible exact H2_) | (have H2_ := (Option.bind_some _ _).symm.trans H; with_reducible exact H2_) | with_reducible exact H | (rw [hy226]; exact H) | exact H
    have Ny226 := As0 hy226
    clear hy226
    by_cases c21 : y226.length + l1.length < 17592186044416
    ·rw [if_pos c21] at H
     have LMc21 := As0 c21
     clear c21
     obtain ⟨y229, hy229⟩ : ∃ y_ : List Int, y_ = (y226 ++ l1) := ⟨_, rfl⟩
     replace H : ((interp_Exec.f kj3 a0_0 a0_1 l0_2 y229 (Int.tmod (wrap64 (a2)) 60)).bind fun bt232 => ((regcertref09_Copy.f bt232.1 bt232.2.1 bt232.2.2.1 bt232.2.2.2.1 bt232.2.2.2.2.1 bt232.2.2.2.2.2.1 bt232.2.2.2.2.2.2.1 bt232.2.2.2.2.2.2.2.1).bind fun bt248 => ((interp_Step.f a0_0 a0_1 l0_2 bt232.1 bt232.2.1 bt232.2.2.1 bt232.2.2.2.1 bt232.2.2.2.2.1 bt232.2.2.2.2.2.1 bt232.2.2.2.2.2.2.1 bt232.2.2.2.2.2.2.2.1).bind fun bt263 => (regcertlaw09_InterpKeeps.l0 kj3 l1 y229 0 bt232.1 bt232.2.1 bt232.2.2.1 bt232.2.2.2.1 bt232.2.2.2.2.1 bt232.2.2.2.2.2.1 bt232.2.2.2.2.2.2.1 bt232.2.2.2.2.2.2.2.1 bt248.1 bt248.2.1 bt248.2.2.1 bt248.2.2.2.1 bt248.2.2.2.2.1 bt248.2.2.2.2.2.1 bt248.2.2.2.2.2.2.1 bt248.2.2.2.2.2.2.2 bt263.1 bt263.2.1 bt263.2.2.1 bt263.2.2.2.1 bt263.2.2.2.2.1 bt263.2.2.2.2.2.1 bt263.2.2.2.2.2.2.1 bt263.2.2.2.2.2.2.2)))) = some r := by first | (rw [hy229]; with_reducible exact H) | (have H2_ := (Option.bind_some _ _).symm.trans H; rw [hy229]; with_reducible exact H2_) | (have H2_ := (Option.bind_some _ _).symm.trans H; with_reducible exact H2_) | with_reducible exact H | (rw [hy229]; exact H) | exact H
     have Ny229 := As0 hy229
     clear hy229
     replace H := Option.bind_eq_some_iff.mp H
     obtain ⟨⟨t232, t233, t234, t235, t236, t239, t242, t245, t246⟩, A220, H⟩ := H
     replace H : ((regcertref09_Copy.f t232 t233 t234 t235 t236 t239 t242 t245).bind fun bt248 => ((interp_Step.f a0_0 a0_1 l0_2 t232 t233 t234 t235 t236 t239 t242 t245).bind fun bt263 => (regcertlaw09_InterpKeeps.l0 kj3 l1 y229 0 t232 t233 t234 t235 t236 t239 t242 t245 bt248.1 bt248.2.1 bt248.2.2.1 bt248.2.2.2.1 bt248.2.2.2.2.1 bt248.2.2.2.2.2.1 bt248.2.2.2.2.2.2.1 bt248.2.2.2.2.2.2.2 bt263.1 bt263.2.1 bt263.2.2.1 bt263.2.2.2.1 bt263.2.2.2.2.1 bt263.2.2.2.2.2.1 bt263.2.2.2.2.2.2.1 bt263.2.2.2.2.2.2.2))) = some r := H
     have A22 := As0 A220
     clear A220
     replace H := Option.bind_eq_some_iff.mp H
     obtain ⟨⟨t248, t249, t250, t251, t252, t255, t258, t261⟩, A230, H⟩ := H
     replace H : ((interp_Step.f a0_0 a0_1 l0_2 t232 t233 t234 t235 t236 t239 t242 t245).bind fun bt263 => (regcertlaw09_InterpKeeps.l0 kj3 l1 y229 0 t232 t233 t234 t235 t236 t239 t242 t245 t248 t249 t250 t251 t252 t255 t258 t261 bt263.1 bt263.2.1 bt263.2.2.1 bt263.2.2.2.1 bt263.2.2.2.2.1 bt263.2.2.2.2.2.1 bt263.2.2.2.2.2.2.1 bt263.2.2.2.2.2.2.2)) = some r := H
     have A23 := As0 A230
     clear A230
     replace H := Option.bind_eq_some_iff.mp H
     obtain ⟨⟨t263, t264, t265, t266, t267, t270, t273, t276⟩, A240, H⟩ := H
     replace H : (regcertlaw09_InterpKeeps.l0 kj3 l1 y229 0 t232 t233 t234 t235 t236 t239 t242 t245 t248 t249 t250 t251 t252 t255 t258 t261 t263 t264 t265 t266 t267 t270 t273 t276) = some r := H
     have A24 := As0 A240
     clear A240
     have H' := As0 H
     clear H
     go_wp2_with (first | ((with_reducible refine gate_dst (N := 32) rfl ?_); (try (refine gate_guard (by rfl) ?_; dsimp only)); refine Kd.R_lit (Kd.int .i64) _ 2 ?hg (N := 32) ?hd (xs := ([] : List Int)) (inner := []) (ok := fun _ => True) (okp := fun _ => True) ?hr ?hp (fun _ hk => hk) trivial (Below.refl _ _) (Nat.le_refl _) (by simp) ?_; (case hd => rfl); (case hg => rfl); (case hr => first | (go_simp; done) | (go_simp; rfl)); (case hp => exact (Reps.none _ _)); intro v227 w25 ho26 hb hg_ hnew_; clear hg_ hnew_; (first | rw [← Ny226.out] at ho26 | (simp only [Int.reduceToNat] at ho26; rw [← Ny226.out] at ho26)); have n0_ := As0 (Kd.R_lower ho26 (below_size (by repeat (first | (with_reducible first | exact HB.out | apply below_alloc | apply bdN | apply bd1 | refine below_set ?_ GE222.out) | exact HB.out)))); have n1_ := As0 (blk_below (g := gb222) (o := .cells #[.int .i64 a0_0, .int .i64 a0_1, .slice A0_2 l0_2.length c0_2] 34 (0, 0)) (by (with_reducible repeat (first | refine blk_drewN ?_ _ | refine blk_drew ?_ | refine blk_alloc ?_ _)); exact BK222.out) hb); have n2_ := As0 (below_step (by repeat (first | (with_reducible first | exact HB.out | apply below_alloc | apply bdN | apply bd1 | refine below_set ?_ GE222.out) | exact HB.out)) hb); clear BK222; clear HB; have HO228 := n0_; have BK222 := n1_; have HB := n2_; clear n0_ n1_ n2_; clear hb ho26) | ((with_reducible refine gate_builtin (b := .append) (xs := #[.tmp 32, .tmp 33]) rfl ?_); (try (refine gate_guard (by rfl) ?_; dsimp only)); at_builtin; refine Kd.R_append_rows (Kd.int .i64) (w0 := w) w.heap.size rfl (.tmp 32) (.tmp 33) 35 2 (.int .i64 0) 8 rfl Try.underlying35 info2 rfl (by decide) (by omega) v227 y226 l1 _ _ _ (fun _ => True) (fun _ => False) rfl rfl ?aO ?aR (fun _ _ h => h) (fun _ h => h.elim) ?aF ?aB ?aS ?aL ?_; (case aR => repeat (first | exact (Kd.C_below HR1.out HB.out) | (with_reducible refine Kd.C_alloc ?_ _) | (with_reducible refine Kd.C_drewN ?_ _) | (with_reducible refine Kd.C_drew ?_))); (case aB => exact (by repeat (first | (with_reducible first | exact HB.out | apply below_alloc | apply bdN | apply bd1 | refine below_set ?_ GE222.out) | exact HB.out))); (case aF => exact (fun _ _ => trivial)); (case aO => exact (by (with_reducible repeat (first | apply Kd.R_alloc | apply Kd.R_drewN | apply Kd.R_drew)); exact HO228.out)); (case aS => exact (below_size (by repeat (first | (with_reducible first | exact HB.out | apply below_alloc | apply bdN | apply bd1 | refine below_set ?_ GE222.out) | exact HB.out)))); (case aL => have := LMc21.out; omega); intro v230 w27 ho hb hg hat; rw [← Ny229.out] at ho; have n0_ := As0 (blk_grown (g := gb222) (o := .cells #[.int .i64 a0_0, .int .i64 a0_1, .slice A0_2 l0_2.length c0_2] 34 (0, 0)) (by (with_reducible repeat (first | refine blk_drewN ?_ _ | refine blk_drew ?_ | refine blk_alloc ?_ _)); exact BK222.out) hg (Kd.R_ne HO228.out BK222.out (by decide))); have n1_ := As0 (hb); have n2_ := As0 (ho); clear BK222; clear HB; clear HO228; have BK222 := n0_; have HB := n1_; have HO231 := n2_; clear n0_ n1_ n2_; clear ho hb hg hat; have hcz28_0 : w27.cell? ⟨gb222, 0, none⟩ = some (.int .i64 a0_0) := (blk_cell BK222.out 0).trans rfl; have hcz28_1 : w27.cell? ⟨gb222, 1, none⟩ = some (.int .i64 a0_1) := (blk_cell BK222.out 1).trans rfl; have hcz28_2 : w27.cell? ⟨gb222, 2, none⟩ = some (.slice A0_2 l0_2.length c0_2) := (blk_cell BK222.out 2).trans rfl; have hfz28_0 := blk_frozen BK222.out 0; have hfz28_1 := blk_frozen BK222.out 1; have hfz28_2 := blk_frozen BK222.out 2; obtain ⟨Ao29, co29, eo29⟩ := Kd.R_slice HO231.out; subst eo29) | ((with_reducible refine gate_callee (f := 31) rfl ?_); refine goesL_ (some 41) rfl rfl Try.func31 (by kernel_rfl) rfl #[.agg #[.int .i64 a0_0, .int .i64 a0_1, .slice A0_2 l0_2.length c0_2], .slice Ao29 y229.length co29, .int .i64 (Int.tmod (wrap64 (a2)) 60)] rfl (by (try simp only [List.map_toArray, List.map_cons, List.map_nil]); first | done | rfl | (simp only [List.length_drop, List.length_take]; rfl)) ?_; (with_reducible refine (interp_Exec.calls kj3 a0_0 a0_1 _ _ l0_2 _ _ y229 (Int.tmod (wrap64 (a2)) 60) t232 t233 t234 t235 t236 t239 t242 t245 t246 _ ?side1 ?side2 ?side3 ?side4 A22.out).mono ?_); (case side1 => repeat (first | exact (Kd.C_below HR0_2.out HB.out) | (with_reducible refine Kd.C_alloc ?_ _) | (with_reducible refine Kd.C_drewN ?_ _) | (with_reducible refine Kd.C_drew ?_))); (case side2 => exact HC0_2.out); (case side3 => repeat (first | exact (Kd.R_reads' HO231.out).2.2 | (with_reducible refine Kd.C_alloc ?_ _) | (with_reducible refine Kd.C_drewN ?_ _) | (with_reducible refine Kd.C_drew ?_))); (case side4 => exact (Kd.R_reads' HO231.out).2.1); rintro e w30 ⟨v237, v240, v243, rfl, ho0, ho1, ho2, hb⟩; refine ⟨_, rfl, ?_⟩; have n0_ := As0 (Kd.R_mono (Kd.R_told (Kd.R_told (Kd.R_told (Kd.R_old (by (with_reducible repeat (first | apply Kd.R_alloc | apply Kd.R_drewN | apply Kd.R_drew)); exact HO231.out) hb) (Kd.R_base ho0)) (Kd.R_base ho1)) (Kd.R_base ho2)) (fun _ h_ => h_.1)); have n1_ := As0 (Kd.R_lower (Kd.R_new' ho0 (Kd.R_lt (by (with_reducible repeat (first | apply Kd.R_alloc | apply Kd.R_drewN | apply Kd.R_drew)); exact HO231.out))) (below_size (by repeat (first | (with_reducible first | exact HB.out | apply below_alloc | apply bdN | apply bd1 | refine below_set ?_ GE222.out) | exact HB.out)))); have n2_ := As0 (Kd.R_lower (Kd.R_new' ho1 (Kd.R_lt (by (with_reducible repeat (first | apply Kd.R_alloc | apply Kd.R_drewN | apply Kd.R_drew)); exact HO231.out))) (below_size (by repeat (first | (with_reducible first | exact HB.out | apply below_alloc | apply bdN | apply bd1 | refine below_set ?_ GE222.out) | exact HB.out)))); have n3_ := As0 (Kd.R_lower (Kd.R_new' ho2 (Kd.R_lt (by (with_reducible repeat (first | apply Kd.R_alloc | apply Kd.R_drewN | apply Kd.R_drew)); exact HO231.out))) (below_size (by repeat (first | (with_reducible first | exact HB.out | apply below_alloc | apply bdN | apply bd1 | refine below_set ?_ GE222.out) | exact HB.out)))); have n4_ := As0 (blk_below (g := gb222) (o := .cells #[.int .i64 a0_0, .int .i64 a0_1, .slice A0_2 l0_2.length c0_2] 34 (0, 0)) (by (with_reducible repeat (first | refine blk_drewN ?_ _ | refine blk_drew ?_ | refine blk_alloc ?_ _)); exact BK222.out) hb); have n5_ := As0 (below_step (by repeat (first | (with_reducible first | exact HB.out | apply below_alloc | apply bdN | apply bd1 | refine below_set ?_ GE222.out) | exact HB.out)) hb); clear HO231; clear BK222; clear HB; have HO231 := n0_; have HO238 := n1_; have HO241 := n2_; have HO244 := n3_; have BK222 := n4_; have HB := n5_; clear n0_ n1_ n2_ n3_ n4_ n5_; (try clear hb); (try clear hb2); (try clear hk); (try clear hi); (try clear ho0); (try clear ho1); (try clear ho2)) | ((with_reducible refine gate_dst (N := 8) rfl ?_); (try (refine gate_guard (by rfl) ?_; dsimp only)); refine box_event ?hg (N := 8) ?hd (cs := #[.int .i64 0, .int .i64 0, .int .i64 0, .int .i64 0, .slice none 0 0, .slice none 0 0, .slice none 0 0, .int .i64 0]) (t := 39) ?hr ?_; (case hd => rfl); (case hg => rfl); (case hr => first | (go_simp; done) | (go_simp; rfl)); intro gb247 hg w31 hbox hb; have n0_ := As0 (Kd.R_below (by (with_reducible repeat (first | apply Kd.R_alloc | apply Kd.R_drewN | apply Kd.R_drew)); exact HO231.out) hb); have n1_ := As0 (Kd.R_below (by (with_reducible repeat (first | apply Kd.R_alloc | apply Kd.R_drewN | apply Kd.R_drew)); exact HO238.out) hb); have n2_ := As0 (Kd.R_below (by (with_reducible repeat (first | apply Kd.R_alloc | apply Kd.R_drewN | apply Kd.R_drew)); exact HO241.out) hb); have n3_ := As0 (Kd.R_below (by (with_reducible repeat (first | apply Kd.R_alloc | apply Kd.R_drewN | apply Kd.R_drew)); exact HO244.out) hb); have n4_ := As0 (blk_below (g := gb222) (o := .cells #[.int .i64 a0_0, .int .i64 a0_1, .slice A0_2 l0_2.length c0_2] 34 (0, 0)) (by (with_reducible repeat (first | refine blk_drewN ?_ _ | refine blk_drew ?_ | refine blk_alloc ?_ _)); exact BK222.out) hb); have n5_ := As0 (below_step (by repeat (first | (with_reducible first | exact HB.out | apply below_alloc | apply bdN | apply bd1 | refine below_set ?_ GE222.out) | exact HB.out)) hb); have n6_ := As0 (hbox); have n7_ := As0 ((by rw [hg]; exact (below_size (by repeat (first | (with_reducible first | exact HB.out | apply below_alloc | apply bdN | apply bd1 | refine below_set ?_ GE222.out) | exact HB.out))) : w.heap.size ≤ gb247)); have n8_ := As0 ((by rw [hg]; exact (below_size (by repeat (first | (with_reducible first | exact HB.out | apply below_alloc | apply bdN | apply bd1 | refine below_set ?_ GE222.out) | exact HB.out))) : w.heap.size ≤ gb247)); have n9_ := As0 ((by rw [hg]; exact Nat.ne_of_lt (blk_lt (g := gb222) (o := .cells #[.int .i64 a0_0, .int .i64 a0_1, .slice A0_2 l0_2.length c0_2] 34 (0, 0)) (by (with_reducible repeat (first | refine blk_drewN ?_ _ | refine blk_drew ?_ | refine blk_alloc ?_ _)); exact BK222.out)) : gb222 ≠ gb247)); have n10_ := As0 ((by rw [hg]; exact Nat.ne_of_gt (blk_lt (g := gb222) (o := .cells #[.int .i64 a0_0, .int .i64 a0_1, .slice A0_2 l0_2.length c0_2] 34 (0, 0)) (by (with_reducible repeat (first | refine blk_drewN ?_ _ | refine blk_drew ?_ | refine blk_alloc ?_ _)); exact BK222.out)) : gb247 ≠ gb222)); clear HO231; clear HO238; clear HO241; clear HO244; clear BK222; clear HB; have HO231 := n0_; have HO238 := n1_; have HO241 := n2_; have HO244 := n3_; have BK222 := n4_; have HB := n5_; have BK247 := n6_; have GW247 := n7_; have GE247 := n8_; have NB222_247 := n9_; have NB247_222 := n10_; clear n0_ n1_ n2_ n3_ n4_ n5_ n6_ n7_ n8_ n9_ n10_; clear hb hbox hg; have hnb32 := NB247_222.out; have hnc32 := NB222_247.out; have hcz33_0 : w31.cell? ⟨gb247, 0, none⟩ = some (.int .i64 0) := (blk_cell BK247.out 0).trans rfl; have hcz33_1 : w31.cell? ⟨gb247, 1, none⟩ = some (.int .i64 0) := (blk_cell BK247.out 1).trans rfl; have hcz33_2 : w31.cell? ⟨gb247, 2, none⟩ = some (.int .i64 0) := (blk_cell BK247.out 2).trans rfl; have hcz33_3 : w31.cell? ⟨gb247, 3, none⟩ = some (.int .i64 0) := (blk_cell BK247.out 3).trans rfl; have hcz33_4 : w31.cell? ⟨gb247, 4, none⟩ = some (.slice none 0 0) := (blk_cell BK247.out 4).trans rfl; have hcz33_5 : w31.cell? ⟨gb247, 5, none⟩ = some (.slice none 0 0) := (blk_cell BK247.out 5).trans rfl; have hcz33_6 : w31.cell? ⟨gb247, 6, none⟩ = some (.slice none 0 0) := (blk_cell BK247.out 6).trans rfl; have hcz33_7 : w31.cell? ⟨gb247, 7, none⟩ = some (.int .i64 0) := (blk_cell BK247.out 7).trans rfl; have hfz33_0 := blk_frozen BK247.out 0; have hfz33_1 := blk_frozen BK247.out 1; have hfz33_2 := blk_frozen BK247.out 2; have hfz33_3 := blk_frozen BK247.out 3; have hfz33_4 := blk_frozen BK247.out 4; have hfz33_5 := blk_frozen BK247.out 5; have hfz33_6 := blk_frozen BK247.out 6; have hfz33_7 := blk_frozen BK247.out 7; obtain ⟨Ao34, co34, eo34⟩ := Kd.R_slice HO238.out; subst eo34; obtain ⟨Ao35, co35, eo35⟩ := Kd.R_slice HO241.out; subst eo35; obtain ⟨Ao36, co36, eo36⟩ := Kd.R_slice HO244.out; subst eo36) | ((with_reducible refine gate_callee (f := 38) rfl ?_); refine goesL_ (some 45) rfl rfl Try.func38 (by kernel_rfl) rfl #[.agg #[.int .i64 t232, .int .i64 t233, .int .i64 t234, .int .i64 t235, .slice Ao34 t236.length co34, .slice Ao35 t239.length co35, .slice Ao36 t242.length co36, .int .i64 t245]] rfl (by (try simp only [List.map_toArray, List.map_cons, List.map_nil]); first | done | rfl | (simp only [List.length_drop, List.length_take]; rfl)) ?_; (with_reducible refine (regcertref09_Copy.calls t232 t233 t234 t235 _ _ t236 _ _ t239 _ _ t242 t245 t248 t249 t250 t251 t252 t255 t258 t261 _ ?side1 ?side2 ?side3 ?side4 ?side5 ?side6 A23.out).mono ?_); (case side1 => refine (Kd.R_reads' (e := 2) (base := w.heap.size) (ok := fun k_ => ((some k_ ≠ (.slice Ao35 t239.length co35 : Value).ownBlock ∧ some k_ ≠ (.slice Ao36 t242.length co36 : Value).ownBlock) ∧ some k_ ≠ (.slice Ao29 y229.length co29 : Value).ownBlock)) (n := t236.length) (c := co34) ?_).2.2; exact (by (with_reducible repeat (first | apply Kd.R_alloc | apply Kd.R_drewN | apply Kd.R_drew)); exact (Kd.R_mono (Kd.R_far (p := ⟨gb247, 7, none⟩) (Kd.R_far (p := ⟨gb247, 6, none⟩) (Kd.R_far (p := ⟨gb247, 5, none⟩) (Kd.R_far (p := ⟨gb247, 4, none⟩) (Kd.R_far (p := ⟨gb247, 3, none⟩) (Kd.R_far (p := ⟨gb247, 2, none⟩) (Kd.R_far (p := ⟨gb247, 1, none⟩) (Kd.R_far (p := ⟨gb247, 0, none⟩) (Kd.R_types HO238.out BK247.out (by decide)) (fun _ hk => hk.2) (.int .i64 t232)) (fun _ hk => hk.2) (.int .i64 t233)) (fun _ hk => hk.2) (.int .i64 t234)) (fun _ hk => hk.2) (.int .i64 t235)) (fun _ hk => hk.2) (.slice Ao34 t236.length co34)) (fun _ hk => hk.2) (.slice Ao35 t239.length co35)) (fun _ hk => hk.2) (.slice Ao36 t242.length co36)) (fun _ hk => hk.2) (.int .i64 t245)) (fun _ h_ => h_.1)))); (case side2 => exact (Kd.R_reads' HO238.out).2.1); (case side3 => refine (Kd.R_reads' (e := 2) (base := w.heap.size) (ok := fun k_ => ((some k_ ≠ (.slice Ao34 t236.length co34 : Value).ownBlock ∧ some k_ ≠ (.slice Ao36 t242.length co36 : Value).ownBlock) ∧ some k_ ≠ (.slice Ao29 y229.length co29 : Value).ownBlock)) (n := t239.length) (c := co35) ?_).2.2; exact (by (with_reducible repeat (first | apply Kd.R_alloc | apply Kd.R_drewN | apply Kd.R_drew)); exact (Kd.R_mono (Kd.R_far (p := ⟨gb247, 7, none⟩) (Kd.R_far (p := ⟨gb247, 6, none⟩) (Kd.R_far (p := ⟨gb247, 5, none⟩) (Kd.R_far (p := ⟨gb247, 4, none⟩) (Kd.R_far (p := ⟨gb247, 3, none⟩) (Kd.R_far (p := ⟨gb247, 2, none⟩) (Kd.R_far (p := ⟨gb247, 1, none⟩) (Kd.R_far (p := ⟨gb247, 0, none⟩) (Kd.R_types HO241.out BK247.out (by decide)) (fun _ hk => hk.2) (.int .i64 t232)) (fun _ hk => hk.2) (.int .i64 t233)) (fun _ hk => hk.2) (.int .i64 t234)) (fun _ hk => hk.2) (.int .i64 t235)) (fun _ hk => hk.2) (.slice Ao34 t236.length co34)) (fun _ hk => hk.2) (.slice Ao35 t239.length co35)) (fun _ hk => hk.2) (.slice Ao36 t242.length co36)) (fun _ hk => hk.2) (.int .i64 t245)) (fun _ h_ => h_.1)))); (case side4 => exact (Kd.R_reads' HO241.out).2.1); (case side5 => refine (Kd.R_reads' (e := 2) (base := w.heap.size) (ok := fun k_ => ((some k_ ≠ (.slice Ao34 t236.length co34 : Value).ownBlock ∧ some k_ ≠ (.slice Ao35 t239.length co35 : Value).ownBlock) ∧ some k_ ≠ (.slice Ao29 y229.length co29 : Value).ownBlock)) (n := t242.length) (c := co36) ?_).2.2; exact (by (with_reducible repeat (first | apply Kd.R_alloc | apply Kd.R_drewN | apply Kd.R_drew)); exact (Kd.R_mono (Kd.R_far (p := ⟨gb247, 7, none⟩) (Kd.R_far (p := ⟨gb247, 6, none⟩) (Kd.R_far (p := ⟨gb247, 5, none⟩) (Kd.R_far (p := ⟨gb247, 4, none⟩) (Kd.R_far (p := ⟨gb247, 3, none⟩) (Kd.R_far (p := ⟨gb247, 2, none⟩) (Kd.R_far (p := ⟨gb247, 1, none⟩) (Kd.R_far (p := ⟨gb247, 0, none⟩) (Kd.R_types HO244.out BK247.out (by decide)) (fun _ hk => hk.2) (.int .i64 t232)) (fun _ hk => hk.2) (.int .i64 t233)) (fun _ hk => hk.2) (.int .i64 t234)) (fun _ hk => hk.2) (.int .i64 t235)) (fun _ hk => hk.2) (.slice Ao34 t236.length co34)) (fun _ hk => hk.2) (.slice Ao35 t239.length co35)) (fun _ hk => hk.2) (.slice Ao36 t242.length co36)) (fun _ hk => hk.2) (.int .i64 t245)) (fun _ h_ => h_.1)))); (case side6 => exact (Kd.R_reads' HO244.out).2.1); rintro e w37 ⟨v253, v256, v259, rfl, ho0, ho1, ho2, hb⟩; refine ⟨_, rfl, ?_⟩; have n0_ := As0 (Kd.R_mono (Kd.R_told (Kd.R_told (Kd.R_told (Kd.R_old (by (with_reducible repeat (first | apply Kd.R_alloc | apply Kd.R_drewN | apply Kd.R_drew)); exact (Kd.R_mono (Kd.R_far (p := ⟨gb247, 7, none⟩) (Kd.R_far (p := ⟨gb247, 6, none⟩) (Kd.R_far (p := ⟨gb247, 5, none⟩) (Kd.R_far (p := ⟨gb247, 4, none⟩) (Kd.R_far (p := ⟨gb247, 3, none⟩) (Kd.R_far (p := ⟨gb247, 2, none⟩) (Kd.R_far (p := ⟨gb247, 1, none⟩) (Kd.R_far (p := ⟨gb247, 0, none⟩) (Kd.R_types HO231.out BK247.out (by decide)) (fun _ hk => hk.2) (.int .i64 t232)) (fun _ hk => hk.2) (.int .i64 t233)) (fun _ hk => hk.2) (.int .i64 t234)) (fun _ hk => hk.2) (.int .i64 t235)) (fun _ hk => hk.2) (.slice Ao34 t236.length co34)) (fun _ hk => hk.2) (.slice Ao35 t239.length co35)) (fun _ hk => hk.2) (.slice Ao36 t242.length co36)) (fun _ hk => hk.2) (.int .i64 t245)) (fun _ h_ => h_.1))) hb) (Kd.R_base ho0)) (Kd.R_base ho1)) (Kd.R_base ho2)) (fun _ h_ => h_.1)); have n1_ := As0 (Kd.R_mono (Kd.R_told (Kd.R_told (Kd.R_told (Kd.R_old (by (with_reducible repeat (first | apply Kd.R_alloc | apply Kd.R_drewN | apply Kd.R_drew)); exact (Kd.R_mono (Kd.R_far (p := ⟨gb247, 7, none⟩) (Kd.R_far (p := ⟨gb247, 6, none⟩) (Kd.R_far (p := ⟨gb247, 5, none⟩) (Kd.R_far (p := ⟨gb247, 4, none⟩) (Kd.R_far (p := ⟨gb247, 3, none⟩) (Kd.R_far (p := ⟨gb247, 2, none⟩) (Kd.R_far (p := ⟨gb247, 1, none⟩) (Kd.R_far (p := ⟨gb247, 0, none⟩) (Kd.R_types HO238.out BK247.out (by decide)) (fun _ hk => hk.2) (.int .i64 t232)) (fun _ hk => hk.2) (.int .i64 t233)) (fun _ hk => hk.2) (.int .i64 t234)) (fun _ hk => hk.2) (.int .i64 t235)) (fun _ hk => hk.2) (.slice Ao34 t236.length co34)) (fun _ hk => hk.2) (.slice Ao35 t239.length co35)) (fun _ hk => hk.2) (.slice Ao36 t242.length co36)) (fun _ hk => hk.2) (.int .i64 t245)) (fun _ h_ => h_.1))) hb) (Kd.R_base ho0)) (Kd.R_base ho1)) (Kd.R_base ho2)) (fun _ h_ => h_.1)); have n2_ := As0 (Kd.R_mono (Kd.R_told (Kd.R_told (Kd.R_told (Kd.R_old (by (with_reducible repeat (first | apply Kd.R_alloc | apply Kd.R_drewN | apply Kd.R_drew)); exact (Kd.R_mono (Kd.R_far (p := ⟨gb247, 7, none⟩) (Kd.R_far (p := ⟨gb247, 6, none⟩) (Kd.R_far (p := ⟨gb247, 5, none⟩) (Kd.R_far (p := ⟨gb247, 4, none⟩) (Kd.R_far (p := ⟨gb247, 3, none⟩) (Kd.R_far (p := ⟨gb247, 2, none⟩) (Kd.R_far (p := ⟨gb247, 1, none⟩) (Kd.R_far (p := ⟨gb247, 0, none⟩) (Kd.R_types HO241.out BK247.out (by decide)) (fun _ hk => hk.2) (.int .i64 t232)) (fun _ hk => hk.2) (.int .i64 t233)) (fun _ hk => hk.2) (.int .i64 t234)) (fun _ hk => hk.2) (.int .i64 t235)) (fun _ hk => hk.2) (.slice Ao34 t236.length co34)) (fun _ hk => hk.2) (.slice Ao35 t239.length co35)) (fun _ hk => hk.2) (.slice Ao36 t242.length co36)) (fun _ hk => hk.2) (.int .i64 t245)) (fun _ h_ => h_.1))) hb) (Kd.R_base ho0)) (Kd.R_base ho1)) (Kd.R_base ho2)) (fun _ h_ => h_.1)); have n3_ := As0 (Kd.R_mono (Kd.R_told (Kd.R_told (Kd.R_told (Kd.R_old (by (with_reducible repeat (first | apply Kd.R_alloc | apply Kd.R_drewN | apply Kd.R_drew)); exact (Kd.R_mono (Kd.R_far (p := ⟨gb247, 7, none⟩) (Kd.R_far (p := ⟨gb247, 6, none⟩) (Kd.R_far (p := ⟨gb247, 5, none⟩) (Kd.R_far (p := ⟨gb247, 4, none⟩) (Kd.R_far (p := ⟨gb247, 3, none⟩) (Kd.R_far (p := ⟨gb247, 2, none⟩) (Kd.R_far (p := ⟨gb247, 1, none⟩) (Kd.R_far (p := ⟨gb247, 0, none⟩) (Kd.R_types HO244.out BK247.out (by decide)) (fun _ hk => hk.2) (.int .i64 t232)) (fun _ hk => hk.2) (.int .i64 t233)) (fun _ hk => hk.2) (.int .i64 t234)) (fun _ hk => hk.2) (.int .i64 t235)) (fun _ hk => hk.2) (.slice Ao34 t236.length co34)) (fun _ hk => hk.2) (.slice Ao35 t239.length co35)) (fun _ hk => hk.2) (.slice Ao36 t242.length co36)) (fun _ hk => hk.2) (.int .i64 t245)) (fun _ h_ => h_.1))) hb) (Kd.R_base ho0)) (Kd.R_base ho1)) (Kd.R_base ho2)) (fun _ h_ => h_.1)); have n4_ := As0 (Kd.R_lower (Kd.R_new' (Kd.R_new' (Kd.R_new' (Kd.R_new' ho0 (Kd.R_lt (by (with_reducible repeat (first | apply Kd.R_alloc | apply Kd.R_drewN | apply Kd.R_drew)); exact (Kd.R_mono (Kd.R_far (p := ⟨gb247, 7, none⟩) (Kd.R_far (p := ⟨gb247, 6, none⟩) (Kd.R_far (p := ⟨gb247, 5, none⟩) (Kd.R_far (p := ⟨gb247, 4, none⟩) (Kd.R_far (p := ⟨gb247, 3, none⟩) (Kd.R_far (p := ⟨gb247, 2, none⟩) (Kd.R_far (p := ⟨gb247, 1, none⟩) (Kd.R_far (p := ⟨gb247, 0, none⟩) (Kd.R_types HO231.out BK247.out (by decide)) (fun _ hk => hk.2) (.int .i64 t232)) (fun _ hk => hk.2) (.int .i64 t233)) (fun _ hk => hk.2) (.int .i64 t234)) (fun _ hk => hk.2) (.int .i64 t235)) (fun _ hk => hk.2) (.slice Ao34 t236.length co34)) (fun _ hk => hk.2) (.slice Ao35 t239.length co35)) (fun _ hk => hk.2) (.slice Ao36 t242.length co36)) (fun _ hk => hk.2) (.int .i64 t245)) (fun _ h_ => h_.1))))) (Kd.R_lt (by (with_reducible repeat (first | apply Kd.R_alloc | apply Kd.R_drewN | apply Kd.R_drew)); exact (Kd.R_mono (Kd.R_far (p := ⟨gb247, 7, none⟩) (Kd.R_far (p := ⟨gb247, 6, none⟩) (Kd.R_far (p := ⟨gb247, 5, none⟩) (Kd.R_far (p := ⟨gb247, 4, none⟩) (Kd.R_far (p := ⟨gb247, 3, none⟩) (Kd.R_far (p := ⟨gb247, 2, none⟩) (Kd.R_far (p := ⟨gb247, 1, none⟩) (Kd.R_far (p := ⟨gb247, 0, none⟩) (Kd.R_types HO238.out BK247.out (by decide)) (fun _ hk => hk.2) (.int .i64 t232)) (fun _ hk => hk.2) (.int .i64 t233)) (fun _ hk => hk.2) (.int .i64 t234)) (fun _ hk => hk.2) (.int .i64 t235)) (fun _ hk => hk.2) (.slice Ao34 t236.length co34)) (fun _ hk => hk.2) (.slice Ao35 t239.length co35)) (fun _ hk => hk.2) (.slice Ao36 t242.length co36)) (fun _ hk => hk.2) (.int .i64 t245)) (fun _ h_ => h_.1))))) (Kd.R_lt (by (with_reducible repeat (first | apply Kd.R_alloc | apply Kd.R_drewN | apply Kd.R_drew)); exact (Kd.R_mono (Kd.R_far (p := ⟨gb247, 7, none⟩) (Kd.R_far (p := ⟨gb247, 6, none⟩) (Kd.R_far (p := ⟨gb247, 5, none⟩) (Kd.R_far (p := ⟨gb247, 4, none⟩) (Kd.R_far (p := ⟨gb247, 3, none⟩) (Kd.R_far (p := ⟨gb247, 2, none⟩) (Kd.R_far (p := ⟨gb247, 1, none⟩) (Kd.R_far (p := ⟨gb247, 0, none⟩) (Kd.R_types HO241.out BK247.out (by decide)) (fun _ hk => hk.2) (.int .i64 t232)) (fun _ hk => hk.2) (.int .i64 t233)) (fun _ hk => hk.2) (.int .i64 t234)) (fun _ hk => hk.2) (.int .i64 t235)) (fun _ hk => hk.2) (.slice Ao34 t236.length co34)) (fun _ hk => hk.2) (.slice Ao35 t239.length co35)) (fun _ hk => hk.2) (.slice Ao36 t242.length co36)) (fun _ hk => hk.2) (.int .i64 t245)) (fun _ h_ => h_.1))))) (Kd.R_lt (by (with_reducible repeat (first | apply Kd.R_alloc | apply Kd.R_drewN | apply Kd.R_drew)); exact (Kd.R_mono (Kd.R_far (p := ⟨gb247, 7, none⟩) (Kd.R_far (p := ⟨gb247, 6, none⟩) (Kd.R_far (p := ⟨gb247, 5, none⟩) (Kd.R_far (p := ⟨gb247, 4, none⟩) (Kd.R_far (p := ⟨gb247, 3, none⟩) (Kd.R_far (p := ⟨gb247, 2, none⟩) (Kd.R_far (p := ⟨gb247, 1, none⟩) (Kd.R_far (p := ⟨gb247, 0, none⟩) (Kd.R_types HO244.out BK247.out (by decide)) (fun _ hk => hk.2) (.int .i64 t232)) (fun _ hk => hk.2) (.int .i64 t233)) (fun _ hk => hk.2) (.int .i64 t234)) (fun _ hk => hk.2) (.int .i64 t235)) (fun _ hk => hk.2) (.slice Ao34 t236.length co34)) (fun _ hk => hk.2) (.slice Ao35 t239.length co35)) (fun _ hk => hk.2) (.slice Ao36 t242.length co36)) (fun _ hk => hk.2) (.int .i64 t245)) (fun _ h_ => h_.1))))) (below_size (by repeat (first | (with_reducible first | exact HB.out | apply below_alloc | apply bdN | apply bd1 | refine below_set ?_ GE222.out | refine below_set ?_ GE247.out) | exact HB.out)))); have n5_ := As0 (Kd.R_lower (Kd.R_new' (Kd.R_new' (Kd.R_new' (Kd.R_new' ho1 (Kd.R_lt (by (with_reducible repeat (first | apply Kd.R_alloc | apply Kd.R_drewN | apply Kd.R_drew)); exact (Kd.R_mono (Kd.R_far (p := ⟨gb247, 7, none⟩) (Kd.R_far (p := ⟨gb247, 6, none⟩) (Kd.R_far (p := ⟨gb247, 5, none⟩) (Kd.R_far (p := ⟨gb247, 4, none⟩) (Kd.R_far (p := ⟨gb247, 3, none⟩) (Kd.R_far (p := ⟨gb247, 2, none⟩) (Kd.R_far (p := ⟨gb247, 1, none⟩) (Kd.R_far (p := ⟨gb247, 0, none⟩) (Kd.R_types HO231.out BK247.out (by decide)) (fun _ hk => hk.2) (.int .i64 t232)) (fun _ hk => hk.2) (.int .i64 t233)) (fun _ hk => hk.2) (.int .i64 t234)) (fun _ hk => hk.2) (.int .i64 t235)) (fun _ hk => hk.2) (.slice Ao34 t236.length co34)) (fun _ hk => hk.2) (.slice Ao35 t239.length co35)) (fun _ hk => hk.2) (.slice Ao36 t242.length co36)) (fun _ hk => hk.2) (.int .i64 t245)) (fun _ h_ => h_.1))))) (Kd.R_lt (by (with_reducible repeat (first | apply Kd.R_alloc | apply Kd.R_drewN | apply Kd.R_drew)); exact (Kd.R_mono (Kd.R_far (p := ⟨gb247, 7, none⟩) (Kd.R_far (p := ⟨gb247, 6, none⟩) (Kd.R_far (p := ⟨gb247, 5, none⟩) (Kd.R_far (p := ⟨gb247, 4, none⟩) (Kd.R_far (p := ⟨gb247, 3, none⟩) (Kd.R_far (p := ⟨gb247, 2, none⟩) (Kd.R_far (p := ⟨gb247, 1, none⟩) (Kd.R_far (p := ⟨gb247, 0, none⟩) (Kd.R_types HO238.out BK247.out (by decide)) (fun _ hk => hk.2) (.int .i64 t232)) (fun _ hk => hk.2) (.int .i64 t233)) (fun _ hk => hk.2) (.int .i64 t234)) (fun _ hk => hk.2) (.int .i64 t235)) (fun _ hk => hk.2) (.slice Ao34 t236.length co34)) (fun _ hk => hk.2) (.slice Ao35 t239.length co35)) (fun _ hk => hk.2) (.slice Ao36 t242.length co36)) (fun _ hk => hk.2) (.int .i64 t245)) (fun _ h_ => h_.1))))) (Kd.R_lt (by (with_reducible repeat (first | apply Kd.R_alloc | apply Kd.R_drewN | apply Kd.R_drew)); exact (Kd.R_mono (Kd.R_far (p := ⟨gb247, 7, none⟩) (Kd.R_far (p := ⟨gb247, 6, none⟩) (Kd.R_far (p := ⟨gb247, 5, none⟩) (Kd.R_far (p := ⟨gb247, 4, none⟩) (Kd.R_far (p := ⟨gb247, 3, none⟩) (Kd.R_far (p := ⟨gb247, 2, none⟩) (Kd.R_far (p := ⟨gb247, 1, none⟩) (Kd.R_far (p := ⟨gb247, 0, none⟩) (Kd.R_types HO241.out BK247.out (by decide)) (fun _ hk => hk.2) (.int .i64 t232)) (fun _ hk => hk.2) (.int .i64 t233)) (fun _ hk => hk.2) (.int .i64 t234)) (fun _ hk => hk.2) (.int .i64 t235)) (fun _ hk => hk.2) (.slice Ao34 t236.length co34)) (fun _ hk => hk.2) (.slice Ao35 t239.length co35)) (fun _ hk => hk.2) (.slice Ao36 t242.length co36)) (fun _ hk => hk.2) (.int .i64 t245)) (fun _ h_ => h_.1))))) (Kd.R_lt (by (with_reducible repeat (first | apply Kd.R_alloc | apply Kd.R_drewN | apply Kd.R_drew)); exact (Kd.R_mono (Kd.R_far (p := ⟨gb247, 7, none⟩) (Kd.R_far (p := ⟨gb247, 6, none⟩) (Kd.R_far (p := ⟨gb247, 5, none⟩) (Kd.R_far (p := ⟨gb247, 4, none⟩) (Kd.R_far (p := ⟨gb247, 3, none⟩) (Kd.R_far (p := ⟨gb247, 2, none⟩) (Kd.R_far (p := ⟨gb247, 1, none⟩) (Kd.R_far (p := ⟨gb247, 0, none⟩) (Kd.R_types HO244.out BK247.out (by decide)) (fun _ hk => hk.2) (.int .i64 t232)) (fun _ hk => hk.2) (.int .i64 t233)) (fun _ hk => hk.2) (.int .i64 t234)) (fun _ hk => hk.2) (.int .i64 t235)) (fun _ hk => hk.2) (.slice Ao34 t236.length co34)) (fun _ hk => hk.2) (.slice Ao35 t239.length co35)) (fun _ hk => hk.2) (.slice Ao36 t242.length co36)) (fun _ hk => hk.2) (.int .i64 t245)) (fun _ h_ => h_.1))))) (below_size (by repeat (first | (with_reducible first | exact HB.out | apply below_alloc | apply bdN | apply bd1 | refine below_set ?_ GE222.out | refine below_set ?_ GE247.out) | exact HB.out)))); have n6_ := As0 (Kd.R_lower (Kd.R_new' (Kd.R_new' (Kd.R_new' (Kd.R_new' ho2 (Kd.R_lt (by (with_reducible repeat (first | apply Kd.R_alloc | apply Kd.R_drewN | apply Kd.R_drew)); exact (Kd.R_mono (Kd.R_far (p := ⟨gb247, 7, none⟩) (Kd.R_far (p := ⟨gb247, 6, none⟩) (Kd.R_far (p := ⟨gb247, 5, none⟩) (Kd.R_far (p := ⟨gb247, 4, none⟩) (Kd.R_far (p := ⟨gb247, 3, none⟩) (Kd.R_far (p := ⟨gb247, 2, none⟩) (Kd.R_far (p := ⟨gb247, 1, none⟩) (Kd.R_far (p := ⟨gb247, 0, none⟩) (Kd.R_types HO231.out BK247.out (by decide)) (fun _ hk => hk.2) (.int .i64 t232)) (fun _ hk => hk.2) (.int .i64 t233)) (fun _ hk => hk.2) (.int .i64 t234)) (fun _ hk => hk.2) (.int .i64 t235)) (fun _ hk => hk.2) (.slice Ao34 t236.length co34)) (fun _ hk => hk.2) (.slice Ao35 t239.length co35)) (fun _ hk => hk.2) (.slice Ao36 t242.length co36)) (fun _ hk => hk.2) (.int .i64 t245)) (fun _ h_ => h_.1))))) (Kd.R_lt (by (with_reducible repeat (first | apply Kd.R_alloc | apply Kd.R_drewN | apply Kd.R_drew)); exact (Kd.R_mono (Kd.R_far (p := ⟨gb247, 7, none⟩) (Kd.R_far (p := ⟨gb247, 6, none⟩) (Kd.R_far (p := ⟨gb247, 5, none⟩) (Kd.R_far (p := ⟨gb247, 4, none⟩) (Kd.R_far (p := ⟨gb247, 3, none⟩) (Kd.R_far (p := ⟨gb247, 2, none⟩) (Kd.R_far (p := ⟨gb247, 1, none⟩) (Kd.R_far (p := ⟨gb247, 0, none⟩) (Kd.R_types HO238.out BK247.out (by decide)) (fun _ hk => hk.2) (.int .i64 t232)) (fun _ hk => hk.2) (.int .i64 t233)) (fun _ hk => hk.2) (.int .i64 t234)) (fun _ hk => hk.2) (.int .i64 t235)) (fun _ hk => hk.2) (.slice Ao34 t236.length co34)) (fun _ hk => hk.2) (.slice Ao35 t239.length co35)) (fun _ hk => hk.2) (.slice Ao36 t242.length co36)) (fun _ hk => hk.2) (.int .i64 t245)) (fun _ h_ => h_.1))))) (Kd.R_lt (by (with_reducible repeat (first | apply Kd.R_alloc | apply Kd.R_drewN | apply Kd.R_drew)); exact (Kd.R_mono (Kd.R_far (p := ⟨gb247, 7, none⟩) (Kd.R_far (p := ⟨gb247, 6, none⟩) (Kd.R_far (p := ⟨gb247, 5, none⟩) (Kd.R_far (p := ⟨gb247, 4, none⟩) (Kd.R_far (p := ⟨gb247, 3, none⟩) (Kd.R_far (p := ⟨gb247, 2, none⟩) (Kd.R_far (p := ⟨gb247, 1, none⟩) (Kd.R_far (p := ⟨gb247, 0, none⟩) (Kd.R_types HO241.out BK247.out (by decide)) (fun _ hk => hk.2) (.int .i64 t232)) (fun _ hk => hk.2) (.int .i64 t233)) (fun _ hk => hk.2) (.int .i64 t234)) (fun _ hk => hk.2) (.int .i64 t235)) (fun _ hk => hk.2) (.slice Ao34 t236.length co34)) (fun _ hk => hk.2) (.slice Ao35 t239.length co35)) (fun _ hk => hk.2) (.slice Ao36 t242.length co36)) (fun _ hk => hk.2) (.int .i64 t245)) (fun _ h_ => h_.1))))) (Kd.R_lt (by (with_reducible repeat (first | apply Kd.R_alloc | apply Kd.R_drewN | apply Kd.R_drew)); exact (Kd.R_mono (Kd.R_far (p := ⟨gb247, 7, none⟩) (Kd.R_far (p := ⟨gb247, 6, none⟩) (Kd.R_far (p := ⟨gb247, 5, none⟩) (Kd.R_far (p := ⟨gb247, 4, none⟩) (Kd.R_far (p := ⟨gb247, 3, none⟩) (Kd.R_far (p := ⟨gb247, 2, none⟩) (Kd.R_far (p := ⟨gb247, 1, none⟩) (Kd.R_far (p := ⟨gb247, 0, none⟩) (Kd.R_types HO244.out BK247.out (by decide)) (fun _ hk => hk.2) (.int .i64 t232)) (fun _ hk => hk.2) (.int .i64 t233)) (fun _ hk => hk.2) (.int .i64 t234)) (fun _ hk => hk.2) (.int .i64 t235)) (fun _ hk => hk.2) (.slice Ao34 t236.length co34)) (fun _ hk => hk.2) (.slice Ao35 t239.length co35)) (fun _ hk => hk.2) (.slice Ao36 t242.length co36)) (fun _ hk => hk.2) (.int .i64 t245)) (fun _ h_ => h_.1))))) (below_size (by repeat (first | (with_reducible first | exact HB.out | apply below_alloc | apply bdN | apply bd1 | refine below_set ?_ GE222.out | refine below_set ?_ GE247.out) | exact HB.out)))); have n7_ := As0 (blk_below (g := gb222) (o := .cells #[.int .i64 a0_0, .int .i64 a0_1, .slice A0_2 l0_2.length c0_2] 34 (0, 0)) (by (with_reducible repeat (first | refine blk_drewN ?_ _ | refine blk_drew ?_ | refine blk_alloc ?_ _)); refine blk_far ?_ NB222_247.out _; (with_reducible repeat (first | refine blk_drewN ?_ _ | refine blk_drew ?_ | refine blk_alloc ?_ _)); refine blk_far ?_ NB222_247.out _; (with_reducible repeat (first | refine blk_drewN ?_ _ | refine blk_drew ?_ | refine blk_alloc ?_ _)); refine blk_far ?_ NB222_247.out _; (with_reducible repeat (first | refine blk_drewN ?_ _ | refine blk_drew ?_ | refine blk_alloc ?_ _)); refine blk_far ?_ NB222_247.out _; (with_reducible repeat (first | refine blk_drewN ?_ _ | refine blk_drew ?_ | refine blk_alloc ?_ _)); refine blk_far ?_ NB222_247.out _; (with_reducible repeat (first | refine blk_drewN ?_ _ | refine blk_drew ?_ | refine blk_alloc ?_ _)); refine blk_far ?_ NB222_247.out _; (with_reducible repeat (first | refine blk_drewN ?_ _ | refine blk_drew ?_ | refine blk_alloc ?_ _)); refine blk_far ?_ NB222_247.out _; (with_reducible repeat (first | refine blk_drewN ?_ _ | refine blk_drew ?_ | refine blk_alloc ?_ _)); refine blk_far ?_ NB222_247.out _; (with_reducible repeat (first | refine blk_drewN ?_ _ | refine blk_drew ?_ | refine blk_alloc ?_ _)); exact BK222.out) hb); have n8_ := As0 (blk_below (g := gb247) (o := .cells #[.int .i64 t232, .int .i64 t233, .int .i64 t234, .int .i64 t235, .slice Ao34 t236.length co34, .slice Ao35 t239.length co35, .slice Ao36 t242.length co36, .int .i64 t245] 39 (0, 0)) (by (with_reducible repeat (first | refine blk_drewN ?_ _ | refine blk_drew ?_ | refine blk_alloc ?_ _)); refine blk_put (cs := #[.int .i64 t232, .int .i64 t233, .int .i64 t234, .int .i64 t235, .slice Ao34 t236.length co34, .slice Ao35 t239.length co35, .slice Ao36 t242.length co36, .int .i64 0]) ?_ 7 _ rfl; (with_reducible repeat (first | refine blk_drewN ?_ _ | refine blk_drew ?_ | refine blk_alloc ?_ _)); refine blk_put (cs := #[.int .i64 t232, .int .i64 t233, .int .i64 t234, .int .i64 t235, .slice Ao34 t236.length co34, .slice Ao35 t239.length co35, .slice none 0 0, .int .i64 0]) ?_ 6 _ rfl; (with_reducible repeat (first | refine blk_drewN ?_ _ | refine blk_drew ?_ | refine blk_alloc ?_ _)); refine blk_put (cs := #[.int .i64 t232, .int .i64 t233, .int .i64 t234, .int .i64 t235, .slice Ao34 t236.length co34, .slice none 0 0, .slice none 0 0, .int .i64 0]) ?_ 5 _ rfl; (with_reducible repeat (first | refine blk_drewN ?_ _ | refine blk_drew ?_ | refine blk_alloc ?_ _)); refine blk_put (cs := #[.int .i64 t232, .int .i64 t233, .int .i64 t234, .int .i64 t235, .slice none 0 0, .slice none 0 0, .slice none 0 0, .int .i64 0]) ?_ 4 _ rfl; (with_reducible repeat (first | refine blk_drewN ?_ _ | refine blk_drew ?_ | refine blk_alloc ?_ _)); refine blk_put (cs := #[.int .i64 t232, .int .i64 t233, .int .i64 t234, .int .i64 0, .slice none 0 0, .slice none 0 0, .slice none 0 0, .int .i64 0]) ?_ 3 _ rfl; (with_reducible repeat (first | refine blk_drewN ?_ _ | refine blk_drew ?_ | refine blk_alloc ?_ _)); refine blk_put (cs := #[.int .i64 t232, .int .i64 t233, .int .i64 0, .int .i64 0, .slice none 0 0, .slice none 0 0, .slice none 0 0, .int .i64 0]) ?_ 2 _ rfl; (with_reducible repeat (first | refine blk_drewN ?_ _ | refine blk_drew ?_ | refine blk_alloc ?_ _)); refine blk_put (cs := #[.int .i64 t232, .int .i64 0, .int .i64 0, .int .i64 0, .slice none 0 0, .slice none 0 0, .slice none 0 0, .int .i64 0]) ?_ 1 _ rfl; (with_reducible repeat (first | refine blk_drewN ?_ _ | refine blk_drew ?_ | refine blk_alloc ?_ _)); refine blk_put (cs := #[.int .i64 0, .int .i64 0, .int .i64 0, .int .i64 0, .slice none 0 0, .slice none 0 0, .slice none 0 0, .int .i64 0]) ?_ 0 _ rfl; (with_reducible repeat (first | refine blk_drewN ?_ _ | refine blk_drew ?_ | refine blk_alloc ?_ _)); exact BK247.out) hb); have n9_ := As0 (below_step (by repeat (first | (with_reducible first | exact HB.out | apply below_alloc | apply bdN | apply bd1 | refine below_set ?_ GE222.out | refine below_set ?_ GE247.out) | exact HB.out)) hb); clear HO231; clear HO238; clear HO241; clear HO244; clear BK222; clear BK247; clear HB; have HO231 := n0_; have HO238 := n1_; have HO241 := n2_; have HO244 := n3_; have HO254 := n4_; have HO257 := n5_; have HO260 := n6_; have BK222 := n7_; have BK247 := n8_; have HB := n9_; clear n0_ n1_ n2_ n3_ n4_ n5_ n6_ n7_ n8_ n9_; (try clear hb); (try clear hb2); (try clear hk); (try clear hi); (try clear ho0); (try clear ho1); (try clear ho2)) | ((with_reducible refine gate_dst (N := 10) rfl ?_); (try (refine gate_guard (by rfl) ?_; dsimp only)); refine box_event ?hg (N := 10) ?hd (cs := #[.int .i64 0, .int .i64 0, .int .i64 0, .int .i64 0, .slice none 0 0, .slice none 0 0, .slice none 0 0, .int .i64 0]) (t := 39) ?hr ?_; (case hd => rfl); (case hg => rfl); (case hr => first | (go_simp; done) | (go_simp; rfl)); intro gb262 hg w38 hbox hb; have n0_ := As0 (Kd.R_below (by (with_reducible repeat (first | apply Kd.R_alloc | apply Kd.R_drewN | apply Kd.R_drew)); exact HO231.out) hb); have n1_ := As0 (Kd.R_below (by (with_reducible repeat (first | apply Kd.R_alloc | apply Kd.R_drewN | apply Kd.R_drew)); exact HO238.out) hb); have n2_ := As0 (Kd.R_below (by (with_reducible repeat (first | apply Kd.R_alloc | apply Kd.R_drewN | apply Kd.R_drew)); exact HO241.out) hb); have n3_ := As0 (Kd.R_below (by (with_reducible repeat (first | apply Kd.R_alloc | apply Kd.R_drewN | apply Kd.R_drew)); exact HO244.out) hb); have n4_ := As0 (Kd.R_below (by (with_reducible repeat (first | apply Kd.R_alloc | apply Kd.R_drewN | apply Kd.R_drew)); exact HO254.out) hb); have n5_ := As0 (Kd.R_below (by (with_reducible repeat (first | apply Kd.R_alloc | apply Kd.R_drewN | apply Kd.R_drew)); exact HO257.out) hb); have n6_ := As0 (Kd.R_below (by (with_reducible repeat (first | apply Kd.R_alloc | apply Kd.R_drewN | apply Kd.R_drew)); exact HO260.out) hb); have n7_ := As0 (blk_below (g := gb222) (o := .cells #[.int .i64 a0_0, .int .i64 a0_1, .slice A0_2 l0_2.length c0_2] 34 (0, 0)) (by (with_reducible repeat (first | refine blk_drewN ?_ _ | refine blk_drew ?_ | refine blk_alloc ?_ _)); exact BK222.out) hb); have n8_ := As0 (blk_below (g := gb247) (o := .cells #[.int .i64 t232, .int .i64 t233, .int .i64 t234, .int .i64 t235, .slice Ao34 t236.length co34, .slice Ao35 t239.length co35, .slice Ao36 t242.length co36, .int .i64 t245] 39 (0, 0)) (by (with_reducible repeat (first | refine blk_drewN ?_ _ | refine blk_drew ?_ | refine blk_alloc ?_ _)); exact BK247.out) hb); have n9_ := As0 (below_step (by repeat (first | (with_reducible first | exact HB.out | apply below_alloc | apply bdN | apply bd1 | refine below_set ?_ GE222.out | refine below_set ?_ GE247.out) | exact HB.out)) hb); have n10_ := As0 (hbox); have n11_ := As0 ((by rw [hg]; exact (below_size (by repeat (first | (with_reducible first | exact HB.out | apply below_alloc | apply bdN | apply bd1 | refine below_set ?_ GE222.out | refine below_set ?_ GE247.out) | exact HB.out))) : w.heap.size ≤ gb262)); have n12_ := As0 ((by rw [hg]; exact (below_size (by repeat (first | (with_reducible first | exact HB.out | apply below_alloc | apply bdN | apply bd1 | refine below_set ?_ GE222.out | refine below_set ?_ GE247.out) | exact HB.out))) : w.heap.size ≤ gb262)); have n13_ := As0 ((by rw [hg]; exact Nat.ne_of_lt (blk_lt (g := gb222) (o := .cells #[.int .i64 a0_0, .int .i64 a0_1, .slice A0_2 l0_2.length c0_2] 34 (0, 0)) (by (with_reducible repeat (first | refine blk_drewN ?_ _ | refine blk_drew ?_ | refine blk_alloc ?_ _)); exact BK222.out)) : gb222 ≠ gb262)); have n14_ := As0 ((by rw [hg]; exact Nat.ne_of_gt (blk_lt (g := gb222) (o := .cells #[.int .i64 a0_0, .int .i64 a0_1, .slice A0_2 l0_2.length c0_2] 34 (0, 0)) (by (with_reducible repeat (first | refine blk_drewN ?_ _ | refine blk_drew ?_ | refine blk_alloc ?_ _)); exact BK222.out)) : gb262 ≠ gb222)); have n15_ := As0 ((by rw [hg]; exact Nat.ne_of_lt (blk_lt (g := gb247) (o := .cells #[.int .i64 t232, .int .i64 t233, .int .i64 t234, .int .i64 t235, .slice Ao34 t236.length co34, .slice Ao35 t239.length co35, .slice Ao36 t242.length co36, .int .i64 t245] 39 (0, 0)) (by (with_reducible repeat (first | refine blk_drewN ?_ _ | refine blk_drew ?_ | refine blk_alloc ?_ _)); exact BK247.out)) : gb247 ≠ gb262)); have n16_ := As0 ((by rw [hg]; exact Nat.ne_of_gt (blk_lt (g := gb247) (o := .cells #[.int .i64 t232, .int .i64 t233, .int .i64 t234, .int .i64 t235, .slice Ao34 t236.length co34, .slice Ao35 t239.length co35, .slice Ao36 t242.length co36, .int .i64 t245] 39 (0, 0)) (by (with_reducible repeat (first | refine blk_drewN ?_ _ | refine blk_drew ?_ | refine blk_alloc ?_ _)); exact BK247.out)) : gb262 ≠ gb247)); clear HO231; clear HO238; clear HO241; clear HO244; clear HO254; clear HO257; clear HO260; clear BK222; clear BK247; clear HB; have HO231 := n0_; have HO238 := n1_; have HO241 := n2_; have HO244 := n3_; have HO254 := n4_; have HO257 := n5_; have HO260 := n6_; have BK222 := n7_; have BK247 := n8_; have HB := n9_; have BK262 := n10_; have GW262 := n11_; have GE262 := n12_; have NB222_262 := n13_; have NB262_222 := n14_; have NB247_262 := n15_; have NB262_247 := n16_; clear n0_ n1_ n2_ n3_ n4_ n5_ n6_ n7_ n8_ n9_ n10_ n11_ n12_ n13_ n14_ n15_ n16_; clear hb hbox hg; have hnb39 := NB262_222.out; have hnc39 := NB222_262.out; have hnb40 := NB262_247.out; have hnc40 := NB247_262.out; have hcz41_0 : w38.cell? ⟨gb262, 0, none⟩ = some (.int .i64 0) := (blk_cell BK262.out 0).trans rfl; have hcz41_1 : w38.cell? ⟨gb262, 1, none⟩ = some (.int .i64 0) := (blk_cell BK262.out 1).trans rfl; have hcz41_2 : w38.cell? ⟨gb262, 2, none⟩ = some (.int .i64 0) := (blk_cell BK262.out 2).trans rfl; have hcz41_3 : w38.cell? ⟨gb262, 3, none⟩ = some (.int .i64 0) := (blk_cell BK262.out 3).trans rfl; have hcz41_4 : w38.cell? ⟨gb262, 4, none⟩ = some (.slice none 0 0) := (blk_cell BK262.out 4).trans rfl; have hcz41_5 : w38.cell? ⟨gb262, 5, none⟩ = some (.slice none 0 0) := (blk_cell BK262.out 5).trans rfl; have hcz41_6 : w38.cell? ⟨gb262, 6, none⟩ = some (.slice none 0 0) := (blk_cell BK262.out 6).trans rfl; have hcz41_7 : w38.cell? ⟨gb262, 7, none⟩ = some (.int .i64 0) := (blk_cell BK262.out 7).trans rfl; have hfz41_0 := blk_frozen BK262.out 0; have hfz41_1 := blk_frozen BK262.out 1; have hfz41_2 := blk_frozen BK262.out 2; have hfz41_3 := blk_frozen BK262.out 3; have hfz41_4 := blk_frozen BK262.out 4; have hfz41_5 := blk_frozen BK262.out 5; have hfz41_6 := blk_frozen BK262.out 6; have hfz41_7 := blk_frozen BK262.out 7; obtain ⟨Ao42, co42, eo42⟩ := Kd.R_slice HO254.out; subst eo42; obtain ⟨Ao43, co43, eo43⟩ := Kd.R_slice HO257.out; subst eo43; obtain ⟨Ao44, co44, eo44⟩ := Kd.R_slice HO260.out; subst eo44; have hcz45_0 : w38.cell? ⟨gb222, 0, none⟩ = some (.int .i64 a0_0) := (blk_cell BK222.out 0).trans rfl; have hcz45_1 : w38.cell? ⟨gb222, 1, none⟩ = some (.int .i64 a0_1) := (blk_cell BK222.out 1).trans rfl; have hcz45_2 : w38.cell? ⟨gb222, 2, none⟩ = some (.slice A0_2 l0_2.length c0_2) := (blk_cell BK222.out 2).trans rfl; have hfz45_0 := blk_frozen BK222.out 0; have hfz45_1 := blk_frozen BK222.out 1; have hfz45_2 := blk_frozen BK222.out 2; have hcz46_0 : w38.cell? ⟨gb247, 0, none⟩ = some (.int .i64 t232) := (blk_cell BK247.out 0).trans rfl; have hcz46_1 : w38.cell? ⟨gb247, 1, none⟩ = some (.int .i64 t233) := (blk_cell BK247.out 1).trans rfl; have hcz46_2 : w38.cell? ⟨gb247, 2, none⟩ = some (.int .i64 t234) := (blk_cell BK247.out 2).trans rfl; have hcz46_3 : w38.cell? ⟨gb247, 3, none⟩ = some (.int .i64 t235) := (blk_cell BK247.out 3).trans rfl; have hcz46_4 : w38.cell? ⟨gb247, 4, none⟩ = some (.slice Ao34 t236.length co34) := (blk_cell BK247.out 4).trans rfl; have hcz46_5 : w38.cell? ⟨gb247, 5, none⟩ = some (.slice Ao35 t239.length co35) := (blk_cell BK247.out 5).trans rfl; have hcz46_6 : w38.cell? ⟨gb247, 6, none⟩ = some (.slice Ao36 t242.length co36) := (blk_cell BK247.out 6).trans rfl; have hcz46_7 : w38.cell? ⟨gb247, 7, none⟩ = some (.int .i64 t245) := (blk_cell BK247.out 7).trans rfl; have hfz46_0 := blk_frozen BK247.out 0; have hfz46_1 := blk_frozen BK247.out 1; have hfz46_2 := blk_frozen BK247.out 2; have hfz46_3 := blk_frozen BK247.out 3; have hfz46_4 := blk_frozen BK247.out 4; have hfz46_5 := blk_frozen BK247.out 5; have hfz46_6 := blk_frozen BK247.out 6; have hfz46_7 := blk_frozen BK247.out 7) | ((with_reducible refine gate_callee (f := 39) rfl ?_); refine goesL_ (some 48) rfl rfl Try.func39 (by kernel_rfl) rfl #[.agg #[.int .i64 a0_0, .int .i64 a0_1, .slice A0_2 l0_2.length c0_2], .agg #[.int .i64 t232, .int .i64 t233, .int .i64 t234, .int .i64 t235, .slice Ao34 t236.length co34, .slice Ao35 t239.length co35, .slice Ao36 t242.length co36, .int .i64 t245]] rfl (by (try simp only [List.map_toArray, List.map_cons, List.map_nil]); first | done | rfl | (simp only [List.length_drop, List.length_take]; rfl)) ?_; (with_reducible refine (interp_Step.calls a0_0 a0_1 _ _ l0_2 t232 t233 t234 t235 _ _ t236 _ _ t239 _ _ t242 t245 t263 t264 t265 t266 t267 t270 t273 t276 _ ?side1 ?side2 ?side3 ?side4 ?side5 ?side6 ?side7 ?side8 A24.out).mono ?_); (case side1 => exact Kd.C_below HR0_2.out (by repeat (first | (with_reducible first | exact HB.out | apply below_alloc | apply bdN | apply bd1 | refine below_set ?_ GE222.out | refine below_set ?_ GE247.out | refine below_set ?_ GE262.out) | exact HB.out))); (case side2 => exact HC0_2.out); (case side3 => refine (Kd.R_reads' (e := 2) (base := w.heap.size) (ok := fun k_ => (((((some k_ ≠ (.slice Ao35 t239.length co35 : Value).ownBlock ∧ some k_ ≠ (.slice Ao36 t242.length co36 : Value).ownBlock) ∧ some k_ ≠ (.slice Ao29 y229.length co29 : Value).ownBlock) ∧ some k_ ≠ (.slice Ao42 t252.length co42 : Value).ownBlock) ∧ some k_ ≠ (.slice Ao43 t255.length co43 : Value).ownBlock) ∧ some k_ ≠ (.slice Ao44 t258.length co44 : Value).ownBlock)) (n := t236.length) (c := co34) ?_).2.2; exact (by (with_reducible repeat (first | apply Kd.R_alloc | apply Kd.R_drewN | apply Kd.R_drew)); exact (Kd.R_mono (Kd.R_far (p := ⟨gb262, 7, none⟩) (Kd.R_far (p := ⟨gb262, 6, none⟩) (Kd.R_far (p := ⟨gb262, 5, none⟩) (Kd.R_far (p := ⟨gb262, 4, none⟩) (Kd.R_far (p := ⟨gb262, 3, none⟩) (Kd.R_far (p := ⟨gb262, 2, none⟩) (Kd.R_far (p := ⟨gb262, 1, none⟩) (Kd.R_far (p := ⟨gb262, 0, none⟩) (Kd.R_types HO238.out BK262.out (by decide)) (fun _ hk => hk.2) (.int .i64 t248)) (fun _ hk => hk.2) (.int .i64 t249)) (fun _ hk => hk.2) (.int .i64 t250)) (fun _ hk => hk.2) (.int .i64 t251)) (fun _ hk => hk.2) (.slice Ao42 t252.length co42)) (fun _ hk => hk.2) (.slice Ao43 t255.length co43)) (fun _ hk => hk.2) (.slice Ao44 t258.length co44)) (fun _ hk => hk.2) (.int .i64 t261)) (fun _ h_ => h_.1)))); (case side4 => exact (Kd.R_reads' HO238.out).2.1); (case side5 => refine (Kd.R_reads' (e := 2) (base := w.heap.size) (ok := fun k_ => (((((some k_ ≠ (.slice Ao34 t236.length co34 : Value).ownBlock ∧ some k_ ≠ (.slice Ao36 t242.length co36 : Value).ownBlock) ∧ some k_ ≠ (.slice Ao29 y229.length co29 : Value).ownBlock) ∧ some k_ ≠ (.slice Ao42 t252.length co42 : Value).ownBlock) ∧ some k_ ≠ (.slice Ao43 t255.length co43 : Value).ownBlock) ∧ some k_ ≠ (.slice Ao44 t258.length co44 : Value).ownBlock)) (n := t239.length) (c := co35) ?_).2.2; exact (by (with_reducible repeat (first | apply Kd.R_alloc | apply Kd.R_drewN | apply Kd.R_drew)); exact (Kd.R_mono (Kd.R_far (p := ⟨gb262, 7, none⟩) (Kd.R_far (p := ⟨gb262, 6, none⟩) (Kd.R_far (p := ⟨gb262, 5, none⟩) (Kd.R_far (p := ⟨gb262, 4, none⟩) (Kd.R_far (p := ⟨gb262, 3, none⟩) (Kd.R_far (p := ⟨gb262, 2, none⟩) (Kd.R_far (p := ⟨gb262, 1, none⟩) (Kd.R_far (p := ⟨gb262, 0, none⟩) (Kd.R_types HO241.out BK262.out (by decide)) (fun _ hk => hk.2) (.int .i64 t248)) (fun _ hk => hk.2) (.int .i64 t249)) (fun _ hk => hk.2) (.int .i64 t250)) (fun _ hk => hk.2) (.int .i64 t251)) (fun _ hk => hk.2) (.slice Ao42 t252.length co42)) (fun _ hk => hk.2) (.slice Ao43 t255.length co43)) (fun _ hk => hk.2) (.slice Ao44 t258.length co44)) (fun _ hk => hk.2) (.int .i64 t261)) (fun _ h_ => h_.1)))); (case side6 => exact (Kd.R_reads' HO241.out).2.1); (case side7 => refine (Kd.R_reads' (e := 2) (base := w.heap.size) (ok := fun k_ => (((((some k_ ≠ (.slice Ao34 t236.length co34 : Value).ownBlock ∧ some k_ ≠ (.slice Ao35 t239.length co35 : Value).ownBlock) ∧ some k_ ≠ (.slice Ao29 y229.length co29 : Value).ownBlock) ∧ some k_ ≠ (.slice Ao42 t252.length co42 : Value).ownBlock) ∧ some k_ ≠ (.slice Ao43 t255.length co43 : Value).ownBlock) ∧ some k_ ≠ (.slice Ao44 t258.length co44 : Value).ownBlock)) (n := t242.length) (c := co36) ?_).2.2; exact (by (with_reducible repeat (first | apply Kd.R_alloc | apply Kd.R_drewN | apply Kd.R_drew)); exact (Kd.R_mono (Kd.R_far (p := ⟨gb262, 7, none⟩) (Kd.R_far (p := ⟨gb262, 6, none⟩) (Kd.R_far (p := ⟨gb262, 5, none⟩) (Kd.R_far (p := ⟨gb262, 4, none⟩) (Kd.R_far (p := ⟨gb262, 3, none⟩) (Kd.R_far (p := ⟨gb262, 2, none⟩) (Kd.R_far (p := ⟨gb262, 1, none⟩) (Kd.R_far (p := ⟨gb262, 0, none⟩) (Kd.R_types HO244.out BK262.out (by decide)) (fun _ hk => hk.2) (.int .i64 t248)) (fun _ hk => hk.2) (.int .i64 t249)) (fun _ hk => hk.2) (.int .i64 t250)) (fun _ hk => hk.2) (.int .i64 t251)) (fun _ hk => hk.2) (.slice Ao42 t252.length co42)) (fun _ hk => hk.2) (.slice Ao43 t255.length co43)) (fun _ hk => hk.2) (.slice Ao44 t258.length co44)) (fun _ hk => hk.2) (.int .i64 t261)) (fun _ h_ => h_.1)))); (case side8 => exact (Kd.R_reads' HO244.out).2.1); rintro e w47 ⟨v268, v271, v274, rfl, ho0, ho1, ho2, hb⟩; refine ⟨_, rfl, ?_⟩; have n0_ := As0 (Kd.R_mono (Kd.R_told (Kd.R_told (Kd.R_old (by (with_reducible repeat (first | apply Kd.R_alloc | apply Kd.R_drewN | apply Kd.R_drew)); exact (Kd.R_mono (Kd.R_far (p := ⟨gb262, 7, none⟩) (Kd.R_far (p := ⟨gb262, 6, none⟩) (Kd.R_far (p := ⟨gb262, 5, none⟩) (Kd.R_far (p := ⟨gb262, 4, none⟩) (Kd.R_far (p := ⟨gb262, 3, none⟩) (Kd.R_far (p := ⟨gb262, 2, none⟩) (Kd.R_far (p := ⟨gb262, 1, none⟩) (Kd.R_far (p := ⟨gb262, 0, none⟩) (Kd.R_types HO231.out BK262.out (by decide)) (fun _ hk => hk.2) (.int .i64 t248)) (fun _ hk => hk.2) (.int .i64 t249)) (fun _ hk => hk.2) (.int .i64 t250)) (fun _ hk => hk.2) (.int .i64 t251)) (fun _ hk => hk.2) (.slice Ao42 t252.length co42)) (fun _ hk => hk.2) (.slice Ao43 t255.length co43)) (fun _ hk => hk.2) (.slice Ao44 t258.length co44)) (fun _ hk => hk.2) (.int .i64 t261)) (fun _ h_ => h_.1))) hb) (Kd.R_base ho0)) (Kd.R_base ho2)) (fun _ h_ => h_.1)); have n1_ := As0 (Kd.R_mono (Kd.R_told (Kd.R_told (Kd.R_old (by (with_reducible repeat (first | apply Kd.R_alloc | apply Kd.R_drewN | apply Kd.R_drew)); exact (Kd.R_mono (Kd.R_far (p := ⟨gb262, 7, none⟩) (Kd.R_far (p := ⟨gb262, 6, none⟩) (Kd.R_far (p := ⟨gb262, 5, none⟩) (Kd.R_far (p := ⟨gb262, 4, none⟩) (Kd.R_far (p := ⟨gb262, 3, none⟩) (Kd.R_far (p := ⟨gb262, 2, none⟩) (Kd.R_far (p := ⟨gb262, 1, none⟩) (Kd.R_far (p := ⟨gb262, 0, none⟩) (Kd.R_types HO238.out BK262.out (by decide)) (fun _ hk => hk.2) (.int .i64 t248)) (fun _ hk => hk.2) (.int .i64 t249)) (fun _ hk => hk.2) (.int .i64 t250)) (fun _ hk => hk.2) (.int .i64 t251)) (fun _ hk => hk.2) (.slice Ao42 t252.length co42)) (fun _ hk => hk.2) (.slice Ao43 t255.length co43)) (fun _ hk => hk.2) (.slice Ao44 t258.length co44)) (fun _ hk => hk.2) (.int .i64 t261)) (fun _ h_ => h_.1))) hb) (Kd.R_base ho0)) (Kd.R_base ho2)) (fun _ h_ => h_.1)); have n2_ := As0 (Kd.R_mono (Kd.R_told (Kd.R_told (Kd.R_old (by (with_reducible repeat (first | apply Kd.R_alloc | apply Kd.R_drewN | apply Kd.R_drew)); exact (Kd.R_mono (Kd.R_far (p := ⟨gb262, 7, none⟩) (Kd.R_far (p := ⟨gb262, 6, none⟩) (Kd.R_far (p := ⟨gb262, 5, none⟩) (Kd.R_far (p := ⟨gb262, 4, none⟩) (Kd.R_far (p := ⟨gb262, 3, none⟩) (Kd.R_far (p := ⟨gb262, 2, none⟩) (Kd.R_far (p := ⟨gb262, 1, none⟩) (Kd.R_far (p := ⟨gb262, 0, none⟩) (Kd.R_types HO241.out BK262.out (by decide)) (fun _ hk => hk.2) (.int .i64 t248)) (fun _ hk => hk.2) (.int .i64 t249)) (fun _ hk => hk.2) (.int .i64 t250)) (fun _ hk => hk.2) (.int .i64 t251)) (fun _ hk => hk.2) (.slice Ao42 t252.length co42)) (fun _ hk => hk.2) (.slice Ao43 t255.length co43)) (fun _ hk => hk.2) (.slice Ao44 t258.length co44)) (fun _ hk => hk.2) (.int .i64 t261)) (fun _ h_ => h_.1))) hb) (Kd.R_base ho0)) (Kd.R_base ho2)) (fun _ h_ => h_.1)); have n3_ := As0 (Kd.R_mono (Kd.R_told (Kd.R_told (Kd.R_old (by (with_reducible repeat (first | apply Kd.R_alloc | apply Kd.R_drewN | apply Kd.R_drew)); exact (Kd.R_mono (Kd.R_far (p := ⟨gb262, 7, none⟩) (Kd.R_far (p := ⟨gb262, 6, none⟩) (Kd.R_far (p := ⟨gb262, 5, none⟩) (Kd.R_far (p := ⟨gb262, 4, none⟩) (Kd.R_far (p := ⟨gb262, 3, none⟩) (Kd.R_far (p := ⟨gb262, 2, none⟩) (Kd.R_far (p := ⟨gb262, 1, none⟩) (Kd.R_far (p := ⟨gb262, 0, none⟩) (Kd.R_types HO244.out BK262.out (by decide)) (fun _ hk => hk.2) (.int .i64 t248)) (fun _ hk => hk.2) (.int .i64 t249)) (fun _ hk => hk.2) (.int .i64 t250)) (fun _ hk => hk.2) (.int .i64 t251)) (fun _ hk => hk.2) (.slice Ao42 t252.length co42)) (fun _ hk => hk.2) (.slice Ao43 t255.length co43)) (fun _ hk => hk.2) (.slice Ao44 t258.length co44)) (fun _ hk => hk.2) (.int .i64 t261)) (fun _ h_ => h_.1))) hb) (Kd.R_base ho0)) (Kd.R_base ho2)) (fun _ h_ => h_.1)); have n4_ := As0 (Kd.R_mono (Kd.R_told (Kd.R_told (Kd.R_old (by (with_reducible repeat (first | apply Kd.R_alloc | apply Kd.R_drewN | apply Kd.R_drew)); exact (Kd.R_mono (Kd.R_far (p := ⟨gb262, 7, none⟩) (Kd.R_far (p := ⟨gb262, 6, none⟩) (Kd.R_far (p := ⟨gb262, 5, none⟩) (Kd.R_far (p := ⟨gb262, 4, none⟩) (Kd.R_far (p := ⟨gb262, 3, none⟩) (Kd.R_far (p := ⟨gb262, 2, none⟩) (Kd.R_far (p := ⟨gb262, 1, none⟩) (Kd.R_far (p := ⟨gb262, 0, none⟩) (Kd.R_types HO254.out BK262.out (by decide)) (fun _ hk => hk.2) (.int .i64 t248)) (fun _ hk => hk.2) (.int .i64 t249)) (fun _ hk => hk.2) (.int .i64 t250)) (fun _ hk => hk.2) (.int .i64 t251)) (fun _ hk => hk.2) (.slice Ao42 t252.length co42)) (fun _ hk => hk.2) (.slice Ao43 t255.length co43)) (fun _ hk => hk.2) (.slice Ao44 t258.length co44)) (fun _ hk => hk.2) (.int .i64 t261)) (fun _ h_ => h_.1))) hb) (Kd.R_base ho0)) (Kd.R_base ho2)) (fun _ h_ => h_.1)); have n5_ := As0 (Kd.R_mono (Kd.R_told (Kd.R_told (Kd.R_old (by (with_reducible repeat (first | apply Kd.R_alloc | apply Kd.R_drewN | apply Kd.R_drew)); exact (Kd.R_mono (Kd.R_far (p := ⟨gb262, 7, none⟩) (Kd.R_far (p := ⟨gb262, 6, none⟩) (Kd.R_far (p := ⟨gb262, 5, none⟩) (Kd.R_far (p := ⟨gb262, 4, none⟩) (Kd.R_far (p := ⟨gb262, 3, none⟩) (Kd.R_far (p := ⟨gb262, 2, none⟩) (Kd.R_far (p := ⟨gb262, 1, none⟩) (Kd.R_far (p := ⟨gb262, 0, none⟩) (Kd.R_types HO257.out BK262.out (by decide)) (fun _ hk => hk.2) (.int .i64 t248)) (fun _ hk => hk.2) (.int .i64 t249)) (fun _ hk => hk.2) (.int .i64 t250)) (fun _ hk => hk.2) (.int .i64 t251)) (fun _ hk => hk.2) (.slice Ao42 t252.length co42)) (fun _ hk => hk.2) (.slice Ao43 t255.length co43)) (fun _ hk => hk.2) (.slice Ao44 t258.length co44)) (fun _ hk => hk.2) (.int .i64 t261)) (fun _ h_ => h_.1))) hb) (Kd.R_base ho0)) (Kd.R_base ho2)) (fun _ h_ => h_.1)); have n6_ := As0 (Kd.R_mono (Kd.R_told (Kd.R_told (Kd.R_old (by (with_reducible repeat (first | apply Kd.R_alloc | apply Kd.R_drewN | apply Kd.R_drew)); exact (Kd.R_mono (Kd.R_far (p := ⟨gb262, 7, none⟩) (Kd.R_far (p := ⟨gb262, 6, none⟩) (Kd.R_far (p := ⟨gb262, 5, none⟩) (Kd.R_far (p := ⟨gb262, 4, none⟩) (Kd.R_far (p := ⟨gb262, 3, none⟩) (Kd.R_far (p := ⟨gb262, 2, none⟩) (Kd.R_far (p := ⟨gb262, 1, none⟩) (Kd.R_far (p := ⟨gb262, 0, none⟩) (Kd.R_types HO260.out BK262.out (by decide)) (fun _ hk => hk.2) (.int .i64 t248)) (fun _ hk => hk.2) (.int .i64 t249)) (fun _ hk => hk.2) (.int .i64 t250)) (fun _ hk => hk.2) (.int .i64 t251)) (fun _ hk => hk.2) (.slice Ao42 t252.length co42)) (fun _ hk => hk.2) (.slice Ao43 t255.length co43)) (fun _ hk => hk.2) (.slice Ao44 t258.length co44)) (fun _ hk => hk.2) (.int .i64 t261)) (fun _ h_ => h_.1))) hb) (Kd.R_base ho0)) (Kd.R_base ho2)) (fun _ h_ => h_.1)); have n7_ := As0 (Kd.R_lower (Kd.R_new' (Kd.R_new' (Kd.R_new' (Kd.R_new' (Kd.R_new' (Kd.R_new' (Kd.R_new' (Kd.R_mono (ok' := fun k_ => some k_ ≠ (v274 : Value).ownBlock) ho0 (fun _ hk_ => hk_.2)) (Kd.R_lt (by (with_reducible repeat (first | apply Kd.R_alloc | apply Kd.R_drewN | apply Kd.R_drew)); exact (Kd.R_mono (Kd.R_far (p := ⟨gb262, 7, none⟩) (Kd.R_far (p := ⟨gb262, 6, none⟩) (Kd.R_far (p := ⟨gb262, 5, none⟩) (Kd.R_far (p := ⟨gb262, 4, none⟩) (Kd.R_far (p := ⟨gb262, 3, none⟩) (Kd.R_far (p := ⟨gb262, 2, none⟩) (Kd.R_far (p := ⟨gb262, 1, none⟩) (Kd.R_far (p := ⟨gb262, 0, none⟩) (Kd.R_types HO231.out BK262.out (by decide)) (fun _ hk => hk.2) (.int .i64 t248)) (fun _ hk => hk.2) (.int .i64 t249)) (fun _ hk => hk.2) (.int .i64 t250)) (fun _ hk => hk.2) (.int .i64 t251)) (fun _ hk => hk.2) (.slice Ao42 t252.length co42)) (fun _ hk => hk.2) (.slice Ao43 t255.length co43)) (fun _ hk => hk.2) (.slice Ao44 t258.length co44)) (fun _ hk => hk.2) (.int .i64 t261)) (fun _ h_ => h_.1))))) (Kd.R_lt (by (with_reducible repeat (first | apply Kd.R_alloc | apply Kd.R_drewN | apply Kd.R_drew)); exact (Kd.R_mono (Kd.R_far (p := ⟨gb262, 7, none⟩) (Kd.R_far (p := ⟨gb262, 6, none⟩) (Kd.R_far (p := ⟨gb262, 5, none⟩) (Kd.R_far (p := ⟨gb262, 4, none⟩) (Kd.R_far (p := ⟨gb262, 3, none⟩) (Kd.R_far (p := ⟨gb262, 2, none⟩) (Kd.R_far (p := ⟨gb262, 1, none⟩) (Kd.R_far (p := ⟨gb262, 0, none⟩) (Kd.R_types HO238.out BK262.out (by decide)) (fun _ hk => hk.2) (.int .i64 t248)) (fun _ hk => hk.2) (.int .i64 t249)) (fun _ hk => hk.2) (.int .i64 t250)) (fun _ hk => hk.2) (.int .i64 t251)) (fun _ hk => hk.2) (.slice Ao42 t252.length co42)) (fun _ hk => hk.2) (.slice Ao43 t255.length co43)) (fun _ hk => hk.2) (.slice Ao44 t258.length co44)) (fun _ hk => hk.2) (.int .i64 t261)) (fun _ h_ => h_.1))))) (Kd.R_lt (by (with_reducible repeat (first | apply Kd.R_alloc | apply Kd.R_drewN | apply Kd.R_drew)); exact (Kd.R_mono (Kd.R_far (p := ⟨gb262, 7, none⟩) (Kd.R_far (p := ⟨gb262, 6, none⟩) (Kd.R_far (p := ⟨gb262, 5, none⟩) (Kd.R_far (p := ⟨gb262, 4, none⟩) (Kd.R_far (p := ⟨gb262, 3, none⟩) (Kd.R_far (p := ⟨gb262, 2, none⟩) (Kd.R_far (p := ⟨gb262, 1, none⟩) (Kd.R_far (p := ⟨gb262, 0, none⟩) (Kd.R_types HO241.out BK262.out (by decide)) (fun _ hk => hk.2) (.int .i64 t248)) (fun _ hk => hk.2) (.int .i64 t249)) (fun _ hk => hk.2) (.int .i64 t250)) (fun _ hk => hk.2) (.int .i64 t251)) (fun _ hk => hk.2) (.slice Ao42 t252.length co42)) (fun _ hk => hk.2) (.slice Ao43 t255.length co43)) (fun _ hk => hk.2) (.slice Ao44 t258.length co44)) (fun _ hk => hk.2) (.int .i64 t261)) (fun _ h_ => h_.1))))) (Kd.R_lt (by (with_reducible repeat (first | apply Kd.R_alloc | apply Kd.R_drewN | apply Kd.R_drew)); exact (Kd.R_mono (Kd.R_far (p := ⟨gb262, 7, none⟩) (Kd.R_far (p := ⟨gb262, 6, none⟩) (Kd.R_far (p := ⟨gb262, 5, none⟩) (Kd.R_far (p := ⟨gb262, 4, none⟩) (Kd.R_far (p := ⟨gb262, 3, none⟩) (Kd.R_far (p := ⟨gb262, 2, none⟩) (Kd.R_far (p := ⟨gb262, 1, none⟩) (Kd.R_far (p := ⟨gb262, 0, none⟩) (Kd.R_types HO244.out BK262.out (by decide)) (fun _ hk => hk.2) (.int .i64 t248)) (fun _ hk => hk.2) (.int .i64 t249)) (fun _ hk => hk.2) (.int .i64 t250)) (fun _ hk => hk.2) (.int .i64 t251)) (fun _ hk => hk.2) (.slice Ao42 t252.length co42)) (fun _ hk => hk.2) (.slice Ao43 t255.length co43)) (fun _ hk => hk.2) (.slice Ao44 t258.length co44)) (fun _ hk => hk.2) (.int .i64 t261)) (fun _ h_ => h_.1))))) (Kd.R_lt (by (with_reducible repeat (first | apply Kd.R_alloc | apply Kd.R_drewN | apply Kd.R_drew)); exact (Kd.R_mono (Kd.R_far (p := ⟨gb262, 7, none⟩) (Kd.R_far (p := ⟨gb262, 6, none⟩) (Kd.R_far (p := ⟨gb262, 5, none⟩) (Kd.R_far (p := ⟨gb262, 4, none⟩) (Kd.R_far (p := ⟨gb262, 3, none⟩) (Kd.R_far (p := ⟨gb262, 2, none⟩) (Kd.R_far (p := ⟨gb262, 1, none⟩) (Kd.R_far (p := ⟨gb262, 0, none⟩) (Kd.R_types HO254.out BK262.out (by decide)) (fun _ hk => hk.2) (.int .i64 t248)) (fun _ hk => hk.2) (.int .i64 t249)) (fun _ hk => hk.2) (.int .i64 t250)) (fun _ hk => hk.2) (.int .i64 t251)) (fun _ hk => hk.2) (.slice Ao42 t252.length co42)) (fun _ hk => hk.2) (.slice Ao43 t255.length co43)) (fun _ hk => hk.2) (.slice Ao44 t258.length co44)) (fun _ hk => hk.2) (.int .i64 t261)) (fun _ h_ => h_.1))))) (Kd.R_lt (by (with_reducible repeat (first | apply Kd.R_alloc | apply Kd.R_drewN | apply Kd.R_drew)); exact (Kd.R_mono (Kd.R_far (p := ⟨gb262, 7, none⟩) (Kd.R_far (p := ⟨gb262, 6, none⟩) (Kd.R_far (p := ⟨gb262, 5, none⟩) (Kd.R_far (p := ⟨gb262, 4, none⟩) (Kd.R_far (p := ⟨gb262, 3, none⟩) (Kd.R_far (p := ⟨gb262, 2, none⟩) (Kd.R_far (p := ⟨gb262, 1, none⟩) (Kd.R_far (p := ⟨gb262, 0, none⟩) (Kd.R_types HO257.out BK262.out (by decide)) (fun _ hk => hk.2) (.int .i64 t248)) (fun _ hk => hk.2) (.int .i64 t249)) (fun _ hk => hk.2) (.int .i64 t250)) (fun _ hk => hk.2) (.int .i64 t251)) (fun _ hk => hk.2) (.slice Ao42 t252.length co42)) (fun _ hk => hk.2) (.slice Ao43 t255.length co43)) (fun _ hk => hk.2) (.slice Ao44 t258.length co44)) (fun _ hk => hk.2) (.int .i64 t261)) (fun _ h_ => h_.1))))) (Kd.R_lt (by (with_reducible repeat (first | apply Kd.R_alloc | apply Kd.R_drewN | apply Kd.R_drew)); exact (Kd.R_mono (Kd.R_far (p := ⟨gb262, 7, none⟩) (Kd.R_far (p := ⟨gb262, 6, none⟩) (Kd.R_far (p := ⟨gb262, 5, none⟩) (Kd.R_far (p := ⟨gb262, 4, none⟩) (Kd.R_far (p := ⟨gb262, 3, none⟩) (Kd.R_far (p := ⟨gb262, 2, none⟩) (Kd.R_far (p := ⟨gb262, 1, none⟩) (Kd.R_far (p := ⟨gb262, 0, none⟩) (Kd.R_types HO260.out BK262.out (by decide)) (fun _ hk => hk.2) (.int .i64 t248)) (fun _ hk => hk.2) (.int .i64 t249)) (fun _ hk => hk.2) (.int .i64 t250)) (fun _ hk => hk.2) (.int .i64 t251)) (fun _ hk => hk.2) (.slice Ao42 t252.length co42)) (fun _ hk => hk.2) (.slice Ao43 t255.length co43)) (fun _ hk => hk.2) (.slice Ao44 t258.length co44)) (fun _ hk => hk.2) (.int .i64 t261)) (fun _ h_ => h_.1))))) (below_size (by repeat (first | (with_reducible first | exact HB.out | apply below_alloc | apply bdN | apply bd1 | refine below_set ?_ GE222.out | refine below_set ?_ GE247.out | refine below_set ?_ GE262.out) | exact HB.out)))); have n8_ := As0 (Kd.V_lower (Kd.V_mono (ok' := fun k_ => some k_ ≠ (v268 : Value).ownBlock ∧ some k_ ≠ (v274 : Value).ownBlock ∧ some k_ ≠ (.slice Ao29 y229.length co29 : Value).ownBlock ∧ some k_ ≠ (.slice Ao34 t236.length co34 : Value).ownBlock ∧ some k_ ≠ (.slice Ao35 t239.length co35 : Value).ownBlock ∧ some k_ ≠ (.slice Ao36 t242.length co36 : Value).ownBlock ∧ some k_ ≠ (.slice Ao42 t252.length co42 : Value).ownBlock ∧ some k_ ≠ (.slice Ao43 t255.length co43 : Value).ownBlock ∧ some k_ ≠ (.slice Ao44 t258.length co44 : Value).ownBlock ∧ k_ ≠ gb222 ∧ k_ ≠ gb247 ∧ k_ ≠ gb262) ho1 (fun k_ hk_ => ⟨hk_.2.1, hk_.2.2, (Kd.fresh' (Kd.R_lt (by (with_reducible repeat (first | apply Kd.R_alloc | apply Kd.R_drewN | apply Kd.R_drew)); exact (Kd.R_mono (Kd.R_far (p := ⟨gb262, 7, none⟩) (Kd.R_far (p := ⟨gb262, 6, none⟩) (Kd.R_far (p := ⟨gb262, 5, none⟩) (Kd.R_far (p := ⟨gb262, 4, none⟩) (Kd.R_far (p := ⟨gb262, 3, none⟩) (Kd.R_far (p := ⟨gb262, 2, none⟩) (Kd.R_far (p := ⟨gb262, 1, none⟩) (Kd.R_far (p := ⟨gb262, 0, none⟩) (Kd.R_types HO231.out BK262.out (by decide)) (fun _ hk => hk.2) (.int .i64 t248)) (fun _ hk => hk.2) (.int .i64 t249)) (fun _ hk => hk.2) (.int .i64 t250)) (fun _ hk => hk.2) (.int .i64 t251)) (fun _ hk => hk.2) (.slice Ao42 t252.length co42)) (fun _ hk => hk.2) (.slice Ao43 t255.length co43)) (fun _ hk => hk.2) (.slice Ao44 t258.length co44)) (fun _ hk => hk.2) (.int .i64 t261)) (fun _ h_ => h_.1)))) k_ hk_.1), (Kd.fresh' (Kd.R_lt (by (with_reducible repeat (first | apply Kd.R_alloc | apply Kd.R_drewN | apply Kd.R_drew)); exact (Kd.R_mono (Kd.R_far (p := ⟨gb262, 7, none⟩) (Kd.R_far (p := ⟨gb262, 6, none⟩) (Kd.R_far (p := ⟨gb262, 5, none⟩) (Kd.R_far (p := ⟨gb262, 4, none⟩) (Kd.R_far (p := ⟨gb262, 3, none⟩) (Kd.R_far (p := ⟨gb262, 2, none⟩) (Kd.R_far (p := ⟨gb262, 1, none⟩) (Kd.R_far (p := ⟨gb262, 0, none⟩) (Kd.R_types HO238.out BK262.out (by decide)) (fun _ hk => hk.2) (.int .i64 t248)) (fun _ hk => hk.2) (.int .i64 t249)) (fun _ hk => hk.2) (.int .i64 t250)) (fun _ hk => hk.2) (.int .i64 t251)) (fun _ hk => hk.2) (.slice Ao42 t252.length co42)) (fun _ hk => hk.2) (.slice Ao43 t255.length co43)) (fun _ hk => hk.2) (.slice Ao44 t258.length co44)) (fun _ hk => hk.2) (.int .i64 t261)) (fun _ h_ => h_.1)))) k_ hk_.1), (Kd.fresh' (Kd.R_lt (by (with_reducible repeat (first | apply Kd.R_alloc | apply Kd.R_drewN | apply Kd.R_drew)); exact (Kd.R_mono (Kd.R_far (p := ⟨gb262, 7, none⟩) (Kd.R_far (p := ⟨gb262, 6, none⟩) (Kd.R_far (p := ⟨gb262, 5, none⟩) (Kd.R_far (p := ⟨gb262, 4, none⟩) (Kd.R_far (p := ⟨gb262, 3, none⟩) (Kd.R_far (p := ⟨gb262, 2, none⟩) (Kd.R_far (p := ⟨gb262, 1, none⟩) (Kd.R_far (p := ⟨gb262, 0, none⟩) (Kd.R_types HO241.out BK262.out (by decide)) (fun _ hk => hk.2) (.int .i64 t248)) (fun _ hk => hk.2) (.int .i64 t249)) (fun _ hk => hk.2) (.int .i64 t250)) (fun _ hk => hk.2) (.int .i64 t251)) (fun _ hk => hk.2) (.slice Ao42 t252.length co42)) (fun _ hk => hk.2) (.slice Ao43 t255.length co43)) (fun _ hk => hk.2) (.slice Ao44 t258.length co44)) (fun _ hk => hk.2) (.int .i64 t261)) (fun _ h_ => h_.1)))) k_ hk_.1), (Kd.fresh' (Kd.R_lt (by (with_reducible repeat (first | apply Kd.R_alloc | apply Kd.R_drewN | apply Kd.R_drew)); exact (Kd.R_mono (Kd.R_far (p := ⟨gb262, 7, none⟩) (Kd.R_far (p := ⟨gb262, 6, none⟩) (Kd.R_far (p := ⟨gb262, 5, none⟩) (Kd.R_far (p := ⟨gb262, 4, none⟩) (Kd.R_far (p := ⟨gb262, 3, none⟩) (Kd.R_far (p := ⟨gb262, 2, none⟩) (Kd.R_far (p := ⟨gb262, 1, none⟩) (Kd.R_far (p := ⟨gb262, 0, none⟩) (Kd.R_types HO244.out BK262.out (by decide)) (fun _ hk => hk.2) (.int .i64 t248)) (fun _ hk => hk.2) (.int .i64 t249)) (fun _ hk => hk.2) (.int .i64 t250)) (fun _ hk => hk.2) (.int .i64 t251)) (fun _ hk => hk.2) (.slice Ao42 t252.length co42)) (fun _ hk => hk.2) (.slice Ao43 t255.length co43)) (fun _ hk => hk.2) (.slice Ao44 t258.length co44)) (fun _ hk => hk.2) (.int .i64 t261)) (fun _ h_ => h_.1)))) k_ hk_.1), (Kd.fresh' (Kd.R_lt (by (with_reducible repeat (first | apply Kd.R_alloc | apply Kd.R_drewN | apply Kd.R_drew)); exact (Kd.R_mono (Kd.R_far (p := ⟨gb262, 7, none⟩) (Kd.R_far (p := ⟨gb262, 6, none⟩) (Kd.R_far (p := ⟨gb262, 5, none⟩) (Kd.R_far (p := ⟨gb262, 4, none⟩) (Kd.R_far (p := ⟨gb262, 3, none⟩) (Kd.R_far (p := ⟨gb262, 2, none⟩) (Kd.R_far (p := ⟨gb262, 1, none⟩) (Kd.R_far (p := ⟨gb262, 0, none⟩) (Kd.R_types HO254.out BK262.out (by decide)) (fun _ hk => hk.2) (.int .i64 t248)) (fun _ hk => hk.2) (.int .i64 t249)) (fun _ hk => hk.2) (.int .i64 t250)) (fun _ hk => hk.2) (.int .i64 t251)) (fun _ hk => hk.2) (.slice Ao42 t252.length co42)) (fun _ hk => hk.2) (.slice Ao43 t255.length co43)) (fun _ hk => hk.2) (.slice Ao44 t258.length co44)) (fun _ hk => hk.2) (.int .i64 t261)) (fun _ h_ => h_.1)))) k_ hk_.1), (Kd.fresh' (Kd.R_lt (by (with_reducible repeat (first | apply Kd.R_alloc | apply Kd.R_drewN | apply Kd.R_drew)); exact (Kd.R_mono (Kd.R_far (p := ⟨gb262, 7, none⟩) (Kd.R_far (p := ⟨gb262, 6, none⟩) (Kd.R_far (p := ⟨gb262, 5, none⟩) (Kd.R_far (p := ⟨gb262, 4, none⟩) (Kd.R_far (p := ⟨gb262, 3, none⟩) (Kd.R_far (p := ⟨gb262, 2, none⟩) (Kd.R_far (p := ⟨gb262, 1, none⟩) (Kd.R_far (p := ⟨gb262, 0, none⟩) (Kd.R_types HO257.out BK262.out (by decide)) (fun _ hk => hk.2) (.int .i64 t248)) (fun _ hk => hk.2) (.int .i64 t249)) (fun _ hk => hk.2) (.int .i64 t250)) (fun _ hk => hk.2) (.int .i64 t251)) (fun _ hk => hk.2) (.slice Ao42 t252.length co42)) (fun _ hk => hk.2) (.slice Ao43 t255.length co43)) (fun _ hk => hk.2) (.slice Ao44 t258.length co44)) (fun _ hk => hk.2) (.int .i64 t261)) (fun _ h_ => h_.1)))) k_ hk_.1), (Kd.fresh' (Kd.R_lt (by (with_reducible repeat (first | apply Kd.R_alloc | apply Kd.R_drewN | apply Kd.R_drew)); exact (Kd.R_mono (Kd.R_far (p := ⟨gb262, 7, none⟩) (Kd.R_far (p := ⟨gb262, 6, none⟩) (Kd.R_far (p := ⟨gb262, 5, none⟩) (Kd.R_far (p := ⟨gb262, 4, none⟩) (Kd.R_far (p := ⟨gb262, 3, none⟩) (Kd.R_far (p := ⟨gb262, 2, none⟩) (Kd.R_far (p := ⟨gb262, 1, none⟩) (Kd.R_far (p := ⟨gb262, 0, none⟩) (Kd.R_types HO260.out BK262.out (by decide)) (fun _ hk => hk.2) (.int .i64 t248)) (fun _ hk => hk.2) (.int .i64 t249)) (fun _ hk => hk.2) (.int .i64 t250)) (fun _ hk => hk.2) (.int .i64 t251)) (fun _ hk => hk.2) (.slice Ao42 t252.length co42)) (fun _ hk => hk.2) (.slice Ao43 t255.length co43)) (fun _ hk => hk.2) (.slice Ao44 t258.length co44)) (fun _ hk => hk.2) (.int .i64 t261)) (fun _ h_ => h_.1)))) k_ hk_.1), (Kd.freshB (g := gb222) (o := .cells #[.int .i64 a0_0, .int .i64 a0_1, .slice A0_2 l0_2.length c0_2] 34 (0, 0)) (by (with_reducible repeat (first | refine blk_drewN ?_ _ | refine blk_drew ?_ | refine blk_alloc ?_ _)); refine blk_far ?_ NB222_262.out _; (with_reducible repeat (first | refine blk_drewN ?_ _ | refine blk_drew ?_ | refine blk_alloc ?_ _)); refine blk_far ?_ NB222_262.out _; (with_reducible repeat (first | refine blk_drewN ?_ _ | refine blk_drew ?_ | refine blk_alloc ?_ _)); refine blk_far ?_ NB222_262.out _; (with_reducible repeat (first | refine blk_drewN ?_ _ | refine blk_drew ?_ | refine blk_alloc ?_ _)); refine blk_far ?_ NB222_262.out _; (with_reducible repeat (first | refine blk_drewN ?_ _ | refine blk_drew ?_ | refine blk_alloc ?_ _)); refine blk_far ?_ NB222_262.out _; (with_reducible repeat (first | refine blk_drewN ?_ _ | refine blk_drew ?_ | refine blk_alloc ?_ _)); refine blk_far ?_ NB222_262.out _; (with_reducible repeat (first | refine blk_drewN ?_ _ | refine blk_drew ?_ | refine blk_alloc ?_ _)); refine blk_far ?_ NB222_262.out _; (with_reducible repeat (first | refine blk_drewN ?_ _ | refine blk_drew ?_ | refine blk_alloc ?_ _)); refine blk_far ?_ NB222_262.out _; (with_reducible repeat (first | refine blk_drewN ?_ _ | refine blk_drew ?_ | refine blk_alloc ?_ _)); exact BK222.out) k_ hk_.1), (Kd.freshB (g := gb247) (o := .cells #[.int .i64 t232, .int .i64 t233, .int .i64 t234, .int .i64 t235, .slice Ao34 t236.length co34, .slice Ao35 t239.length co35, .slice Ao36 t242.length co36, .int .i64 t245] 39 (0, 0)) (by (with_reducible repeat (first | refine blk_drewN ?_ _ | refine blk_drew ?_ | refine blk_alloc ?_ _)); refine blk_far ?_ NB247_262.out _; (with_reducible repeat (first | refine blk_drewN ?_ _ | refine blk_drew ?_ | refine blk_alloc ?_ _)); refine blk_far ?_ NB247_262.out _; (with_reducible repeat (first | refine blk_drewN ?_ _ | refine blk_drew ?_ | refine blk_alloc ?_ _)); refine blk_far ?_ NB247_262.out _; (with_reducible repeat (first | refine blk_drewN ?_ _ | refine blk_drew ?_ | refine blk_alloc ?_ _)); refine blk_far ?_ NB247_262.out _; (with_reducible repeat (first | refine blk_drewN ?_ _ | refine blk_drew ?_ | refine blk_alloc ?_ _)); refine blk_far ?_ NB247_262.out _; (with_reducible repeat (first | refine blk_drewN ?_ _ | refine blk_drew ?_ | refine blk_alloc ?_ _)); refine blk_far ?_ NB247_262.out _; (with_reducible repeat (first | refine blk_drewN ?_ _ | refine blk_drew ?_ | refine blk_alloc ?_ _)); refine blk_far ?_ NB247_262.out _; (with_reducible repeat (first | refine blk_drewN ?_ _ | refine blk_drew ?_ | refine blk_alloc ?_ _)); refine blk_far ?_ NB247_262.out _; (with_reducible repeat (first | refine blk_drewN ?_ _ | refine blk_drew ?_ | refine blk_alloc ?_ _)); exact BK247.out) k_ hk_.1), (Kd.freshB (g := gb262) (o := .cells #[.int .i64 t248, .int .i64 t249, .int .i64 t250, .int .i64 t251, .slice Ao42 t252.length co42, .slice Ao43 t255.length co43, .slice Ao44 t258.length co44, .int .i64 t261] 39 (0, 0)) (by (with_reducible repeat (first | refine blk_drewN ?_ _ | refine blk_drew ?_ | refine blk_alloc ?_ _)); refine blk_put (cs := #[.int .i64 t248, .int .i64 t249, .int .i64 t250, .int .i64 t251, .slice Ao42 t252.length co42, .slice Ao43 t255.length co43, .slice Ao44 t258.length co44, .int .i64 0]) ?_ 7 _ rfl; (with_reducible repeat (first | refine blk_drewN ?_ _ | refine blk_drew ?_ | refine blk_alloc ?_ _)); refine blk_put (cs := #[.int .i64 t248, .int .i64 t249, .int .i64 t250, .int .i64 t251, .slice Ao42 t252.length co42, .slice Ao43 t255.length co43, .slice none 0 0, .int .i64 0]) ?_ 6 _ rfl; (with_reducible repeat (first | refine blk_drewN ?_ _ | refine blk_drew ?_ | refine blk_alloc ?_ _)); refine blk_put (cs := #[.int .i64 t248, .int .i64 t249, .int .i64 t250, .int .i64 t251, .slice Ao42 t252.length co42, .slice none 0 0, .slice none 0 0, .int .i64 0]) ?_ 5 _ rfl; (with_reducible repeat (first | refine blk_drewN ?_ _ | refine blk_drew ?_ | refine blk_alloc ?_ _)); refine blk_put (cs := #[.int .i64 t248, .int .i64 t249, .int .i64 t250, .int .i64 t251, .slice none 0 0, .slice none 0 0, .slice none 0 0, .int .i64 0]) ?_ 4 _ rfl; (with_reducible repeat (first | refine blk_drewN ?_ _ | refine blk_drew ?_ | refine blk_alloc ?_ _)); refine blk_put (cs := #[.int .i64 t248, .int .i64 t249, .int .i64 t250, .int .i64 0, .slice none 0 0, .slice none 0 0, .slice none 0 0, .int .i64 0]) ?_ 3 _ rfl; (with_reducible repeat (first | refine blk_drewN ?_ _ | refine blk_drew ?_ | refine blk_alloc ?_ _)); refine blk_put (cs := #[.int .i64 t248, .int .i64 t249, .int .i64 0, .int .i64 0, .slice none 0 0, .slice none 0 0, .slice none 0 0, .int .i64 0]) ?_ 2 _ rfl; (with_reducible repeat (first | refine blk_drewN ?_ _ | refine blk_drew ?_ | refine blk_alloc ?_ _)); refine blk_put (cs := #[.int .i64 t248, .int .i64 0, .int .i64 0, .int .i64 0, .slice none 0 0, .slice none 0 0, .slice none 0 0, .int .i64 0]) ?_ 1 _ rfl; (with_reducible repeat (first | refine blk_drewN ?_ _ | refine blk_drew ?_ | refine blk_alloc ?_ _)); refine blk_put (cs := #[.int .i64 0, .int .i64 0, .int .i64 0, .int .i64 0, .slice none 0 0, .slice none 0 0, .slice none 0 0, .int .i64 0]) ?_ 0 _ rfl; (with_reducible repeat (first | refine blk_drewN ?_ _ | refine blk_drew ?_ | refine blk_alloc ?_ _)); exact BK262.out) k_ hk_.1)⟩)) (below_size (by repeat (first | (with_reducible first | exact HB.out | apply below_alloc | apply bdN | apply bd1 | refine below_set ?_ GE222.out | refine below_set ?_ GE247.out | refine below_set ?_ GE262.out) | exact HB.out)))); have n9_ := As0 (Kd.R_lower (Kd.R_new' (Kd.R_new' (Kd.R_new' (Kd.R_new' (Kd.R_new' (Kd.R_new' (Kd.R_new' (Kd.R_mono (ok' := fun k_ => some k_ ≠ (v268 : Value).ownBlock) ho2 (fun _ hk_ => hk_.2)) (Kd.R_lt (by (with_reducible repeat (first | apply Kd.R_alloc | apply Kd.R_drewN | apply Kd.R_drew)); exact (Kd.R_mono (Kd.R_far (p := ⟨gb262, 7, none⟩) (Kd.R_far (p := ⟨gb262, 6, none⟩) (Kd.R_far (p := ⟨gb262, 5, none⟩) (Kd.R_far (p := ⟨gb262, 4, none⟩) (Kd.R_far (p := ⟨gb262, 3, none⟩) (Kd.R_far (p := ⟨gb262, 2, none⟩) (Kd.R_far (p := ⟨gb262, 1, none⟩) (Kd.R_far (p := ⟨gb262, 0, none⟩) (Kd.R_types HO231.out BK262.out (by decide)) (fun _ hk => hk.2) (.int .i64 t248)) (fun _ hk => hk.2) (.int .i64 t249)) (fun _ hk => hk.2) (.int .i64 t250)) (fun _ hk => hk.2) (.int .i64 t251)) (fun _ hk => hk.2) (.slice Ao42 t252.length co42)) (fun _ hk => hk.2) (.slice Ao43 t255.length co43)) (fun _ hk => hk.2) (.slice Ao44 t258.length co44)) (fun _ hk => hk.2) (.int .i64 t261)) (fun _ h_ => h_.1))))) (Kd.R_lt (by (with_reducible repeat (first | apply Kd.R_alloc | apply Kd.R_drewN | apply Kd.R_drew)); exact (Kd.R_mono (Kd.R_far (p := ⟨gb262, 7, none⟩) (Kd.R_far (p := ⟨gb262, 6, none⟩) (Kd.R_far (p := ⟨gb262, 5, none⟩) (Kd.R_far (p := ⟨gb262, 4, none⟩) (Kd.R_far (p := ⟨gb262, 3, none⟩) (Kd.R_far (p := ⟨gb262, 2, none⟩) (Kd.R_far (p := ⟨gb262, 1, none⟩) (Kd.R_far (p := ⟨gb262, 0, none⟩) (Kd.R_types HO238.out BK262.out (by decide)) (fun _ hk => hk.2) (.int .i64 t248)) (fun _ hk => hk.2) (.int .i64 t249)) (fun _ hk => hk.2) (.int .i64 t250)) (fun _ hk => hk.2) (.int .i64 t251)) (fun _ hk => hk.2) (.slice Ao42 t252.length co42)) (fun _ hk => hk.2) (.slice Ao43 t255.length co43)) (fun _ hk => hk.2) (.slice Ao44 t258.length co44)) (fun _ hk => hk.2) (.int .i64 t261)) (fun _ h_ => h_.1))))) (Kd.R_lt (by (with_reducible repeat (first | apply Kd.R_alloc | apply Kd.R_drewN | apply Kd.R_drew)); exact (Kd.R_mono (Kd.R_far (p := ⟨gb262, 7, none⟩) (Kd.R_far (p := ⟨gb262, 6, none⟩) (Kd.R_far (p := ⟨gb262, 5, none⟩) (Kd.R_far (p := ⟨gb262, 4, none⟩) (Kd.R_far (p := ⟨gb262, 3, none⟩) (Kd.R_far (p := ⟨gb262, 2, none⟩) (Kd.R_far (p := ⟨gb262, 1, none⟩) (Kd.R_far (p := ⟨gb262, 0, none⟩) (Kd.R_types HO241.out BK262.out (by decide)) (fun _ hk => hk.2) (.int .i64 t248)) (fun _ hk => hk.2) (.int .i64 t249)) (fun _ hk => hk.2) (.int .i64 t250)) (fun _ hk => hk.2) (.int .i64 t251)) (fun _ hk => hk.2) (.slice Ao42 t252.length co42)) (fun _ hk => hk.2) (.slice Ao43 t255.length co43)) (fun _ hk => hk.2) (.slice Ao44 t258.length co44)) (fun _ hk => hk.2) (.int .i64 t261)) (fun _ h_ => h_.1))))) (Kd.R_lt (by (with_reducible repeat (first | apply Kd.R_alloc | apply Kd.R_drewN | apply Kd.R_drew)); exact (Kd.R_mono (Kd.R_far (p := ⟨gb262, 7, none⟩) (Kd.R_far (p := ⟨gb262, 6, none⟩) (Kd.R_far (p := ⟨gb262, 5, none⟩) (Kd.R_far (p := ⟨gb262, 4, none⟩) (Kd.R_far (p := ⟨gb262, 3, none⟩) (Kd.R_far (p := ⟨gb262, 2, none⟩) (Kd.R_far (p := ⟨gb262, 1, none⟩) (Kd.R_far (p := ⟨gb262, 0, none⟩) (Kd.R_types HO244.out BK262.out (by decide)) (fun _ hk => hk.2) (.int .i64 t248)) (fun _ hk => hk.2) (.int .i64 t249)) (fun _ hk => hk.2) (.int .i64 t250)) (fun _ hk => hk.2) (.int .i64 t251)) (fun _ hk => hk.2) (.slice Ao42 t252.length co42)) (fun _ hk => hk.2) (.slice Ao43 t255.length co43)) (fun _ hk => hk.2) (.slice Ao44 t258.length co44)) (fun _ hk => hk.2) (.int .i64 t261)) (fun _ h_ => h_.1))))) (Kd.R_lt (by (with_reducible repeat (first | apply Kd.R_alloc | apply Kd.R_drewN | apply Kd.R_drew)); exact (Kd.R_mono (Kd.R_far (p := ⟨gb262, 7, none⟩) (Kd.R_far (p := ⟨gb262, 6, none⟩) (Kd.R_far (p := ⟨gb262, 5, none⟩) (Kd.R_far (p := ⟨gb262, 4, none⟩) (Kd.R_far (p := ⟨gb262, 3, none⟩) (Kd.R_far (p := ⟨gb262, 2, none⟩) (Kd.R_far (p := ⟨gb262, 1, none⟩) (Kd.R_far (p := ⟨gb262, 0, none⟩) (Kd.R_types HO254.out BK262.out (by decide)) (fun _ hk => hk.2) (.int .i64 t248)) (fun _ hk => hk.2) (.int .i64 t249)) (fun _ hk => hk.2) (.int .i64 t250)) (fun _ hk => hk.2) (.int .i64 t251)) (fun _ hk => hk.2) (.slice Ao42 t252.length co42)) (fun _ hk => hk.2) (.slice Ao43 t255.length co43)) (fun _ hk => hk.2) (.slice Ao44 t258.length co44)) (fun _ hk => hk.2) (.int .i64 t261)) (fun _ h_ => h_.1))))) (Kd.R_lt (by (with_reducible repeat (first | apply Kd.R_alloc | apply Kd.R_drewN | apply Kd.R_drew)); exact (Kd.R_mono (Kd.R_far (p := ⟨gb262, 7, none⟩) (Kd.R_far (p := ⟨gb262, 6, none⟩) (Kd.R_far (p := ⟨gb262, 5, none⟩) (Kd.R_far (p := ⟨gb262, 4, none⟩) (Kd.R_far (p := ⟨gb262, 3, none⟩) (Kd.R_far (p := ⟨gb262, 2, none⟩) (Kd.R_far (p := ⟨gb262, 1, none⟩) (Kd.R_far (p := ⟨gb262, 0, none⟩) (Kd.R_types HO257.out BK262.out (by decide)) (fun _ hk => hk.2) (.int .i64 t248)) (fun _ hk => hk.2) (.int .i64 t249)) (fun _ hk => hk.2) (.int .i64 t250)) (fun _ hk => hk.2) (.int .i64 t251)) (fun _ hk => hk.2) (.slice Ao42 t252.length co42)) (fun _ hk => hk.2) (.slice Ao43 t255.length co43)) (fun _ hk => hk.2) (.slice Ao44 t258.length co44)) (fun _ hk => hk.2) (.int .i64 t261)) (fun _ h_ => h_.1))))) (Kd.R_lt (by (with_reducible repeat (first | apply Kd.R_alloc | apply Kd.R_drewN | apply Kd.R_drew)); exact (Kd.R_mono (Kd.R_far (p := ⟨gb262, 7, none⟩) (Kd.R_far (p := ⟨gb262, 6, none⟩) (Kd.R_far (p := ⟨gb262, 5, none⟩) (Kd.R_far (p := ⟨gb262, 4, none⟩) (Kd.R_far (p := ⟨gb262, 3, none⟩) (Kd.R_far (p := ⟨gb262, 2, none⟩) (Kd.R_far (p := ⟨gb262, 1, none⟩) (Kd.R_far (p := ⟨gb262, 0, none⟩) (Kd.R_types HO260.out BK262.out (by decide)) (fun _ hk => hk.2) (.int .i64 t248)) (fun _ hk => hk.2) (.int .i64 t249)) (fun _ hk => hk.2) (.int .i64 t250)) (fun _ hk => hk.2) (.int .i64 t251)) (fun _ hk => hk.2) (.slice Ao42 t252.length co42)) (fun _ hk => hk.2) (.slice Ao43 t255.length co43)) (fun _ hk => hk.2) (.slice Ao44 t258.length co44)) (fun _ hk => hk.2) (.int .i64 t261)) (fun _ h_ => h_.1))))) (below_size (by repeat (first | (with_reducible first | exact HB.out | apply below_alloc | apply bdN | apply bd1 | refine below_set ?_ GE222.out | refine below_set ?_ GE247.out | refine below_set ?_ GE262.out) | exact HB.out)))); have n10_ := As0 (blk_below (g := gb222) (o := .cells #[.int .i64 a0_0, .int .i64 a0_1, .slice A0_2 l0_2.length c0_2] 34 (0, 0)) (by (with_reducible repeat (first | refine blk_drewN ?_ _ | refine blk_drew ?_ | refine blk_alloc ?_ _)); refine blk_far ?_ NB222_262.out _; (with_reducible repeat (first | refine blk_drewN ?_ _ | refine blk_drew ?_ | refine blk_alloc ?_ _)); refine blk_far ?_ NB222_262.out _; (with_reducible repeat (first | refine blk_drewN ?_ _ | refine blk_drew ?_ | refine blk_alloc ?_ _)); refine blk_far ?_ NB222_262.out _; (with_reducible repeat (first | refine blk_drewN ?_ _ | refine blk_drew ?_ | refine blk_alloc ?_ _)); refine blk_far ?_ NB222_262.out _; (with_reducible repeat (first | refine blk_drewN ?_ _ | refine blk_drew ?_ | refine blk_alloc ?_ _)); refine blk_far ?_ NB222_262.out _; (with_reducible repeat (first | refine blk_drewN ?_ _ | refine blk_drew ?_ | refine blk_alloc ?_ _)); refine blk_far ?_ NB222_262.out _; (with_reducible repeat (first | refine blk_drewN ?_ _ | refine blk_drew ?_ | refine blk_alloc ?_ _)); refine blk_far ?_ NB222_262.out _; (with_reducible repeat (first | refine blk_drewN ?_ _ | refine blk_drew ?_ | refine blk_alloc ?_ _)); refine blk_far ?_ NB222_262.out _; (with_reducible repeat (first | refine blk_drewN ?_ _ | refine blk_drew ?_ | refine blk_alloc ?_ _)); exact BK222.out) hb); have n11_ := As0 (blk_below (g := gb247) (o := .cells #[.int .i64 t232, .int .i64 t233, .int .i64 t234, .int .i64 t235, .slice Ao34 t236.length co34, .slice Ao35 t239.length co35, .slice Ao36 t242.length co36, .int .i64 t245] 39 (0, 0)) (by (with_reducible repeat (first | refine blk_drewN ?_ _ | refine blk_drew ?_ | refine blk_alloc ?_ _)); refine blk_far ?_ NB247_262.out _; (with_reducible repeat (first | refine blk_drewN ?_ _ | refine blk_drew ?_ | refine blk_alloc ?_ _)); refine blk_far ?_ NB247_262.out _; (with_reducible repeat (first | refine blk_drewN ?_ _ | refine blk_drew ?_ | refine blk_alloc ?_ _)); refine blk_far ?_ NB247_262.out _; (with_reducible repeat (first | refine blk_drewN ?_ _ | refine blk_drew ?_ | refine blk_alloc ?_ _)); refine blk_far ?_ NB247_262.out _; (with_reducible repeat (first | refine blk_drewN ?_ _ | refine blk_drew ?_ | refine blk_alloc ?_ _)); refine blk_far ?_ NB247_262.out _; (with_reducible repeat (first | refine blk_drewN ?_ _ | refine blk_drew ?_ | refine blk_alloc ?_ _)); refine blk_far ?_ NB247_262.out _; (with_reducible repeat (first | refine blk_drewN ?_ _ | refine blk_drew ?_ | refine blk_alloc ?_ _)); refine blk_far ?_ NB247_262.out _; (with_reducible repeat (first | refine blk_drewN ?_ _ | refine blk_drew ?_ | refine blk_alloc ?_ _)); refine blk_far ?_ NB247_262.out _; (with_reducible repeat (first | refine blk_drewN ?_ _ | refine blk_drew ?_ | refine blk_alloc ?_ _)); exact BK247.out) hb); have n12_ := As0 (blk_below (g := gb262) (o := .cells #[.int .i64 t248, .int .i64 t249, .int .i64 t250, .int .i64 t251, .slice Ao42 t252.length co42, .slice Ao43 t255.length co43, .slice Ao44 t258.length co44, .int .i64 t261] 39 (0, 0)) (by (with_reducible repeat (first | refine blk_drewN ?_ _ | refine blk_drew ?_ | refine blk_alloc ?_ _)); refine blk_put (cs := #[.int .i64 t248, .int .i64 t249, .int .i64 t250, .int .i64 t251, .slice Ao42 t252.length co42, .slice Ao43 t255.length co43, .slice Ao44 t258.length co44, .int .i64 0]) ?_ 7 _ rfl; (with_reducible repeat (first | refine blk_drewN ?_ _ | refine blk_drew ?_ | refine blk_alloc ?_ _)); refine blk_put (cs := #[.int .i64 t248, .int .i64 t249, .int .i64 t250, .int .i64 t251, .slice Ao42 t252.length co42, .slice Ao43 t255.length co43, .slice none 0 0, .int .i64 0]) ?_ 6 _ rfl; (with_reducible repeat (first | refine blk_drewN ?_ _ | refine blk_drew ?_ | refine blk_alloc ?_ _)); refine blk_put (cs := #[.int .i64 t248, .int .i64 t249, .int .i64 t250, .int .i64 t251, .slice Ao42 t252.length co42, .slice none 0 0, .slice none 0 0, .int .i64 0]) ?_ 5 _ rfl; (with_reducible repeat (first | refine blk_drewN ?_ _ | refine blk_drew ?_ | refine blk_alloc ?_ _)); refine blk_put (cs := #[.int .i64 t248, .int .i64 t249, .int .i64 t250, .int .i64 t251, .slice none 0 0, .slice none 0 0, .slice none 0 0, .int .i64 0]) ?_ 4 _ rfl; (with_reducible repeat (first | refine blk_drewN ?_ _ | refine blk_drew ?_ | refine blk_alloc ?_ _)); refine blk_put (cs := #[.int .i64 t248, .int .i64 t249, .int .i64 t250, .int .i64 0, .slice none 0 0, .slice none 0 0, .slice none 0 0, .int .i64 0]) ?_ 3 _ rfl; (with_reducible repeat (first | refine blk_drewN ?_ _ | refine blk_drew ?_ | refine blk_alloc ?_ _)); refine blk_put (cs := #[.int .i64 t248, .int .i64 t249, .int .i64 0, .int .i64 0, .slice none 0 0, .slice none 0 0, .slice none 0 0, .int .i64 0]) ?_ 2 _ rfl; (with_reducible repeat (first | refine blk_drewN ?_ _ | refine blk_drew ?_ | refine blk_alloc ?_ _)); refine blk_put (cs := #[.int .i64 t248, .int .i64 0, .int .i64 0, .int .i64 0, .slice none 0 0, .slice none 0 0, .slice none 0 0, .int .i64 0]) ?_ 1 _ rfl; (with_reducible repeat (first | refine blk_drewN ?_ _ | refine blk_drew ?_ | refine blk_alloc ?_ _)); refine blk_put (cs := #[.int .i64 0, .int .i64 0, .int .i64 0, .int .i64 0, .slice none 0 0, .slice none 0 0, .slice none 0 0, .int .i64 0]) ?_ 0 _ rfl; (with_reducible repeat (first | refine blk_drewN ?_ _ | refine blk_drew ?_ | refine blk_alloc ?_ _)); exact BK262.out) hb); have n13_ := As0 (below_step (by repeat (first | (with_reducible first | exact HB.out | apply below_alloc | apply bdN | apply bd1 | refine below_set ?_ GE222.out | refine below_set ?_ GE247.out | refine below_set ?_ GE262.out) | exact HB.out)) hb); clear HO231; clear HO238; clear HO241; clear HO244; clear HO254; clear HO257; clear HO260; clear BK222; clear BK247; clear BK262; clear HB; have HO231 := n0_; have HO238 := n1_; have HO241 := n2_; have HO244 := n3_; have HO254 := n4_; have HO257 := n5_; have HO260 := n6_; have HO269 := n7_; have HO272 := n8_; have HO275 := n9_; have BK222 := n10_; have BK247 := n11_; have BK262 := n12_; have HB := n13_; clear n0_ n1_ n2_ n3_ n4_ n5_ n6_ n7_ n8_ n9_ n10_ n11_ n12_ n13_; (try clear hb); (try clear hb2); (try clear hk); (try clear hi); (try clear ho0); (try clear ho1); (try clear ho2)) | ((with_reducible refine gate_dst (N := 11) rfl ?_); (try (refine gate_guard (by rfl) ?_; dsimp only)); refine box_event ?hg (N := 11) ?hd (cs := #[.int .i64 0, .int .i64 0, .int .i64 0, .int .i64 0, .slice none 0 0, .slice none 0 0, .slice none 0 0, .int .i64 0]) (t := 39) ?hr ?_; (case hd => rfl); (case hg => rfl); (case hr => first | (go_simp; done) | (go_simp; rfl)); intro gb277 hg w48 hbox hb; have n0_ := As0 (Kd.R_below (by (with_reducible repeat (first | apply Kd.R_alloc | apply Kd.R_drewN | apply Kd.R_drew)); exact HO231.out) hb); have n1_ := As0 (Kd.R_below (by (with_reducible repeat (first | apply Kd.R_alloc | apply Kd.R_drewN | apply Kd.R_drew)); exact HO238.out) hb); have n2_ := As0 (Kd.R_below (by (with_reducible repeat (first | apply Kd.R_alloc | apply Kd.R_drewN | apply Kd.R_drew)); exact HO241.out) hb); have n3_ := As0 (Kd.R_below (by (with_reducible repeat (first | apply Kd.R_alloc | apply Kd.R_drewN | apply Kd.R_drew)); exact HO244.out) hb); have n4_ := As0 (Kd.R_below (by (with_reducible repeat (first | apply Kd.R_alloc | apply Kd.R_drewN | apply Kd.R_drew)); exact HO254.out) hb); have n5_ := As0 (Kd.R_below (by (with_reducible repeat (first | apply Kd.R_alloc | apply Kd.R_drewN | apply Kd.R_drew)); exact HO257.out) hb); have n6_ := As0 (Kd.R_below (by (with_reducible repeat (first | apply Kd.R_alloc | apply Kd.R_drewN | apply Kd.R_drew)); exact HO260.out) hb); have n7_ := As0 (Kd.R_below (by (with_reducible repeat (first | apply Kd.R_alloc | apply Kd.R_drewN | apply Kd.R_drew)); exact HO269.out) hb); have n8_ := As0 (Kd.V_below (Kd.V_elderB (by (with_reducible repeat (first | apply Kd.V_alloc | apply Kd.V_drewN | apply Kd.V_drew)); exact HO272.out) gb277 (Nat.le_of_eq hg.symm)) hb); have n9_ := As0 (Kd.R_below (by (with_reducible repeat (first | apply Kd.R_alloc | apply Kd.R_drewN | apply Kd.R_drew)); exact HO275.out) hb); have n10_ := As0 (blk_below (g := gb222) (o := .cells #[.int .i64 a0_0, .int .i64 a0_1, .slice A0_2 l0_2.length c0_2] 34 (0, 0)) (by (with_reducible repeat (first | refine blk_drewN ?_ _ | refine blk_drew ?_ | refine blk_alloc ?_ _)); exact BK222.out) hb); have n11_ := As0 (blk_below (g := gb247) (o := .cells #[.int .i64 t232, .int .i64 t233, .int .i64 t234, .int .i64 t235, .slice Ao34 t236.length co34, .slice Ao35 t239.length co35, .slice Ao36 t242.length co36, .int .i64 t245] 39 (0, 0)) (by (with_reducible repeat (first | refine blk_drewN ?_ _ | refine blk_drew ?_ | refine blk_alloc ?_ _)); exact BK247.out) hb); have n12_ := As0 (blk_below (g := gb262) (o := .cells #[.int .i64 t248, .int .i64 t249, .int .i64 t250, .int .i64 t251, .slice Ao42 t252.length co42, .slice Ao43 t255.length co43, .slice Ao44 t258.length co44, .int .i64 t261] 39 (0, 0)) (by (with_reducible repeat (first | refine blk_drewN ?_ _ | refine blk_drew ?_ | refine blk_alloc ?_ _)); exact BK262.out) hb); have n13_ := As0 (below_step (by repeat (first | (with_reducible first | exact HB.out | apply below_alloc | apply bdN | apply bd1 | refine below_set ?_ GE222.out | refine below_set ?_ GE247.out | refine below_set ?_ GE262.out) | exact HB.out)) hb); have n14_ := As0 (hbox); have n15_ := As0 ((by rw [hg]; exact (below_size (by repeat (first | (with_reducible first | exact HB.out | apply below_alloc | apply bdN | apply bd1 | refine below_set ?_ GE222.out | refine below_set ?_ GE247.out | refine below_set ?_ GE262.out) | exact HB.out))) : w.heap.size ≤ gb277)); have n16_ := As0 ((by rw [hg]; exact (below_size (by repeat (first | (with_reducible first | exact HB.out | apply below_alloc | apply bdN | apply bd1 | refine below_set ?_ GE222.out | refine below_set ?_ GE247.out | refine below_set ?_ GE262.out) | exact HB.out))) : w.heap.size ≤ gb277)); have n17_ := As0 ((by rw [hg]; exact Nat.ne_of_lt (blk_lt (g := gb222) (o := .cells #[.int .i64 a0_0, .int .i64 a0_1, .slice A0_2 l0_2.length c0_2] 34 (0, 0)) (by (with_reducible repeat (first | refine blk_drewN ?_ _ | refine blk_drew ?_ | refine blk_alloc ?_ _)); exact BK222.out)) : gb222 ≠ gb277)); have n18_ := As0 ((by rw [hg]; exact Nat.ne_of_gt (blk_lt (g := gb222) (o := .cells #[.int .i64 a0_0, .int .i64 a0_1, .slice A0_2 l0_2.length c0_2] 34 (0, 0)) (by (with_reducible repeat (first | refine blk_drewN ?_ _ | refine blk_drew ?_ | refine blk_alloc ?_ _)); exact BK222.out)) : gb277 ≠ gb222)); have n19_ := As0 ((by rw [hg]; exact Nat.ne_of_lt (blk_lt (g := gb247) (o := .cells #[.int .i64 t232, .int .i64 t233, .int .i64 t234, .int .i64 t235, .slice Ao34 t236.length co34, .slice Ao35 t239.length co35, .slice Ao36 t242.length co36, .int .i64 t245] 39 (0, 0)) (by (with_reducible repeat (first | refine blk_drewN ?_ _ | refine blk_drew ?_ | refine blk_alloc ?_ _)); exact BK247.out)) : gb247 ≠ gb277)); have n20_ := As0 ((by rw [hg]; exact Nat.ne_of_gt (blk_lt (g := gb247) (o := .cells #[.int .i64 t232, .int .i64 t233, .int .i64 t234, .int .i64 t235, .slice Ao34 t236.length co34, .slice Ao35 t239.length co35, .slice Ao36 t242.length co36, .int .i64 t245] 39 (0, 0)) (by (with_reducible repeat (first | refine blk_drewN ?_ _ | refine blk_drew ?_ | refine blk_alloc ?_ _)); exact BK247.out)) : gb277 ≠ gb247)); have n21_ := As0 ((by rw [hg]; exact Nat.ne_of_lt (blk_lt (g := gb262) (o := .cells #[.int .i64 t248, .int .i64 t249, .int .i64 t250, .int .i64 t251, .slice Ao42 t252.length co42, .slice Ao43 t255.length co43, .slice Ao44 t258.length co44, .int .i64 t261] 39 (0, 0)) (by (with_reducible repeat (first | refine blk_drewN ?_ _ | refine blk_drew ?_ | refine blk_alloc ?_ _)); exact BK262.out)) : gb262 ≠ gb277)); have n22_ := As0 ((by rw [hg]; exact Nat.ne_of_gt (blk_lt (g := gb262) (o := .cells #[.int .i64 t248, .int .i64 t249, .int .i64 t250, .int .i64 t251, .slice Ao42 t252.length co42, .slice Ao43 t255.length co43, .slice Ao44 t258.length co44, .int .i64 t261] 39 (0, 0)) (by (with_reducible repeat (first | refine blk_drewN ?_ _ | refine blk_drew ?_ | refine blk_alloc ?_ _)); exact BK262.out)) : gb277 ≠ gb262)); clear HO231; clear HO238; clear HO241; clear HO244; clear HO254; clear HO257; clear HO260; clear HO269; clear HO272; clear HO275; clear BK222; clear BK247; clear BK262; clear HB; have HO231 := n0_; have HO238 := n1_; have HO241 := n2_; have HO244 := n3_; have HO254 := n4_; have HO257 := n5_; have HO260 := n6_; have HO269 := n7_; have HO272 := n8_; have HO275 := n9_; have BK222 := n10_; have BK247 := n11_; have BK262 := n12_; have HB := n13_; have BK277 := n14_; have GW277 := n15_; have GE277 := n16_; have NB222_277 := n17_; have NB277_222 := n18_; have NB247_277 := n19_; have NB277_247 := n20_; have NB262_277 := n21_; have NB277_262 := n22_; clear n0_ n1_ n2_ n3_ n4_ n5_ n6_ n7_ n8_ n9_ n10_ n11_ n12_ n13_ n14_ n15_ n16_ n17_ n18_ n19_ n20_ n21_ n22_; clear hb hbox hg; have hnb49 := NB277_222.out; have hnc49 := NB222_277.out; have hnb50 := NB277_247.out; have hnc50 := NB247_277.out; have hnb51 := NB277_262.out; have hnc51 := NB262_277.out; have hcz52_0 : w48.cell? ⟨gb277, 0, none⟩ = some (.int .i64 0) := (blk_cell BK277.out 0).trans rfl; have hcz52_1 : w48.cell? ⟨gb277, 1, none⟩ = some (.int .i64 0) := (blk_cell BK277.out 1).trans rfl; have hcz52_2 : w48.cell? ⟨gb277, 2, none⟩ = some (.int .i64 0) := (blk_cell BK277.out 2).trans rfl; have hcz52_3 : w48.cell? ⟨gb277, 3, none⟩ = some (.int .i64 0) := (blk_cell BK277.out 3).trans rfl; have hcz52_4 : w48.cell? ⟨gb277, 4, none⟩ = some (.slice none 0 0) := (blk_cell BK277.out 4).trans rfl; have hcz52_5 : w48.cell? ⟨gb277, 5, none⟩ = some (.slice none 0 0) := (blk_cell BK277.out 5).trans rfl; have hcz52_6 : w48.cell? ⟨gb277, 6, none⟩ = some (.slice none 0 0) := (blk_cell BK277.out 6).trans rfl; have hcz52_7 : w48.cell? ⟨gb277, 7, none⟩ = some (.int .i64 0) := (blk_cell BK277.out 7).trans rfl; have hfz52_0 := blk_frozen BK277.out 0; have hfz52_1 := blk_frozen BK277.out 1; have hfz52_2 := blk_frozen BK277.out 2; have hfz52_3 := blk_frozen BK277.out 3; have hfz52_4 := blk_frozen BK277.out 4; have hfz52_5 := blk_frozen BK277.out 5; have hfz52_6 := blk_frozen BK277.out 6; have hfz52_7 := blk_frozen BK277.out 7; obtain ⟨Ao53, co53, eo53⟩ := Kd.R_slice HO269.out; subst eo53; obtain ⟨Ao54, co54, eo54⟩ := Kd.V_slice HO272.out; subst eo54; obtain ⟨Ao55, co55, eo55⟩ := Kd.R_slice HO275.out; subst eo55))
     go_loopg [12] kj3 (fun kq v12 w' => ∃ (x7_2 : List Int) (x12_2 : Int) (x248004_2 : List Int) (x248005_2 : List Int) (x248006_2 : List Int) (x263004_2 : List Int) (x263005_2 : List Int) (x263006_2 : List Int) (x278004_2 : List Int) (x278005_2 : List Int) (x278006_2 : List Int) (u248004 : Value) (u248005 : Value) (u248006 : Value) (u263004 : Value) (u263005 : Value) (u263006 : Value) (u278004 : Value) (u278005 : Value) (u278006 : Value), v12 = .int .i64 x12_2 ∧ Aside0 (regcertlaw09_InterpKeeps.l0 kq l1 x7_2 x12_2 t232 t233 t234 t235 x248004_2 x248005_2 x248006_2 t245 t248 t249 t250 t251 x263004_2 x263005_2 x263006_2 t261 t263 t264 t265 t266 x278004_2 x278005_2 x278006_2 t276 = some r) ∧ Aside0 (kq ≤ kj3) ∧ Aside0 (Kd.R (Kd.int .i64) 2 w' w.heap.size (fun k_ => some k_ ≠ (u248004 : Value).ownBlock ∧ some k_ ≠ (u248005 : Value).ownBlock ∧ some k_ ≠ (u248006 : Value).ownBlock ∧ some k_ ≠ (u263004 : Value).ownBlock ∧ some k_ ≠ (u263005 : Value).ownBlock ∧ some k_ ≠ (u263006 : Value).ownBlock ∧ some k_ ≠ (u278004 : Value).ownBlock ∧ some k_ ≠ (u278006 : Value).ownBlock) (.slice Ao29 y229.length co29) x7_2) ∧ Aside0 (Kd.R (Kd.int .i64) 2 w' w.heap.size (fun k_ => some k_ ≠ ((.slice Ao29 y229.length co29) : Value).ownBlock ∧ some k_ ≠ (u248005 : Value).ownBlock ∧ some k_ ≠ (u248006 : Value).ownBlock ∧ some k_ ≠ (u263004 : Value).ownBlock ∧ some k_ ≠ (u263005 : Value).ownBlock ∧ some k_ ≠ (u263006 : Value).ownBlock ∧ some k_ ≠ (u278004 : Value).ownBlock ∧ some k_ ≠ (u278006 : Value).ownBlock) u248004 x248004_2) ∧ Aside0 (Kd.R (Kd.int .i64) 2 w' w.heap.size (fun k_ => some k_ ≠ ((.slice Ao29 y229.length co29) : Value).ownBlock ∧ some k_ ≠ (u248004 : Value).ownBlock ∧ some k_ ≠ (u248006 : Value).ownBlock ∧ some k_ ≠ (u263004 : Value).ownBlock ∧ some k_ ≠ (u263005 : Value).ownBlock ∧ some k_ ≠ (u263006 : Value).ownBlock ∧ some k_ ≠ (u278004 : Value).ownBlock ∧ some k_ ≠ (u278006 : Value).ownBlock) u248005 x248005_2) ∧ Aside0 (Kd.R (Kd.int .i64) 2 w' w.heap.size (fun k_ => some k_ ≠ ((.slice Ao29 y229.length co29) : Value).ownBlock ∧ some k_ ≠ (u248004 : Value).ownBlock ∧ some k_ ≠ (u248005 : Value).ownBlock ∧ some k_ ≠ (u263004 : Value).ownBlock ∧ some k_ ≠ (u263005 : Value).ownBlock ∧ some k_ ≠ (u263006 : Value).ownBlock ∧ some k_ ≠ (u278004 : Value).ownBlock ∧ some k_ ≠ (u278006 : Value).ownBlock) u248006 x248006_2) ∧ Aside0 (Kd.R (Kd.int .i64) 2 w' w.heap.size (fun k_ => some k_ ≠ ((.slice Ao29 y229.length co29) : Value).ownBlock ∧ some k_ ≠ (u248004 : Value).ownBlock ∧ some k_ ≠ (u248005 : Value).ownBlock ∧ some k_ ≠ (u248006 : Value).ownBlock ∧ some k_ ≠ (u263005 : Value).ownBlock ∧ some k_ ≠ (u263006 : Value).ownBlock ∧ some k_ ≠ (u278004 : Value).ownBlock ∧ some k_ ≠ (u278006 : Value).ownBlock) u263004 x263004_2) ∧ Aside0 (Kd.R (Kd.int .i64) 2 w' w.heap.size (fun k_ => some k_ ≠ ((.slice Ao29 y229.length co29) : Value).ownBlock ∧ some k_ ≠ (u248004 : Value).ownBlock ∧ some k_ ≠ (u248005 : Value).ownBlock ∧ some k_ ≠ (u248006 : Value).ownBlock ∧ some k_ ≠ (u263004 : Value).ownBlock ∧ some k_ ≠ (u263006 : Value).ownBlock ∧ some k_ ≠ (u278004 : Value).ownBlock ∧ some k_ ≠ (u278006 : Value).ownBlock) u263005 x263005_2) ∧ Aside0 (Kd.R (Kd.int .i64) 2 w' w.heap.size (fun k_ => some k_ ≠ ((.slice Ao29 y229.length co29) : Value).ownBlock ∧ some k_ ≠ (u248004 : Value).ownBlock ∧ some k_ ≠ (u248005 : Value).ownBlock ∧ some k_ ≠ (u248006 : Value).ownBlock ∧ some k_ ≠ (u263004 : Value).ownBlock ∧ some k_ ≠ (u263005 : Value).ownBlock ∧ some k_ ≠ (u278004 : Value).ownBlock ∧ some k_ ≠ (u278006 : Value).ownBlock) u263006 x263006_2) ∧ Aside0 (Kd.R (Kd.int .i64) 2 w' w.heap.size (fun k_ => some k_ ≠ ((.slice Ao29 y229.length co29) : Value).ownBlock ∧ some k_ ≠ (u248004 : Value).ownBlock ∧ some k_ ≠ (u248005 : Value).ownBlock ∧ some k_ ≠ (u248006 : Value).ownBlock ∧ some k_ ≠ (u263004 : Value).ownBlock ∧ some k_ ≠ (u263005 : Value).ownBlock ∧ some k_ ≠ (u263006 : Value).ownBlock ∧ some k_ ≠ (u278006 : Value).ownBlock) u278004 x278004_2) ∧ Aside0 (Kd.V (Kd.int .i64) 2 w' w.heap.size (fun k_ => some k_ ≠ ((.slice Ao29 y229.length co29) : Value).ownBlock ∧ some k_ ≠ (u248004 : Value).ownBlock ∧ some k_ ≠ (u248005 : Value).ownBlock ∧ some k_ ≠ (u248006 : Value).ownBlock ∧ some k_ ≠ (u263004 : Value).ownBlock ∧ some k_ ≠ (u263005 : Value).ownBlock ∧ some k_ ≠ (u263006 : Value).ownBlock ∧ some k_ ≠ (u278004 : Value).ownBlock ∧ some k_ ≠ (u278006 : Value).ownBlock ∧ k_ ≠ gb222 ∧ k_ ≠ gb247 ∧ k_ ≠ gb262 ∧ k_ ≠ gb277) u278005 x278005_2) ∧ Aside0 (Kd.R (Kd.int .i64) 2 w' w.heap.size (fun k_ => some k_ ≠ ((.slice Ao29 y229.length co29) : Value).ownBlock ∧ some k_ ≠ (u248004 : Value).ownBlock ∧ some k_ ≠ (u248005 : Value).ownBlock ∧ some k_ ≠ (u248006 : Value).ownBlock ∧ some k_ ≠ (u263004 : Value).ownBlock ∧ some k_ ≠ (u263005 : Value).ownBlock ∧ some k_ ≠ (u263006 : Value).ownBlock ∧ some k_ ≠ (u278004 : Value).ownBlock) u278006 x278006_2) ∧ Aside0 (w'.heap[gb222]? = some (.cells #[.int .i64 a0_0, .int .i64 a0_1, (.slice A0_2 l0_2.length c0_2)] 34 (0, 0))) ∧ Aside0 (w'.heap[gb247]? = some (.cells #[.int .i64 t232, .int .i64 t233, .int .i64 t234, .int .i64 t235, u248004, u248005, u248006, .int .i64 t245] 39 (0, 0))) ∧ Aside0 (w'.heap[gb262]? = some (.cells #[.int .i64 t248, .int .i64 t249, .int .i64 t250, .int .i64 t251, u263004, u263005, u263006, .int .i64 t261] 39 (0, 0))) ∧ Aside0 (w'.heap[gb277]? = some (.cells #[.int .i64 t263, .int .i64 t264, .int .i64 t265, .int .i64 t266, u278004, u278005, u278006, .int .i64 t276] 39 (0, 0))) ∧ Aside0 (Below w.heap.size w w'))
     case atStart => exact ⟨(y229), (0), (t236), (t239), (t242), (t252), (t255), (t258), (t267), (t270), (t273), (.slice Ao34 t236.length co34), (.slice Ao35 t239.length co35), (.slice Ao36 t242.length co36), (.slice Ao42 t252.length co42), (.slice Ao43 t255.length co43), (.slice Ao44 t258.length co44), (.slice Ao53 t267.length co53), (.slice Ao54 t270.length co54), (.slice Ao55 t273.length co55), (by first | rfl | (simp; done) | (simp [*]; done)), H', ⟨Nat.le_refl _⟩, ⟨by (with_reducible repeat (first | apply Kd.R_alloc | apply Kd.R_drewN | apply Kd.R_drew)); exact Kd.R_mono (Kd.R_far (p := ⟨gb277, 7, none⟩) (Kd.R_far (p := ⟨gb277, 6, none⟩) (Kd.R_far (p := ⟨gb277, 5, none⟩) (Kd.R_far (p := ⟨gb277, 4, none⟩) (Kd.R_far (p := ⟨gb277, 3, none⟩) (Kd.R_far (p := ⟨gb277, 2, none⟩) (Kd.R_far (p := ⟨gb277, 1, none⟩) (Kd.R_far (p := ⟨gb277, 0, none⟩) (Kd.R_types HO231.out BK277.out (by decide)) (fun _ hk => hk.2) (.int .i64 t263)) (fun _ hk => hk.2) (.int .i64 t264)) (fun _ hk => hk.2) (.int .i64 t265)) (fun _ hk => hk.2) (.int .i64 t266)) (fun _ hk => hk.2) (.slice Ao53 t267.length co53)) (fun _ hk => hk.2) (.slice Ao54 t270.length co54)) (fun _ hk => hk.2) (.slice Ao55 t273.length co55)) (fun _ hk => hk.2) (.int .i64 t276)) (fun _ hk => ⟨hk.1.1.1.1.1.1.1.1.2, ⟨hk.1.1.1.1.1.1.1.2, ⟨hk.1.1.1.1.1.1.2, ⟨hk.1.1.1.1.1.2, ⟨hk.1.1.1.1.2, ⟨hk.1.1.1.2, ⟨hk.1.1.2, hk.1.2⟩⟩⟩⟩⟩⟩⟩)⟩, ⟨by (with_reducible repeat (first | apply Kd.R_alloc | apply Kd.R_drewN | apply Kd.R_drew)); exact Kd.R_mono (Kd.R_far (p := ⟨gb277, 7, none⟩) (Kd.R_far (p := ⟨gb277, 6, none⟩) (Kd.R_far (p := ⟨gb277, 5, none⟩) (Kd.R_far (p := ⟨gb277, 4, none⟩) (Kd.R_far (p := ⟨gb277, 3, none⟩) (Kd.R_far (p := ⟨gb277, 2, none⟩) (Kd.R_far (p := ⟨gb277, 1, none⟩) (Kd.R_far (p := ⟨gb277, 0, none⟩) (Kd.R_types HO238.out BK277.out (by decide)) (fun _ hk => hk.2) (.int .i64 t263)) (fun _ hk => hk.2) (.int .i64 t264)) (fun _ hk => hk.2) (.int .i64 t265)) (fun _ hk => hk.2) (.int .i64 t266)) (fun _ hk => hk.2) (.slice Ao53 t267.length co53)) (fun _ hk => hk.2) (.slice Ao54 t270.length co54)) (fun _ hk => hk.2) (.slice Ao55 t273.length co55)) (fun _ hk => hk.2) (.int .i64 t276)) (fun _ hk => ⟨hk.1.1.1.1.1.1.2, ⟨hk.1.1.1.1.1.1.1.1, ⟨hk.1.1.1.1.1.1.1.2, ⟨hk.1.1.1.1.1.2, ⟨hk.1.1.1.1.2, ⟨hk.1.1.1.2, ⟨hk.1.1.2, hk.1.2⟩⟩⟩⟩⟩⟩⟩)⟩, ⟨by (with_reducible repeat (first | apply Kd.R_alloc | apply Kd.R_drewN | apply Kd.R_drew)); exact Kd.R_mono (Kd.R_far (p := ⟨gb277, 7, none⟩) (Kd.R_far (p := ⟨gb277, 6, none⟩) (Kd.R_far (p := ⟨gb277, 5, none⟩) (Kd.R_far (p := ⟨gb277, 4, none⟩) (Kd.R_far (p := ⟨gb277, 3, none⟩) (Kd.R_far (p := ⟨gb277, 2, none⟩) (Kd.R_far (p := ⟨gb277, 1, none⟩) (Kd.R_far (p := ⟨gb277, 0, none⟩) (Kd.R_types HO241.out BK277.out (by decide)) (fun _ hk => hk.2) (.int .i64 t263)) (fun _ hk => hk.2) (.int .i64 t264)) (fun _ hk => hk.2) (.int .i64 t265)) (fun _ hk => hk.2) (.int .i64 t266)) (fun _ hk => hk.2) (.slice Ao53 t267.length co53)) (fun _ hk => hk.2) (.slice Ao54 t270.length co54)) (fun _ hk => hk.2) (.slice Ao55 t273.length co55)) (fun _ hk => hk.2) (.int .i64 t276)) (fun _ hk => ⟨hk.1.1.1.1.1.1.2, ⟨hk.1.1.1.1.1.1.1.1, ⟨hk.1.1.1.1.1.1.1.2, ⟨hk.1.1.1.1.1.2, ⟨hk.1.1.1.1.2, ⟨hk.1.1.1.2, ⟨hk.1.1.2, hk.1.2⟩⟩⟩⟩⟩⟩⟩)⟩, ⟨by (with_reducible repeat (first | apply Kd.R_alloc | apply Kd.R_drewN | apply Kd.R_drew)); exact Kd.R_mono (Kd.R_far (p := ⟨gb277, 7, none⟩) (Kd.R_far (p := ⟨gb277, 6, none⟩) (Kd.R_far (p := ⟨gb277, 5, none⟩) (Kd.R_far (p := ⟨gb277, 4, none⟩) (Kd.R_far (p := ⟨gb277, 3, none⟩) (Kd.R_far (p := ⟨gb277, 2, none⟩) (Kd.R_far (p := ⟨gb277, 1, none⟩) (Kd.R_far (p := ⟨gb277, 0, none⟩) (Kd.R_types HO244.out BK277.out (by decide)) (fun _ hk => hk.2) (.int .i64 t263)) (fun _ hk => hk.2) (.int .i64 t264)) (fun _ hk => hk.2) (.int .i64 t265)) (fun _ hk => hk.2) (.int .i64 t266)) (fun _ hk => hk.2) (.slice Ao53 t267.length co53)) (fun _ hk => hk.2) (.slice Ao54 t270.length co54)) (fun _ hk => hk.2) (.slice Ao55 t273.length co55)) (fun _ hk => hk.2) (.int .i64 t276)) (fun _ hk => ⟨hk.1.1.1.1.1.1.2, ⟨hk.1.1.1.1.1.1.1.1, ⟨hk.1.1.1.1.1.1.1.2, ⟨hk.1.1.1.1.1.2, ⟨hk.1.1.1.1.2, ⟨hk.1.1.1.2, ⟨hk.1.1.2, hk.1.2⟩⟩⟩⟩⟩⟩⟩)⟩, ⟨by (with_reducible repeat (first | apply Kd.R_alloc | apply Kd.R_drewN | apply Kd.R_drew)); exact Kd.R_mono (Kd.R_far (p := ⟨gb277, 7, none⟩) (Kd.R_far (p := ⟨gb277, 6, none⟩) (Kd.R_far (p := ⟨gb277, 5, none⟩) (Kd.R_far (p := ⟨gb277, 4, none⟩) (Kd.R_far (p := ⟨gb277, 3, none⟩) (Kd.R_far (p := ⟨gb277, 2, none⟩) (Kd.R_far (p := ⟨gb277, 1, none⟩) (Kd.R_far (p := ⟨gb277, 0, none⟩) (Kd.R_types HO254.out BK277.out (by decide)) (fun _ hk => hk.2) (.int .i64 t263)) (fun _ hk => hk.2) (.int .i64 t264)) (fun _ hk => hk.2) (.int .i64 t265)) (fun _ hk => hk.2) (.int .i64 t266)) (fun _ hk => hk.2) (.slice Ao53 t267.length co53)) (fun _ hk => hk.2) (.slice Ao54 t270.length co54)) (fun _ hk => hk.2) (.slice Ao55 t273.length co55)) (fun _ hk => hk.2) (.int .i64 t276)) (fun _ hk => ⟨hk.1.1.1.1.1.1.2, ⟨hk.1.1.1.1.1.2, ⟨hk.1.1.1.1.2, ⟨hk.1.1.1.2, ⟨hk.1.1.1.1.1.1.1.1, ⟨hk.1.1.1.1.1.1.1.2, ⟨hk.1.1.2, hk.1.2⟩⟩⟩⟩⟩⟩⟩)⟩, ⟨by (with_reducible repeat (first | apply Kd.R_alloc | apply Kd.R_drewN | apply Kd.R_drew)); exact Kd.R_mono (Kd.R_far (p := ⟨gb277, 7, none⟩) (Kd.R_far (p := ⟨gb277, 6, none⟩) (Kd.R_far (p := ⟨gb277, 5, none⟩) (Kd.R_far (p := ⟨gb277, 4, none⟩) (Kd.R_far (p := ⟨gb277, 3, none⟩) (Kd.R_far (p := ⟨gb277, 2, none⟩) (Kd.R_far (p := ⟨gb277, 1, none⟩) (Kd.R_far (p := ⟨gb277, 0, none⟩) (Kd.R_types HO257.out BK277.out (by decide)) (fun _ hk => hk.2) (.int .i64 t263)) (fun _ hk => hk.2) (.int .i64 t264)) (fun _ hk => hk.2) (.int .i64 t265)) (fun _ hk => hk.2) (.int .i64 t266)) (fun _ hk => hk.2) (.slice Ao53 t267.length co53)) (fun _ hk => hk.2) (.slice Ao54 t270.length co54)) (fun _ hk => hk.2) (.slice Ao55 t273.length co55)) (fun _ hk => hk.2) (.int .i64 t276)) (fun _ hk => ⟨hk.1.1.1.1.1.1.2, ⟨hk.1.1.1.1.1.2, ⟨hk.1.1.1.1.2, ⟨hk.1.1.1.2, ⟨hk.1.1.1.1.1.1.1.1, ⟨hk.1.1.1.1.1.1.1.2, ⟨hk.1.1.2, hk.1.2⟩⟩⟩⟩⟩⟩⟩)⟩, ⟨by (with_reducible repeat (first | apply Kd.R_alloc | apply Kd.R_drewN | apply Kd.R_drew)); exact Kd.R_mono (Kd.R_far (p := ⟨gb277, 7, none⟩) (Kd.R_far (p := ⟨gb277, 6, none⟩) (Kd.R_far (p := ⟨gb277, 5, none⟩) (Kd.R_far (p := ⟨gb277, 4, none⟩) (Kd.R_far (p := ⟨gb277, 3, none⟩) (Kd.R_far (p := ⟨gb277, 2, none⟩) (Kd.R_far (p := ⟨gb277, 1, none⟩) (Kd.R_far (p := ⟨gb277, 0, none⟩) (Kd.R_types HO260.out BK277.out (by decide)) (fun _ hk => hk.2) (.int .i64 t263)) (fun _ hk => hk.2) (.int .i64 t264)) (fun _ hk => hk.2) (.int .i64 t265)) (fun _ hk => hk.2) (.int .i64 t266)) (fun _ hk => hk.2) (.slice Ao53 t267.length co53)) (fun _ hk => hk.2) (.slice Ao54 t270.length co54)) (fun _ hk => hk.2) (.slice Ao55 t273.length co55)) (fun _ hk => hk.2) (.int .i64 t276)) (fun _ hk => ⟨hk.1.1.1.1.1.1.2, ⟨hk.1.1.1.1.1.2, ⟨hk.1.1.1.1.2, ⟨hk.1.1.1.2, ⟨hk.1.1.1.1.1.1.1.1, ⟨hk.1.1.1.1.1.1.1.2, ⟨hk.1.1.2, hk.1.2⟩⟩⟩⟩⟩⟩⟩)⟩, ⟨by (with_reducible repeat (first | apply Kd.R_alloc | apply Kd.R_drewN | apply Kd.R_drew)); exact Kd.R_mono (Kd.R_far (p := ⟨gb277, 7, none⟩) (Kd.R_far (p := ⟨gb277, 6, none⟩) (Kd.R_far (p := ⟨gb277, 5, none⟩) (Kd.R_far (p := ⟨gb277, 4, none⟩) (Kd.R_far (p := ⟨gb277, 3, none⟩) (Kd.R_far (p := ⟨gb277, 2, none⟩) (Kd.R_far (p := ⟨gb277, 1, none⟩) (Kd.R_far (p := ⟨gb277, 0, none⟩) (Kd.R_types HO269.out BK277.out (by decide)) (fun _ hk => hk.2) (.int .i64 t263)) (fun _ hk => hk.2) (.int .i64 t264)) (fun _ hk => hk.2) (.int .i64 t265)) (fun _ hk => hk.2) (.int .i64 t266)) (fun _ hk => hk.2) (.slice Ao53 t267.length co53)) (fun _ hk => hk.2) (.slice Ao54 t270.length co54)) (fun _ hk => hk.2) (.slice Ao55 t273.length co55)) (fun _ hk => hk.2) (.int .i64 t276)) (fun _ hk => ⟨hk.1.1.1.1.1.1.1.2, ⟨hk.1.1.1.1.1.1.2, ⟨hk.1.1.1.1.1.2, ⟨hk.1.1.1.1.2, ⟨hk.1.1.1.2, ⟨hk.1.1.2, ⟨hk.1.2, hk.1.1.1.1.1.1.1.1⟩⟩⟩⟩⟩⟩⟩)⟩, ⟨by (with_reducible repeat (first | apply Kd.V_alloc | apply Kd.V_drewN | apply Kd.V_drew)); exact Kd.V_mono (Kd.V_far (p := ⟨gb277, 7, none⟩) (Kd.V_far (p := ⟨gb277, 6, none⟩) (Kd.V_far (p := ⟨gb277, 5, none⟩) (Kd.V_far (p := ⟨gb277, 4, none⟩) (Kd.V_far (p := ⟨gb277, 3, none⟩) (Kd.V_far (p := ⟨gb277, 2, none⟩) (Kd.V_far (p := ⟨gb277, 1, none⟩) (Kd.V_far (p := ⟨gb277, 0, none⟩) (Kd.V_mono HO272.out (fun k_ hk => (⟨hk, hk.2⟩ : _ ∧ k_ ≠ gb277))) (fun _ hk => hk.2) (.int .i64 t263)) (fun _ hk => hk.2) (.int .i64 t264)) (fun _ hk => hk.2) (.int .i64 t265)) (fun _ hk => hk.2) (.int .i64 t266)) (fun _ hk => hk.2) (.slice Ao53 t267.length co53)) (fun _ hk => hk.2) (.slice Ao54 t270.length co54)) (fun _ hk => hk.2) (.slice Ao55 t273.length co55)) (fun _ hk => hk.2) (.int .i64 t276)) (fun _ hk => ⟨hk.1.1.2.2.1, ⟨hk.1.1.2.2.2.1, ⟨hk.1.1.2.2.2.2.1, ⟨hk.1.1.2.2.2.2.2.1, ⟨hk.1.1.2.2.2.2.2.2.1, ⟨hk.1.1.2.2.2.2.2.2.2.1, ⟨hk.1.1.2.2.2.2.2.2.2.2.1, ⟨hk.1.1.1, ⟨hk.1.1.2.1, ⟨hk.1.1.2.2.2.2.2.2.2.2.2.1, ⟨hk.1.1.2.2.2.2.2.2.2.2.2.2.1, ⟨hk.1.1.2.2.2.2.2.2.2.2.2.2.2, hk.1.2⟩⟩⟩⟩⟩⟩⟩⟩⟩⟩⟩⟩)⟩, ⟨by (with_reducible repeat (first | apply Kd.R_alloc | apply Kd.R_drewN | apply Kd.R_drew)); exact Kd.R_mono (Kd.R_far (p := ⟨gb277, 7, none⟩) (Kd.R_far (p := ⟨gb277, 6, none⟩) (Kd.R_far (p := ⟨gb277, 5, none⟩) (Kd.R_far (p := ⟨gb277, 4, none⟩) (Kd.R_far (p := ⟨gb277, 3, none⟩) (Kd.R_far (p := ⟨gb277, 2, none⟩) (Kd.R_far (p := ⟨gb277, 1, none⟩) (Kd.R_far (p := ⟨gb277, 0, none⟩) (Kd.R_types HO275.out BK277.out (by decide)) (fun _ hk => hk.2) (.int .i64 t263)) (fun _ hk => hk.2) (.int .i64 t264)) (fun _ hk => hk.2) (.int .i64 t265)) (fun _ hk => hk.2) (.int .i64 t266)) (fun _ hk => hk.2) (.slice Ao53 t267.length co53)) (fun _ hk => hk.2) (.slice Ao54 t270.length co54)) (fun _ hk => hk.2) (.slice Ao55 t273.length co55)) (fun _ hk => hk.2) (.int .i64 t276)) (fun _ hk => ⟨hk.1.1.1.1.1.1.1.2, ⟨hk.1.1.1.1.1.1.2, ⟨hk.1.1.1.1.1.2, ⟨hk.1.1.1.1.2, ⟨hk.1.1.1.2, ⟨hk.1.1.2, ⟨hk.1.2, hk.1.1.1.1.1.1.1.1⟩⟩⟩⟩⟩⟩⟩)⟩, ⟨by (with_reducible repeat (first | refine blk_drewN ?_ _ | refine blk_drew ?_ | refine blk_alloc ?_ _)); refine blk_far ?_ NB222_277.out _; (with_reducible repeat (first | refine blk_drewN ?_ _ | refine blk_drew ?_ | refine blk_alloc ?_ _)); refine blk_far ?_ NB222_277.out _; (with_reducible repeat (first | refine blk_drewN ?_ _ | refine blk_drew ?_ | refine blk_alloc ?_ _)); refine blk_far ?_ NB222_277.out _; (with_reducible repeat (first | refine blk_drewN ?_ _ | refine blk_drew ?_ | refine blk_alloc ?_ _)); refine blk_far ?_ NB222_277.out _; (with_reducible repeat (first | refine blk_drewN ?_ _ | refine blk_drew ?_ | refine blk_alloc ?_ _)); refine blk_far ?_ NB222_277.out _; (with_reducible repeat (first | refine blk_drewN ?_ _ | refine blk_drew ?_ | refine blk_alloc ?_ _)); refine blk_far ?_ NB222_277.out _; (with_reducible repeat (first | refine blk_drewN ?_ _ | refine blk_drew ?_ | refine blk_alloc ?_ _)); refine blk_far ?_ NB222_277.out _; (with_reducible repeat (first | refine blk_drewN ?_ _ | refine blk_drew ?_ | refine blk_alloc ?_ _)); refine blk_far ?_ NB222_277.out _; (with_reducible repeat (first | refine blk_drewN ?_ _ | refine blk_drew ?_ | refine blk_alloc ?_ _)); exact BK222.out⟩, ⟨by (with_reducible repeat (first | refine blk_drewN ?_ _ | refine blk_drew ?_ | refine blk_alloc ?_ _)); refine blk_far ?_ NB247_277.out _; (with_reducible repeat (first | refine blk_drewN ?_ _ | refine blk_drew ?_ | refine blk_alloc ?_ _)); refine blk_far ?_ NB247_277.out _; (with_reducible repeat (first | refine blk_drewN ?_ _ | refine blk_drew ?_ | refine blk_alloc ?_ _)); refine blk_far ?_ NB247_277.out _; (with_reducible repeat (first | refine blk_drewN ?_ _ | refine blk_drew ?_ | refine blk_alloc ?_ _)); refine blk_far ?_ NB247_277.out _; (with_reducible repeat (first | refine blk_drewN ?_ _ | refine blk_drew ?_ | refine blk_alloc ?_ _)); refine blk_far ?_ NB247_277.out _; (with_reducible repeat (first | refine blk_drewN ?_ _ | refine blk_drew ?_ | refine blk_alloc ?_ _)); refine blk_far ?_ NB247_277.out _; (with_reducible repeat (first | refine blk_drewN ?_ _ | refine blk_drew ?_ | refine blk_alloc ?_ _)); refine blk_far ?_ NB247_277.out _; (with_reducible repeat (first | refine blk_drewN ?_ _ | refine blk_drew ?_ | refine blk_alloc ?_ _)); refine blk_far ?_ NB247_277.out _; (with_reducible repeat (first | refine blk_drewN ?_ _ | refine blk_drew ?_ | refine blk_alloc ?_ _)); exact BK247.out⟩, ⟨by (with_reducible repeat (first | refine blk_drewN ?_ _ | refine blk_drew ?_ | refine blk_alloc ?_ _)); refine blk_far ?_ NB262_277.out _; (with_reducible repeat (first | refine blk_drewN ?_ _ | refine blk_drew ?_ | refine blk_alloc ?_ _)); refine blk_far ?_ NB262_277.out _; (with_reducible repeat (first | refine blk_drewN ?_ _ | refine blk_drew ?_ | refine blk_alloc ?_ _)); refine blk_far ?_ NB262_277.out _; (with_reducible repeat (first | refine blk_drewN ?_ _ | refine blk_drew ?_ | refine blk_alloc ?_ _)); refine blk_far ?_ NB262_277.out _; (with_reducible repeat (first | refine blk_drewN ?_ _ | refine blk_drew ?_ | refine blk_alloc ?_ _)); refine blk_far ?_ NB262_277.out _; (with_reducible repeat (first | refine blk_drewN ?_ _ | refine blk_drew ?_ | refine blk_alloc ?_ _)); refine blk_far ?_ NB262_277.out _; (with_reducible repeat (first | refine blk_drewN ?_ _ | refine blk_drew ?_ | refine blk_alloc ?_ _)); refine blk_far ?_ NB262_277.out _; (with_reducible repeat (first | refine blk_drewN ?_ _ | refine blk_drew ?_ | refine blk_alloc ?_ _)); refine blk_far ?_ NB262_277.out _; (with_reducible repeat (first | refine blk_drewN ?_ _ | refine blk_drew ?_ | refine blk_alloc ?_ _)); exact BK262.out⟩, ⟨by (with_reducible repeat (first | refine blk_drewN ?_ _ | refine blk_drew ?_ | refine blk_alloc ?_ _)); refine blk_put (cs := #[.int .i64 t263, .int .i64 t264, .int .i64 t265, .int .i64 t266, .slice Ao53 t267.length co53, .slice Ao54 t270.length co54, .slice Ao55 t273.length co55, .int .i64 0]) ?_ 7 _ rfl; (with_reducible repeat (first | refine blk_drewN ?_ _ | refine blk_drew ?_ | refine blk_alloc ?_ _)); refine blk_put (cs := #[.int .i64 t263, .int .i64 t264, .int .i64 t265, .int .i64 t266, .slice Ao53 t267.length co53, .slice Ao54 t270.length co54, .slice none 0 0, .int .i64 0]) ?_ 6 _ rfl; (with_reducible repeat (first | refine blk_drewN ?_ _ | refine blk_drew ?_ | refine blk_alloc ?_ _)); refine blk_put (cs := #[.int .i64 t263, .int .i64 t264, .int .i64 t265, .int .i64 t266, .slice Ao53 t267.length co53, .slice none 0 0, .slice none 0 0, .int .i64 0]) ?_ 5 _ rfl; (with_reducible repeat (first | refine blk_drewN ?_ _ | refine blk_drew ?_ | refine blk_alloc ?_ _)); refine blk_put (cs := #[.int .i64 t263, .int .i64 t264, .int .i64 t265, .int .i64 t266, .slice none 0 0, .slice none 0 0, .slice none 0 0, .int .i64 0]) ?_ 4 _ rfl; (with_reducible repeat (first | refine blk_drewN ?_ _ | refine blk_drew ?_ | refine blk_alloc ?_ _)); refine blk_put (cs := #[.int .i64 t263, .int .i64 t264, .int .i64 t265, .int .i64 0, .slice none 0 0, .slice none 0 0, .slice none 0 0, .int .i64 0]) ?_ 3 _ rfl; (with_reducible repeat (first | refine blk_drewN ?_ _ | refine blk_drew ?_ | refine blk_alloc ?_ _)); refine blk_put (cs := #[.int .i64 t263, .int .i64 t264, .int .i64 0, .int .i64 0, .slice none 0 0, .slice none 0 0, .slice none 0 0, .int .i64 0]) ?_ 2 _ rfl; (with_reducible repeat (first | refine blk_drewN ?_ _ | refine blk_drew ?_ | refine blk_alloc ?_ _)); refine blk_put (cs := #[.int .i64 t263, .int .i64 0, .int .i64 0, .int .i64 0, .slice none 0 0, .slice none 0 0, .slice none 0 0, .int .i64 0]) ?_ 1 _ rfl; (with_reducible repeat (first | refine blk_drewN ?_ _ | refine blk_drew ?_ | refine blk_alloc ?_ _)); refine blk_put (cs := #[.int .i64 0, .int .i64 0, .int .i64 0, .int .i64 0, .slice none 0 0, .slice none 0 0, .slice none 0 0, .int .i64 0]) ?_ 0 _ rfl; (with_reducible repeat (first | refine blk_drewN ?_ _ | refine blk_drew ?_ | refine blk_alloc ?_ _)); exact BK277.out⟩, ⟨by repeat (first | (with_reducible first | exact HB.out | apply below_alloc | apply bdN | apply bd1 | refine below_set ?_ GE222.out | refine below_set ?_ GE247.out | refine below_set ?_ GE262.out | refine below_set ?_ GE277.out) | exact HB.out)⟩⟩
     case round =>
      clear H'
      try clear c1
      try clear c2
      try clear p2
      try clear c3
      try clear c4
      try clear c5
      try clear p6
      try clear c7
      try clear c9
      try clear c10
      try clear c18
      try clear c21
      try clear c29
      try clear c31
      try clear c32
      try clear c38
      try clear c39
      try clear c40
      try clear c49
      try clear c50
      try clear c51
      try clear hcz11_0
      try clear hcz11_1
      try clear hcz11_2
      try clear hcz13_0
      try clear hcz13_1
      try clear hcz13_2
      try clear hcz15_0
      try clear hcz15_1
      try clear hcz15_2
      try clear hcz28_0
      try clear hcz28_1
      try clear hcz28_2
      try clear hcz33_0
      try clear hcz33_1
      try clear hcz33_2
      try clear hcz33_3
      try clear hcz33_4
      try clear hcz33_5
      try clear hcz33_6
      try clear hcz33_7
      try clear hcz41_0
      try clear hcz41_1
      try clear hcz41_2
      try clear hcz41_3
      try clear hcz41_4
      try clear hcz41_5
      try clear hcz41_6
      try clear hcz41_7
      try clear hcz45_0
      try clear hcz45_1
      try clear hcz45_2
      try clear hcz46_0
      try clear hcz46_1
      try clear hcz46_2
      try clear hcz46_3
      try clear hcz46_4
      try clear hcz46_5
      try clear hcz46_6
      try clear hcz46_7
      try clear hcz52_0
      try clear hcz52_1
      try clear hcz52_2
      try clear hcz52_3
      try clear hcz52_4
      try clear hcz52_5
      try clear hcz52_6
      try clear hcz52_7
      try clear hfz11_0
      try clear hfz11_1
      try clear hfz11_2
      try clear hfz13_0
      try clear hfz13_1
      try clear hfz13_2
      try clear hfz15_0
      try clear hfz15_1
      try clear hfz15_2
      try clear hfz28_0
      try clear hfz28_1
      try clear hfz28_2
      try clear hfz33_0
      try clear hfz33_1
      try clear hfz33_2
      try clear hfz33_3
      try clear hfz33_4
      try clear hfz33_5
      try clear hfz33_6
      try clear hfz33_7
      try clear hfz41_0
      try clear hfz41_1
      try clear hfz41_2
      try clear hfz41_3
      try clear hfz41_4
      try clear hfz41_5
      try clear hfz41_6
      try clear hfz41_7
      try clear hfz45_0
      try clear hfz45_1
      try clear hfz45_2
      try clear hfz46_0
      try clear hfz46_1
      try clear hfz46_2
      try clear hfz46_3
      try clear hfz46_4
      try clear hfz46_5
      try clear hfz46_6
      try clear hfz46_7
      try clear hfz52_0
      try clear hfz52_1
      try clear hfz52_2
      try clear hfz52_3
      try clear hfz52_4
      try clear hfz52_5
      try clear hfz52_6
      try clear hfz52_7
      try clear p2
      obtain ⟨x7_2, x12_2, x248004_2, x248005_2, x248006_2, x263004_2, x263005_2, x263006_2, x278004_2, x278005_2, x278006_2, u248004, u248005, u248006, u263004, u263005, u263006, u278004, u278005, u278006, rfl, HA, HK2, HO_7, HO_248004, HO_248005, HO_248006, HO_263004, HO_263005, HO_263006, HO_278004, HO_278005, HO_278006, BK222, BK247, BK262, BK277, HB⟩ := hrel
      have hl7_2 := (Kd.R_reads' HO_7.out).1
      rw [hl7_2] at HO_7
      (try simp only [hl7_2])
      (try simp only [hl7_2] at BK222)
      (try simp only [hl7_2] at BK247)
      (try simp only [hl7_2] at BK262)
      (try simp only [hl7_2] at BK277)
      (try simp only [hl7_2] at HO_248004)
      (try simp only [hl7_2] at HO_248005)
      (try simp only [hl7_2] at HO_248006)
      (try simp only [hl7_2] at HO_263004)
      (try simp only [hl7_2] at HO_263005)
      (try simp only [hl7_2] at HO_263006)
      (try simp only [hl7_2] at HO_278004)
      (try simp only [hl7_2] at HO_278005)
      (try simp only [hl7_2] at HO_278006)
      cases gk with
      | zero => exact absurd HA.out (by simp [regcertlaw09_InterpKeeps.l0])
      | succ k2 =>
       have H := HA.out
       clear HA
       simp only [regcertlaw09_InterpKeeps.l0] at H
       by_cases c56 : x12_2 < (x278004_2.length : Int)
       ·rw [if_pos c56] at H
        have c56b0 : decide (x12_2 < (x278004_2.length : Int)) = true := decide_eq_true c56
        clear c56
        by_cases c57 : 0 ≤ x12_2
        ·rw [if_pos c57] at H
         have c57b0 : decide (0 ≤ x12_2) = true := decide_eq_true c57
         clear c57
         obtain ⟨y279, hy279⟩ : ∃ y_ : List Int, y_ = (x278004_2.set (x12_2 : Int).toNat (wrap64 ((rd x278004_2 x12_2) + 1))) := ⟨_, rfl⟩
         replace H : (regcertlaw09_InterpKeeps.l0 k2 l1 x7_2 (wrap64 (x12_2 + 1)) t232 t233 t234 t235 x248004_2 x248005_2 x248006_2 t245 t248 t249 t250 t251 x263004_2 x263005_2 x263006_2 t261 t263 t264 t265 t266 y279 x278005_2 x278006_2 t276) = some r := by first | (rw [hy279]; with_reducible exact H) | (have H2_ := (Option.bind_some _ _).symm.trans H; rw [hy279]; with_reducible exact H2_) | (have H2_ := (Option.bind_some _ _).symm.trans H; with_reducible exact H2_) | with_reducible exact H | (rw [hy279]; exact H) | exact H
         have Ny279 := As0 hy279
         clear hy279
         have H' := As0 H
         clear H
         have hnb59 := NB277_222.out
         have hnc59 := NB222_277.out
         have hnb60 := NB277_247.out
         have hnc60 := NB247_277.out
         have hnb61 := NB277_262.out
         have hnc61 := NB262_277.out
         have hcz62_0 : wr.cell? ⟨gb277, 0, none⟩ = some (.int .i64 t263) := (blk_cell BK277.out 0).trans rfl
         have hcz62_1 : wr.cell? ⟨gb277, 1, none⟩ = some (.int .i64 t264) := (blk_cell BK277.out 1).trans rfl
         have hcz62_2 : wr.cell? ⟨gb277, 2, none⟩ = some (.int .i64 t265) := (blk_cell BK277.out 2).trans rfl
         have hcz62_3 : wr.cell? ⟨gb277, 3, none⟩ = some (.int .i64 t266) := (blk_cell BK277.out 3).trans rfl
         have hcz62_4 : wr.cell? ⟨gb277, 4, none⟩ = some (u278004) := (blk_cell BK277.out 4).trans rfl
         have hcz62_5 : wr.cell? ⟨gb277, 5, none⟩ = some (u278005) := (blk_cell BK277.out 5).trans rfl
         have hcz62_6 : wr.cell? ⟨gb277, 6, none⟩ = some (u278006) := (blk_cell BK277.out 6).trans rfl
         have hcz62_7 : wr.cell? ⟨gb277, 7, none⟩ = some (.int .i64 t276) := (blk_cell BK277.out 7).trans rfl
         have hfz62_0 := blk_frozen BK277.out 0
         have hfz62_1 := blk_frozen BK277.out 1
         have hfz62_2 := blk_frozen BK277.out 2
         have hfz62_3 := blk_frozen BK277.out 3
         have hfz62_4 := blk_frozen BK277.out 4
         have hfz62_5 := blk_frozen BK277.out 5
         have hfz62_6 := blk_frozen BK277.out 6
         have hfz62_7 := blk_frozen BK277.out 7
         obtain ⟨Ao63, co63, eo63⟩ := Kd.R_slice HO_278004.out
         subst eo63
         have p278 : 0 ≤ (x12_2 : Int) := of_decide_eq_true (by first | (with_reducible assumption) | assumption)
         have q278 : x12_2 < (x278004_2.length : Int) := of_decide_eq_true (by first | (with_reducible assumption) | assumption)
         obtain ⟨ad278, e278, hx278_0⟩ := Kd.at_int (Kd.R_reads' HO_278004.out).2.2 x12_2 p278 q278
         cases e278
         replace p278 := eq_true p278
         replace q278 := eq_true q278
         have p58 : 0 ≤ (x12_2 : Int) := of_decide_eq_true (by first | (with_reducible assumption) | assumption)
         have q58 : (x12_2 : Int) < ((x278004_2.length : Int) : Int) := of_decide_eq_true (by first | (with_reducible assumption) | assumption)
         obtain ⟨go58, co58, eo58, gb58, gl58, cl58, HG58⟩ := Kd.R_form HO_278004.out (by omega)
         (first | cases eo58 | (injection eo58 with ea_ en_ ec_; (first | subst ea_ | (injection ea_ with ea_; subst ea_)); subst ec_; clear en_))
         have GB58 := As0 gb58
         have GG58 := As0 HG58
         clear gb58 gl58 HG58
         (first | simp only [add_plain] at hx278_0 | skip)
         obtain ⟨hx58_0, hf58_0⟩ := Kd.R_celln 0 HO_278004.out (x12_2 : Int) p58 q58
         replace p58 := eq_true p58
         replace q58 := eq_true q58
         have HP64 := Kd.R_putg HO_278004.out (x12_2 : Int) (wrap64 ((rd x278004_2 x12_2) + 1))
         go_wp2_with (first | ((with_reducible refine gate_store (t := 2) (p := 62) rfl ?_); refine store_event (t := 2) (p := 62) (v := ?vo_w65) (w1 := (wr.setCell ⟨go58, (x12_2 : Int).toNat, none⟩ (.int .i64 (wrap64 ((rd x278004_2 x12_2) + 1))))) ?hg ?ho ?hn ?hr ?_; (case ho => rfl); (case hg => rfl); (case hn => rfl); (case hr => first | (go_simp; done) | (go_simp; rfl)); intro w65 hw; have hg : wr.grownBy w65 (some go58) := (by rw [hw]; exact HP64.2); have hp_ : Kd.R (Kd.int .i64) 2 w65 w.heap.size (fun k_ => some k_ ≠ (.slice Ao29 x7_2.length co29 : Value).ownBlock ∧ some k_ ≠ (u248004 : Value).ownBlock ∧ some k_ ≠ (u248005 : Value).ownBlock ∧ some k_ ≠ (u248006 : Value).ownBlock ∧ some k_ ≠ (u263004 : Value).ownBlock ∧ some k_ ≠ (u263005 : Value).ownBlock ∧ some k_ ≠ (u263006 : Value).ownBlock ∧ some k_ ≠ (u278006 : Value).ownBlock) (.slice (some ⟨go58, 0, none⟩) x278004_2.length co63) y279 := (by rw [hw, Ny279.out]; exact HP64.1); clear HP64; have n0_ := As0 (Kd.R_after (v := (.slice (some ⟨go58, 0, none⟩) x278004_2.length co63)) (v1 := (.slice (some ⟨go58, 0, none⟩) x278004_2.length co63)) (ok := (fun k_ => some k_ ≠ (u248004 : Value).ownBlock ∧ some k_ ≠ (u248005 : Value).ownBlock ∧ some k_ ≠ (u248006 : Value).ownBlock ∧ some k_ ≠ (u263004 : Value).ownBlock ∧ some k_ ≠ (u263005 : Value).ownBlock ∧ some k_ ≠ (u263006 : Value).ownBlock ∧ some k_ ≠ (u278006 : Value).ownBlock)) (by (with_reducible repeat (first | apply Kd.R_alloc | apply Kd.R_drewN | apply Kd.R_drew)); exact Kd.R_mono HO_7.out (fun _ hk => ⟨⟨hk.1, ⟨hk.2.1, ⟨hk.2.2.1, ⟨hk.2.2.2.1, ⟨hk.2.2.2.2.1, ⟨hk.2.2.2.2.2.1, hk.2.2.2.2.2.2.2⟩⟩⟩⟩⟩⟩, hk.2.2.2.2.2.2.1⟩)) hg (.inl rfl)); have n1_ := As0 (Kd.R_after (v := (.slice (some ⟨go58, 0, none⟩) x278004_2.length co63)) (v1 := (.slice (some ⟨go58, 0, none⟩) x278004_2.length co63)) (ok := (fun k_ => some k_ ≠ (.slice Ao29 x7_2.length co29 : Value).ownBlock ∧ some k_ ≠ (u248005 : Value).ownBlock ∧ some k_ ≠ (u248006 : Value).ownBlock ∧ some k_ ≠ (u263004 : Value).ownBlock ∧ some k_ ≠ (u263005 : Value).ownBlock ∧ some k_ ≠ (u263006 : Value).ownBlock ∧ some k_ ≠ (u278006 : Value).ownBlock)) (by (with_reducible repeat (first | apply Kd.R_alloc | apply Kd.R_drewN | apply Kd.R_drew)); exact Kd.R_mono HO_248004.out (fun _ hk => ⟨⟨hk.1, ⟨hk.2.1, ⟨hk.2.2.1, ⟨hk.2.2.2.1, ⟨hk.2.2.2.2.1, ⟨hk.2.2.2.2.2.1, hk.2.2.2.2.2.2.2⟩⟩⟩⟩⟩⟩, hk.2.2.2.2.2.2.1⟩)) hg (.inl rfl)); have n2_ := As0 (Kd.R_after (v := (.slice (some ⟨go58, 0, none⟩) x278004_2.length co63)) (v1 := (.slice (some ⟨go58, 0, none⟩) x278004_2.length co63)) (ok := (fun k_ => some k_ ≠ (.slice Ao29 x7_2.length co29 : Value).ownBlock ∧ some k_ ≠ (u248004 : Value).ownBlock ∧ some k_ ≠ (u248006 : Value).ownBlock ∧ some k_ ≠ (u263004 : Value).ownBlock ∧ some k_ ≠ (u263005 : Value).ownBlock ∧ some k_ ≠ (u263006 : Value).ownBlock ∧ some k_ ≠ (u278006 : Value).ownBlock)) (by (with_reducible repeat (first | apply Kd.R_alloc | apply Kd.R_drewN | apply Kd.R_drew)); exact Kd.R_mono HO_248005.out (fun _ hk => ⟨⟨hk.1, ⟨hk.2.1, ⟨hk.2.2.1, ⟨hk.2.2.2.1, ⟨hk.2.2.2.2.1, ⟨hk.2.2.2.2.2.1, hk.2.2.2.2.2.2.2⟩⟩⟩⟩⟩⟩, hk.2.2.2.2.2.2.1⟩)) hg (.inl rfl)); have n3_ := As0 (Kd.R_after (v := (.slice (some ⟨go58, 0, none⟩) x278004_2.length co63)) (v1 := (.slice (some ⟨go58, 0, none⟩) x278004_2.length co63)) (ok := (fun k_ => some k_ ≠ (.slice Ao29 x7_2.length co29 : Value).ownBlock ∧ some k_ ≠ (u248004 : Value).ownBlock ∧ some k_ ≠ (u248005 : Value).ownBlock ∧ some k_ ≠ (u263004 : Value).ownBlock ∧ some k_ ≠ (u263005 : Value).ownBlock ∧ some k_ ≠ (u263006 : Value).ownBlock ∧ some k_ ≠ (u278006 : Value).ownBlock)) (by (with_reducible repeat (first | apply Kd.R_alloc | apply Kd.R_drewN | apply Kd.R_drew)); exact Kd.R_mono HO_248006.out (fun _ hk => ⟨⟨hk.1, ⟨hk.2.1, ⟨hk.2.2.1, ⟨hk.2.2.2.1, ⟨hk.2.2.2.2.1, ⟨hk.2.2.2.2.2.1, hk.2.2.2.2.2.2.2⟩⟩⟩⟩⟩⟩, hk.2.2.2.2.2.2.1⟩)) hg (.inl rfl)); have n4_ := As0 (Kd.R_after (v := (.slice (some ⟨go58, 0, none⟩) x278004_2.length co63)) (v1 := (.slice (some ⟨go58, 0, none⟩) x278004_2.length co63)) (ok := (fun k_ => some k_ ≠ (.slice Ao29 x7_2.length co29 : Value).ownBlock ∧ some k_ ≠ (u248004 : Value).ownBlock ∧ some k_ ≠ (u248005 : Value).ownBlock ∧ some k_ ≠ (u248006 : Value).ownBlock ∧ some k_ ≠ (u263005 : Value).ownBlock ∧ some k_ ≠ (u263006 : Value).ownBlock ∧ some k_ ≠ (u278006 : Value).ownBlock)) (by (with_reducible repeat (first | apply Kd.R_alloc | apply Kd.R_drewN | apply Kd.R_drew)); exact Kd.R_mono HO_263004.out (fun _ hk => ⟨⟨hk.1, ⟨hk.2.1, ⟨hk.2.2.1, ⟨hk.2.2.2.1, ⟨hk.2.2.2.2.1, ⟨hk.2.2.2.2.2.1, hk.2.2.2.2.2.2.2⟩⟩⟩⟩⟩⟩, hk.2.2.2.2.2.2.1⟩)) hg (.inl rfl)); have n5_ := As0 (Kd.R_after (v := (.slice (some ⟨go58, 0, none⟩) x278004_2.length co63)) (v1 := (.slice (some ⟨go58, 0, none⟩) x278004_2.length co63)) (ok := (fun k_ => some k_ ≠ (.slice Ao29 x7_2.length co29 : Value).ownBlock ∧ some k_ ≠ (u248004 : Value).ownBlock ∧ some k_ ≠ (u248005 : Value).ownBlock ∧ some k_ ≠ (u248006 : Value).ownBlock ∧ some k_ ≠ (u263004 : Value).ownBlock ∧ some k_ ≠ (u263006 : Value).ownBlock ∧ some k_ ≠ (u278006 : Value).ownBlock)) (by (with_reducible repeat (first | apply Kd.R_alloc | apply Kd.R_drewN | apply Kd.R_drew)); exact Kd.R_mono HO_263005.out (fun _ hk => ⟨⟨hk.1, ⟨hk.2.1, ⟨hk.2.2.1, ⟨hk.2.2.2.1, ⟨hk.2.2.2.2.1, ⟨hk.2.2.2.2.2.1, hk.2.2.2.2.2.2.2⟩⟩⟩⟩⟩⟩, hk.2.2.2.2.2.2.1⟩)) hg (.inl rfl)); have n6_ := As0 (Kd.R_after (v := (.slice (some ⟨go58, 0, none⟩) x278004_2.length co63)) (v1 := (.slice (some ⟨go58, 0, none⟩) x278004_2.length co63)) (ok := (fun k_ => some k_ ≠ (.slice Ao29 x7_2.length co29 : Value).ownBlock ∧ some k_ ≠ (u248004 : Value).ownBlock ∧ some k_ ≠ (u248005 : Value).ownBlock ∧ some k_ ≠ (u248006 : Value).ownBlock ∧ some k_ ≠ (u263004 : Value).ownBlock ∧ some k_ ≠ (u263005 : Value).ownBlock ∧ some k_ ≠ (u278006 : Value).ownBlock)) (by (with_reducible repeat (first | apply Kd.R_alloc | apply Kd.R_drewN | apply Kd.R_drew)); exact Kd.R_mono HO_263006.out (fun _ hk => ⟨⟨hk.1, ⟨hk.2.1, ⟨hk.2.2.1, ⟨hk.2.2.2.1, ⟨hk.2.2.2.2.1, ⟨hk.2.2.2.2.2.1, hk.2.2.2.2.2.2.2⟩⟩⟩⟩⟩⟩, hk.2.2.2.2.2.2.1⟩)) hg (.inl rfl)); have n7_ := As0 (hp_); have n8_ := As0 (Kd.V_afterv (v := (.slice (some ⟨go58, 0, none⟩) x278004_2.length co63)) (v1 := (.slice (some ⟨go58, 0, none⟩) x278004_2.length co63)) (ok := (fun k_ => some k_ ≠ (.slice Ao29 x7_2.length co29 : Value).ownBlock ∧ some k_ ≠ (u248004 : Value).ownBlock ∧ some k_ ≠ (u248005 : Value).ownBlock ∧ some k_ ≠ (u248006 : Value).ownBlock ∧ some k_ ≠ (u263004 : Value).ownBlock ∧ some k_ ≠ (u263005 : Value).ownBlock ∧ some k_ ≠ (u263006 : Value).ownBlock ∧ some k_ ≠ (u278006 : Value).ownBlock ∧ k_ ≠ gb222 ∧ k_ ≠ gb247 ∧ k_ ≠ gb262 ∧ k_ ≠ gb277)) (by (with_reducible repeat (first | apply Kd.V_alloc | apply Kd.V_drewN | apply Kd.V_drew)); exact Kd.V_mono HO_278005.out (fun _ hk => ⟨⟨hk.1, ⟨hk.2.1, ⟨hk.2.2.1, ⟨hk.2.2.2.1, ⟨hk.2.2.2.2.1, ⟨hk.2.2.2.2.2.1, ⟨hk.2.2.2.2.2.2.1, ⟨hk.2.2.2.2.2.2.2.2.1, ⟨hk.2.2.2.2.2.2.2.2.2.1, ⟨hk.2.2.2.2.2.2.2.2.2.2.1, ⟨hk.2.2.2.2.2.2.2.2.2.2.2.1, hk.2.2.2.2.2.2.2.2.2.2.2.2⟩⟩⟩⟩⟩⟩⟩⟩⟩⟩⟩, hk.2.2.2.2.2.2.2.1⟩)) hg (.inl rfl)); have n9_ := As0 (Kd.R_after (v := (.slice (some ⟨go58, 0, none⟩) x278004_2.length co63)) (v1 := (.slice (some ⟨go58, 0, none⟩) x278004_2.length co63)) (ok := (fun k_ => some k_ ≠ (.slice Ao29 x7_2.length co29 : Value).ownBlock ∧ some k_ ≠ (u248004 : Value).ownBlock ∧ some k_ ≠ (u248005 : Value).ownBlock ∧ some k_ ≠ (u248006 : Value).ownBlock ∧ some k_ ≠ (u263004 : Value).ownBlock ∧ some k_ ≠ (u263005 : Value).ownBlock ∧ some k_ ≠ (u263006 : Value).ownBlock)) (by (with_reducible repeat (first | apply Kd.R_alloc | apply Kd.R_drewN | apply Kd.R_drew)); exact Kd.R_mono HO_278006.out (fun _ hk => ⟨⟨hk.1, ⟨hk.2.1, ⟨hk.2.2.1, ⟨hk.2.2.2.1, ⟨hk.2.2.2.2.1, ⟨hk.2.2.2.2.2.1, hk.2.2.2.2.2.2.1⟩⟩⟩⟩⟩⟩, hk.2.2.2.2.2.2.2⟩)) hg (.inl rfl)); have n10_ := As0 (blk_grown (g := gb222) (o := .cells #[.int .i64 a0_0, .int .i64 a0_1, .slice A0_2 l0_2.length c0_2] 34 (0, 0)) (by (with_reducible repeat (first | refine blk_drewN ?_ _ | refine blk_drew ?_ | refine blk_alloc ?_ _)); exact BK222.out) hg (Kd.R_ne HO_278004.out BK222.out (by decide))); have n11_ := As0 (blk_grown (g := gb247) (o := .cells #[.int .i64 t232, .int .i64 t233, .int .i64 t234, .int .i64 t235, u248004, u248005, u248006, .int .i64 t245] 39 (0, 0)) (by (with_reducible repeat (first | refine blk_drewN ?_ _ | refine blk_drew ?_ | refine blk_alloc ?_ _)); exact BK247.out) hg (Kd.R_ne HO_278004.out BK247.out (by decide))); have n12_ := As0 (blk_grown (g := gb262) (o := .cells #[.int .i64 t248, .int .i64 t249, .int .i64 t250, .int .i64 t251, u263004, u263005, u263006, .int .i64 t261] 39 (0, 0)) (by (with_reducible repeat (first | refine blk_drewN ?_ _ | refine blk_drew ?_ | refine blk_alloc ?_ _)); exact BK262.out) hg (Kd.R_ne HO_278004.out BK262.out (by decide))); have n13_ := As0 (blk_grown (g := gb277) (o := .cells #[.int .i64 t263, .int .i64 t264, .int .i64 t265, .int .i64 t266, .slice (some ⟨go58, 0, none⟩) x278004_2.length co63, u278005, u278006, .int .i64 t276] 39 (0, 0)) (by (with_reducible repeat (first | refine blk_drewN ?_ _ | refine blk_drew ?_ | refine blk_alloc ?_ _)); exact BK277.out) hg (Kd.R_ne HO_278004.out BK277.out (by decide))); have n14_ := As0 ((by rw [hw]; exact below_set (HB.out) GB58.out : Below w.heap.size w w65)); clear HO_7; clear HO_248004; clear HO_248005; clear HO_248006; clear HO_263004; clear HO_263005; clear HO_263006; clear HO_278004; clear HO_278005; clear HO_278006; clear BK222; clear BK247; clear BK262; clear BK277; clear HB; have HO_7 := n0_; have HO_248004 := n1_; have HO_248005 := n2_; have HO_248006 := n3_; have HO_263004 := n4_; have HO_263005 := n5_; have HO_263006 := n6_; have HO_278004 := n7_; have HO_278005 := n8_; have HO_278006 := n9_; have BK222 := n10_; have BK247 := n11_; have BK262 := n12_; have BK277 := n13_; have HB := n14_; clear n0_ n1_ n2_ n3_ n4_ n5_ n6_ n7_ n8_ n9_ n10_ n11_ n12_ n13_ n14_; clear hg hw hp_))
         (try simp only [← hl7_2])
         go_roundg k2
         case measure => have := HJ3.out; have := HK2.out; omega
         case rel => exact ⟨(x7_2), (wrap64 (x12_2 + 1)), (x248004_2), (x248005_2), (x248006_2), (x263004_2), (x263005_2), (x263006_2), (y279), (x278005_2), (x278006_2), (u248004), (u248005), (u248006), (u263004), (u263005), (u263006), (.slice (some ⟨go58, 0, none⟩) x278004_2.length co63), (u278005), (u278006), (by first | rfl | (simp; done) | (simp [*]; done)), H', ⟨by have := HJ3.out; have := HK2.out; omega⟩, ⟨by (try simp only [hl7_2]); (with_reducible repeat (first | apply Kd.R_alloc | apply Kd.R_drewN | apply Kd.R_drew)); exact Kd.R_mono HO_7.out (fun _ hk => ⟨hk.1.1, ⟨hk.1.2.1, ⟨hk.1.2.2.1, ⟨hk.1.2.2.2.1, ⟨hk.1.2.2.2.2.1, ⟨hk.1.2.2.2.2.2.1, ⟨hk.2, hk.1.2.2.2.2.2.2⟩⟩⟩⟩⟩⟩⟩)⟩, ⟨by (try simp only [hl7_2]); (with_reducible repeat (first | apply Kd.R_alloc | apply Kd.R_drewN | apply Kd.R_drew)); exact Kd.R_mono HO_248004.out (fun _ hk => ⟨hk.1.1, ⟨hk.1.2.1, ⟨hk.1.2.2.1, ⟨hk.1.2.2.2.1, ⟨hk.1.2.2.2.2.1, ⟨hk.1.2.2.2.2.2.1, ⟨hk.2, hk.1.2.2.2.2.2.2⟩⟩⟩⟩⟩⟩⟩)⟩, ⟨by (try simp only [hl7_2]); (with_reducible repeat (first | apply Kd.R_alloc | apply Kd.R_drewN | apply Kd.R_drew)); exact Kd.R_mono HO_248005.out (fun _ hk => ⟨hk.1.1, ⟨hk.1.2.1, ⟨hk.1.2.2.1, ⟨hk.1.2.2.2.1, ⟨hk.1.2.2.2.2.1, ⟨hk.1.2.2.2.2.2.1, ⟨hk.2, hk.1.2.2.2.2.2.2⟩⟩⟩⟩⟩⟩⟩)⟩, ⟨by (try simp only [hl7_2]); (with_reducible repeat (first | apply Kd.R_alloc | apply Kd.R_drewN | apply Kd.R_drew)); exact Kd.R_mono HO_248006.out (fun _ hk => ⟨hk.1.1, ⟨hk.1.2.1, ⟨hk.1.2.2.1, ⟨hk.1.2.2.2.1, ⟨hk.1.2.2.2.2.1, ⟨hk.1.2.2.2.2.2.1, ⟨hk.2, hk.1.2.2.2.2.2.2⟩⟩⟩⟩⟩⟩⟩)⟩, ⟨by (try simp only [hl7_2]); (with_reducible repeat (first | apply Kd.R_alloc | apply Kd.R_drewN | apply Kd.R_drew)); exact Kd.R_mono HO_263004.out (fun _ hk => ⟨hk.1.1, ⟨hk.1.2.1, ⟨hk.1.2.2.1, ⟨hk.1.2.2.2.1, ⟨hk.1.2.2.2.2.1, ⟨hk.1.2.2.2.2.2.1, ⟨hk.2, hk.1.2.2.2.2.2.2⟩⟩⟩⟩⟩⟩⟩)⟩, ⟨by (try simp only [hl7_2]); (with_reducible repeat (first | apply Kd.R_alloc | apply Kd.R_drewN | apply Kd.R_drew)); exact Kd.R_mono HO_263005.out (fun _ hk => ⟨hk.1.1, ⟨hk.1.2.1, ⟨hk.1.2.2.1, ⟨hk.1.2.2.2.1, ⟨hk.1.2.2.2.2.1, ⟨hk.1.2.2.2.2.2.1, ⟨hk.2, hk.1.2.2.2.2.2.2⟩⟩⟩⟩⟩⟩⟩)⟩, ⟨by (try simp only [hl7_2]); (with_reducible repeat (first | apply Kd.R_alloc | apply Kd.R_drewN | apply Kd.R_drew)); exact Kd.R_mono HO_263006.out (fun _ hk => ⟨hk.1.1, ⟨hk.1.2.1, ⟨hk.1.2.2.1, ⟨hk.1.2.2.2.1, ⟨hk.1.2.2.2.2.1, ⟨hk.1.2.2.2.2.2.1, ⟨hk.2, hk.1.2.2.2.2.2.2⟩⟩⟩⟩⟩⟩⟩)⟩, ⟨by (try simp only [hl7_2]); (with_reducible repeat (first | apply Kd.R_alloc | apply Kd.R_drewN | apply Kd.R_drew)); exact HO_278004.out⟩, ⟨by (try simp only [hl7_2]); (with_reducible repeat (first | apply Kd.V_alloc | apply Kd.V_drewN | apply Kd.V_drew)); exact Kd.V_mono HO_278005.out (fun _ hk => ⟨hk.1.1, ⟨hk.1.2.1, ⟨hk.1.2.2.1, ⟨hk.1.2.2.2.1, ⟨hk.1.2.2.2.2.1, ⟨hk.1.2.2.2.2.2.1, ⟨hk.1.2.2.2.2.2.2.1, ⟨hk.2, ⟨hk.1.2.2.2.2.2.2.2.1, ⟨hk.1.2.2.2.2.2.2.2.2.1, ⟨hk.1.2.2.2.2.2.2.2.2.2.1, ⟨hk.1.2.2.2.2.2.2.2.2.2.2.1, hk.1.2.2.2.2.2.2.2.2.2.2.2⟩⟩⟩⟩⟩⟩⟩⟩⟩⟩⟩⟩)⟩, ⟨by (try simp only [hl7_2]); (with_reducible repeat (first | apply Kd.R_alloc | apply Kd.R_drewN | apply Kd.R_drew)); exact Kd.R_mono HO_278006.out (fun _ hk => ⟨hk.1.1, ⟨hk.1.2.1, ⟨hk.1.2.2.1, ⟨hk.1.2.2.2.1, ⟨hk.1.2.2.2.2.1, ⟨hk.1.2.2.2.2.2.1, ⟨hk.1.2.2.2.2.2.2, hk.2⟩⟩⟩⟩⟩⟩⟩)⟩, ⟨by (try simp only [hl7_2]); (with_reducible repeat (first | refine blk_drewN ?_ _ | refine blk_drew ?_ | refine blk_alloc ?_ _)); exact BK222.out⟩, ⟨by (try simp only [hl7_2]); (with_reducible repeat (first | refine blk_drewN ?_ _ | refine blk_drew ?_ | refine blk_alloc ?_ _)); exact BK247.out⟩, ⟨by (try simp only [hl7_2]); (with_reducible repeat (first | refine blk_drewN ?_ _ | refine blk_drew ?_ | refine blk_alloc ?_ _)); exact BK262.out⟩, ⟨by (try simp only [hl7_2]); (with_reducible repeat (first | refine blk_drewN ?_ _ | refine blk_drew ?_ | refine blk_alloc ?_ _)); exact BK277.out⟩, ⟨by repeat (first | (with_reducible first | exact HB.out | apply below_alloc | apply bdN | apply bd1 | refine below_set ?_ GE222.out | refine below_set ?_ GE247.out | refine below_set ?_ GE262.out | refine below_set ?_ GE277.out) | exact HB.out)⟩⟩
        ·rw [if_neg c57] at H
         exact absurd H (by simp)
       ·rw [if_neg c56] at H
        have c56b0 : decide (x12_2 < (x278004_2.length : Int)) = false := decide_eq_false c56
        clear c56
        have H' := As0 H
        clear H
        have hnb66 := NB277_222.out
        have hnc66 := NB222_277.out
        have hnb67 := NB277_247.out
        have hnc67 := NB247_277.out
        have hnb68 := NB277_262.out
        have hnc68 := NB262_277.out
        have hcz69_0 : wr.cell? ⟨gb277, 0, none⟩ = some (.int .i64 t263) := (blk_cell BK277.out 0).trans rfl
        have hcz69_1 : wr.cell? ⟨gb277, 1, none⟩ = some (.int .i64 t264) := (blk_cell BK277.out 1).trans rfl
        have hcz69_2 : wr.cell? ⟨gb277, 2, none⟩ = some (.int .i64 t265) := (blk_cell BK277.out 2).trans rfl
        have hcz69_3 : wr.cell? ⟨gb277, 3, none⟩ = some (.int .i64 t266) := (blk_cell BK277.out 3).trans rfl
        have hcz69_4 : wr.cell? ⟨gb277, 4, none⟩ = some (u278004) := (blk_cell BK277.out 4).trans rfl
        have hcz69_5 : wr.cell? ⟨gb277, 5, none⟩ = some (u278005) := (blk_cell BK277.out 5).trans rfl
        have hcz69_6 : wr.cell? ⟨gb277, 6, none⟩ = some (u278006) := (blk_cell BK277.out 6).trans rfl
        have hcz69_7 : wr.cell? ⟨gb277, 7, none⟩ = some (.int .i64 t276) := (blk_cell BK277.out 7).trans rfl
        have hfz69_0 := blk_frozen BK277.out 0
        have hfz69_1 := blk_frozen BK277.out 1
        have hfz69_2 := blk_frozen BK277.out 2
        have hfz69_3 := blk_frozen BK277.out 3
        have hfz69_4 := blk_frozen BK277.out 4
        have hfz69_5 := blk_frozen BK277.out 5
        have hfz69_6 := blk_frozen BK277.out 6
        have hfz69_7 := blk_frozen BK277.out 7
        obtain ⟨Ao70, co70, eo70⟩ := Kd.R_slice HO_278004.out
        subst eo70
        go_wp2
        go_loopg [13] k2 (fun kq v13 w' => ∃ (x7_3 : List Int) (x13_3 : Int) (x248004_3 : List Int) (x248005_3 : List Int) (x248006_3 : List Int) (x263004_3 : List Int) (x263005_3 : List Int) (x263006_3 : List Int) (x278004_3 : List Int) (x278005_3 : List Int) (x278006_3 : List Int) (u248004 : Value) (u248005 : Value) (u248006 : Value) (u263004 : Value) (u263005 : Value) (u263006 : Value) (u278004 : Value) (u278005 : Value) (u278006 : Value), v13 = .int .i64 x13_3 ∧ Aside0 (regcertlaw09_InterpKeeps.l1 kq l1 x7_3 x13_3 t232 t233 t234 t235 x248004_3 x248005_3 x248006_3 t245 t248 t249 t250 t251 x263004_3 x263005_3 x263006_3 t261 t263 t264 t265 t266 x278004_3 x278005_3 x278006_3 t276 = some r) ∧ Aside0 (kq ≤ k2) ∧ Aside0 (Kd.R (Kd.int .i64) 2 w' w.heap.size (fun k_ => some k_ ≠ (u248004 : Value).ownBlock ∧ some k_ ≠ (u248005 : Value).ownBlock ∧ some k_ ≠ (u248006 : Value).ownBlock ∧ some k_ ≠ (u263004 : Value).ownBlock ∧ some k_ ≠ (u263005 : Value).ownBlock ∧ some k_ ≠ (u263006 : Value).ownBlock ∧ some k_ ≠ (u278004 : Value).ownBlock ∧ some k_ ≠ (u278006 : Value).ownBlock) (.slice Ao29 x7_2.length co29) x7_3) ∧ Aside0 (Kd.R (Kd.int .i64) 2 w' w.heap.size (fun k_ => some k_ ≠ ((.slice Ao29 x7_2.length co29) : Value).ownBlock ∧ some k_ ≠ (u248005 : Value).ownBlock ∧ some k_ ≠ (u248006 : Value).ownBlock ∧ some k_ ≠ (u263004 : Value).ownBlock ∧ some k_ ≠ (u263005 : Value).ownBlock ∧ some k_ ≠ (u263006 : Value).ownBlock ∧ some k_ ≠ (u278004 : Value).ownBlock ∧ some k_ ≠ (u278006 : Value).ownBlock) u248004 x248004_3) ∧ Aside0 (Kd.R (Kd.int .i64) 2 w' w.heap.size (fun k_ => some k_ ≠ ((.slice Ao29 x7_2.length co29) : Value).ownBlock ∧ some k_ ≠ (u248004 : Value).ownBlock ∧ some k_ ≠ (u248006 : Value).ownBlock ∧ some k_ ≠ (u263004 : Value).ownBlock ∧ some k_ ≠ (u263005 : Value).ownBlock ∧ some k_ ≠ (u263006 : Value).ownBlock ∧ some k_ ≠ (u278004 : Value).ownBlock ∧ some k_ ≠ (u278006 : Value).ownBlock) u248005 x248005_3) ∧ Aside0 (Kd.R (Kd.int .i64) 2 w' w.heap.size (fun k_ => some k_ ≠ ((.slice Ao29 x7_2.length co29) : Value).ownBlock ∧ some k_ ≠ (u248004 : Value).ownBlock ∧ some k_ ≠ (u248005 : Value).ownBlock ∧ some k_ ≠ (u263004 : Value).ownBlock ∧ some k_ ≠ (u263005 : Value).ownBlock ∧ some k_ ≠ (u263006 : Value).ownBlock ∧ some k_ ≠ (u278004 : Value).ownBlock ∧ some k_ ≠ (u278006 : Value).ownBlock) u248006 x248006_3) ∧ Aside0 (Kd.R (Kd.int .i64) 2 w' w.heap.size (fun k_ => some k_ ≠ ((.slice Ao29 x7_2.length co29) : Value).ownBlock ∧ some k_ ≠ (u248004 : Value).ownBlock ∧ some k_ ≠ (u248005 : Value).ownBlock ∧ some k_ ≠ (u248006 : Value).ownBlock ∧ some k_ ≠ (u263005 : Value).ownBlock ∧ some k_ ≠ (u263006 : Value).ownBlock ∧ some k_ ≠ (u278004 : Value).ownBlock ∧ some k_ ≠ (u278006 : Value).ownBlock) u263004 x263004_3) ∧ Aside0 (Kd.R (Kd.int .i64) 2 w' w.heap.size (fun k_ => some k_ ≠ ((.slice Ao29 x7_2.length co29) : Value).ownBlock ∧ some k_ ≠ (u248004 : Value).ownBlock ∧ some k_ ≠ (u248005 : Value).ownBlock ∧ some k_ ≠ (u248006 : Value).ownBlock ∧ some k_ ≠ (u263004 : Value).ownBlock ∧ some k_ ≠ (u263006 : Value).ownBlock ∧ some k_ ≠ (u278004 : Value).ownBlock ∧ some k_ ≠ (u278006 : Value).ownBlock) u263005 x263005_3) ∧ Aside0 (Kd.R (Kd.int .i64) 2 w' w.heap.size (fun k_ => some k_ ≠ ((.slice Ao29 x7_2.length co29) : Value).ownBlock ∧ some k_ ≠ (u248004 : Value).ownBlock ∧ some k_ ≠ (u248005 : Value).ownBlock ∧ some k_ ≠ (u248006 : Value).ownBlock ∧ some k_ ≠ (u263004 : Value).ownBlock ∧ some k_ ≠ (u263005 : Value).ownBlock ∧ some k_ ≠ (u278004 : Value).ownBlock ∧ some k_ ≠ (u278006 : Value).ownBlock) u263006 x263006_3) ∧ Aside0 (Kd.R (Kd.int .i64) 2 w' w.heap.size (fun k_ => some k_ ≠ ((.slice Ao29 x7_2.length co29) : Value).ownBlock ∧ some k_ ≠ (u248004 : Value).ownBlock ∧ some k_ ≠ (u248005 : Value).ownBlock ∧ some k_ ≠ (u248006 : Value).ownBlock ∧ some k_ ≠ (u263004 : Value).ownBlock ∧ some k_ ≠ (u263005 : Value).ownBlock ∧ some k_ ≠ (u263006 : Value).ownBlock ∧ some k_ ≠ (u278006 : Value).ownBlock) u278004 x278004_3) ∧ Aside0 (Kd.V (Kd.int .i64) 2 w' w.heap.size (fun k_ => some k_ ≠ ((.slice Ao29 x7_2.length co29) : Value).ownBlock ∧ some k_ ≠ (u248004 : Value).ownBlock ∧ some k_ ≠ (u248005 : Value).ownBlock ∧ some k_ ≠ (u248006 : Value).ownBlock ∧ some k_ ≠ (u263004 : Value).ownBlock ∧ some k_ ≠ (u263005 : Value).ownBlock ∧ some k_ ≠ (u263006 : Value).ownBlock ∧ some k_ ≠ (u278004 : Value).ownBlock ∧ some k_ ≠ (u278006 : Value).ownBlock ∧ k_ ≠ gb222 ∧ k_ ≠ gb247 ∧ k_ ≠ gb262 ∧ k_ ≠ gb277) u278005 x278005_3) ∧ Aside0 (Kd.R (Kd.int .i64) 2 w' w.heap.size (fun k_ => some k_ ≠ ((.slice Ao29 x7_2.length co29) : Value).ownBlock ∧ some k_ ≠ (u248004 : Value).ownBlock ∧ some k_ ≠ (u248005 : Value).ownBlock ∧ some k_ ≠ (u248006 : Value).ownBlock ∧ some k_ ≠ (u263004 : Value).ownBlock ∧ some k_ ≠ (u263005 : Value).ownBlock ∧ some k_ ≠ (u263006 : Value).ownBlock ∧ some k_ ≠ (u278004 : Value).ownBlock) u278006 x278006_3) ∧ Aside0 (w'.heap[gb222]? = some (.cells #[.int .i64 a0_0, .int .i64 a0_1, (.slice A0_2 l0_2.length c0_2)] 34 (0, 0))) ∧ Aside0 (w'.heap[gb247]? = some (.cells #[.int .i64 t232, .int .i64 t233, .int .i64 t234, .int .i64 t235, u248004, u248005, u248006, .int .i64 t245] 39 (0, 0))) ∧ Aside0 (w'.heap[gb262]? = some (.cells #[.int .i64 t248, .int .i64 t249, .int .i64 t250, .int .i64 t251, u263004, u263005, u263006, .int .i64 t261] 39 (0, 0))) ∧ Aside0 (w'.heap[gb277]? = some (.cells #[.int .i64 t263, .int .i64 t264, .int .i64 t265, .int .i64 t266, u278004, u278005, u278006, .int .i64 t276] 39 (0, 0))) ∧ Aside0 (Below w.heap.size w w'))
        case atStart => exact ⟨(x7_2), (0), (x248004_2), (x248005_2), (x248006_2), (x263004_2), (x263005_2), (x263006_2), (x278004_2), (x278005_2), (x278006_2), (u248004), (u248005), (u248006), (u263004), (u263005), (u263006), (.slice Ao70 x278004_2.length co70), (u278005), (u278006), (by first | rfl | (simp; done) | (simp [*]; done)), H', ⟨Nat.le_refl _⟩, ⟨by (try simp only [hl7_2]); (with_reducible repeat (first | apply Kd.R_alloc | apply Kd.R_drewN | apply Kd.R_drew)); exact HO_7.out⟩, ⟨by (try simp only [hl7_2]); (with_reducible repeat (first | apply Kd.R_alloc | apply Kd.R_drewN | apply Kd.R_drew)); exact HO_248004.out⟩, ⟨by (try simp only [hl7_2]); (with_reducible repeat (first | apply Kd.R_alloc | apply Kd.R_drewN | apply Kd.R_drew)); exact HO_248005.out⟩, ⟨by (try simp only [hl7_2]); (with_reducible repeat (first | apply Kd.R_alloc | apply Kd.R_drewN | apply Kd.R_drew)); exact HO_248006.out⟩, ⟨by (try simp only [hl7_2]); (with_reducible repeat (first | apply Kd.R_alloc | apply Kd.R_drewN | apply Kd.R_drew)); exact HO_263004.out⟩, ⟨by (try simp only [hl7_2]); (with_reducible repeat (first | apply Kd.R_alloc | apply Kd.R_drewN | apply Kd.R_drew)); exact HO_263005.out⟩, ⟨by (try simp only [hl7_2]); (with_reducible repeat (first | apply Kd.R_alloc | apply Kd.R_drewN | apply Kd.R_drew)); exact HO_263006.out⟩, ⟨by (try simp only [hl7_2]); (with_reducible repeat (first | apply Kd.R_alloc | apply Kd.R_drewN | apply Kd.R_drew)); exact HO_278004.out⟩, ⟨by (try simp only [hl7_2]); (with_reducible repeat (first | apply Kd.V_alloc | apply Kd.V_drewN | apply Kd.V_drew)); exact HO_278005.out⟩, ⟨by (try simp only [hl7_2]); (with_reducible repeat (first | apply Kd.R_alloc | apply Kd.R_drewN | apply Kd.R_drew)); exact HO_278006.out⟩, ⟨by (try simp only [hl7_2]); (with_reducible repeat (first | refine blk_drewN ?_ _ | refine blk_drew ?_ | refine blk_alloc ?_ _)); exact BK222.out⟩, ⟨by (try simp only [hl7_2]); (with_reducible repeat (first | refine blk_drewN ?_ _ | refine blk_drew ?_ | refine blk_alloc ?_ _)); exact BK247.out⟩, ⟨by (try simp only [hl7_2]); (with_reducible repeat (first | refine blk_drewN ?_ _ | refine blk_drew ?_ | refine blk_alloc ?_ _)); exact BK262.out⟩, ⟨by (try simp only [hl7_2]); (with_reducible repeat (first | refine blk_drewN ?_ _ | refine blk_drew ?_ | refine blk_alloc ?_ _)); exact BK277.out⟩, ⟨by repeat (first | (with_reducible first | exact HB.out | apply below_alloc | apply bdN | apply bd1 | refine below_set ?_ GE222.out | refine below_set ?_ GE247.out | refine below_set ?_ GE262.out | refine below_set ?_ GE277.out) | exact HB.out)⟩⟩
        case round =>
         clear H'
         try clear c1
         try clear c2
         try clear p2
         try clear q2
         try clear hx2
         try clear c3
         try clear c4
         try clear c5
         try clear p5
         try clear q5
         try clear hx5
         try clear hf5
         try clear c6
         try clear p6
         try clear c7
         try clear c9
         try clear c10
         try clear c18
         try clear c21
         try clear p27
         try clear q27
         try clear hx27
         try clear c29
         try clear c31
         try clear c32
         try clear c38
         try clear c39
         try clear c40
         try clear c49
         try clear c50
         try clear c51
         try clear c56
         try clear c56b0
         try clear c57
         try clear c57b0
         try clear p58
         try clear q58
         try clear hx58
         try clear hf58
         try clear c59
         try clear c60
         try clear c61
         try clear p64
         try clear c66
         try clear c67
         try clear c68
         try clear hcz11_0
         try clear hcz11_1
         try clear hcz11_2
         try clear hcz13_0
         try clear hcz13_1
         try clear hcz13_2
         try clear hcz15_0
         try clear hcz15_1
         try clear hcz15_2
         try clear hcz28_0
         try clear hcz28_1
         try clear hcz28_2
         try clear hcz33_0
         try clear hcz33_1
         try clear hcz33_2
         try clear hcz33_3
         try clear hcz33_4
         try clear hcz33_5
         try clear hcz33_6
         try clear hcz33_7
         try clear hcz41_0
         try clear hcz41_1
         try clear hcz41_2
         try clear hcz41_3
         try clear hcz41_4
         try clear hcz41_5
         try clear hcz41_6
         try clear hcz41_7
         try clear hcz45_0
         try clear hcz45_1
         try clear hcz45_2
         try clear hcz46_0
         try clear hcz46_1
         try clear hcz46_2
         try clear hcz46_3
         try clear hcz46_4
         try clear hcz46_5
         try clear hcz46_6
         try clear hcz46_7
         try clear hcz52_0
         try clear hcz52_1
         try clear hcz52_2
         try clear hcz52_3
         try clear hcz52_4
         try clear hcz52_5
         try clear hcz52_6
         try clear hcz52_7
         try clear hcz62_0
         try clear hcz62_1
         try clear hcz62_2
         try clear hcz62_3
         try clear hcz62_4
         try clear hcz62_5
         try clear hcz62_6
         try clear hcz62_7
         try clear hcz69_0
         try clear hcz69_1
         try clear hcz69_2
         try clear hcz69_3
         try clear hcz69_4
         try clear hcz69_5
         try clear hcz69_6
         try clear hcz69_7
         try clear hfz11_0
         try clear hfz11_1
         try clear hfz11_2
         try clear hfz13_0
         try clear hfz13_1
         try clear hfz13_2
         try clear hfz15_0
         try clear hfz15_1
         try clear hfz15_2
         try clear hfz28_0
         try clear hfz28_1
         try clear hfz28_2
         try clear hfz33_0
         try clear hfz33_1
         try clear hfz33_2
         try clear hfz33_3
         try clear hfz33_4
         try clear hfz33_5
         try clear hfz33_6
         try clear hfz33_7
         try clear hfz41_0
         try clear hfz41_1
         try clear hfz41_2
         try clear hfz41_3
         try clear hfz41_4
         try clear hfz41_5
         try clear hfz41_6
         try clear hfz41_7
         try clear hfz45_0
         try clear hfz45_1
         try clear hfz45_2
         try clear hfz46_0
         try clear hfz46_1
         try clear hfz46_2
         try clear hfz46_3
         try clear hfz46_4
         try clear hfz46_5
         try clear hfz46_6
         try clear hfz46_7
         try clear hfz52_0
         try clear hfz52_1
         try clear hfz52_2
         try clear hfz52_3
         try clear hfz52_4
         try clear hfz52_5
         try clear hfz52_6
         try clear hfz52_7
         try clear hfz62_0
         try clear hfz62_1
         try clear hfz62_2
         try clear hfz62_3
         try clear hfz62_4
         try clear hfz62_5
         try clear hfz62_6
         try clear hfz62_7
         try clear hfz69_0
         try clear hfz69_1
         try clear hfz69_2
         try clear hfz69_3
         try clear hfz69_4
         try clear hfz69_5
         try clear hfz69_6
         try clear hfz69_7
         try clear hx278_0
         try clear hx58_0
         try clear p2
         try clear p278
         try clear p58
         try clear p6
         try clear q278
         try clear q58
         obtain ⟨x7_3, x13_3, x248004_3, x248005_3, x248006_3, x263004_3, x263005_3, x263006_3, x278004_3, x278005_3, x278006_3, u248004, u248005, u248006, u263004, u263005, u263006, u278004, u278005, u278006, rfl, HA, HK3, HO_7, HO_248004, HO_248005, HO_248006, HO_263004, HO_263005, HO_263006, HO_278004, HO_278005, HO_278006, BK222, BK247, BK262, BK277, HB⟩ := hrel
         have hl7_3 := (Kd.R_reads' HO_7.out).1
         rw [hl7_3] at HO_7
         (try simp only [hl7_3])
         (try simp only [hl7_3] at BK222)
         (try simp only [hl7_3] at BK247)
         (try simp only [hl7_3] at BK262)
         (try simp only [hl7_3] at BK277)
         (try simp only [hl7_3] at HO_248004)
         (try simp only [hl7_3] at HO_248005)
         (try simp only [hl7_3] at HO_248006)
         (try simp only [hl7_3] at HO_263004)
         (try simp only [hl7_3] at HO_263005)
         (try simp only [hl7_3] at HO_263006)
         (try simp only [hl7_3] at HO_278004)
         (try simp only [hl7_3] at HO_278005)
         (try simp only [hl7_3] at HO_278006)
         cases gk with
         | zero => exact absurd HA.out (by simp [regcertlaw09_InterpKeeps.l1])
         | succ k3 =>
          have H := HA.out
          clear HA
          simp only [regcertlaw09_InterpKeeps.l1] at H
          by_cases c71 : x13_3 < (x278006_3.length : Int)
          ·rw [if_pos c71] at H
           have c71b0 : decide (x13_3 < (x278006_3.length : Int)) = true := decide_eq_true c71
           clear c71
           by_cases c72 : 0 ≤ x13_3
           ·rw [if_pos c72] at H
            have c72b0 : decide (0 ≤ x13_3) = true := decide_eq_true c72
            clear c72
            obtain ⟨y281, hy281⟩ : ∃ y_ : List Int, y_ = (x278006_3.set (x13_3 : Int).toNat (wrap64 ((rd x278006_3 x13_3) + 1))) := ⟨_, rfl⟩
            replace H : (regcertlaw09_InterpKeeps.l1 k3 l1 x7_3 (wrap64 (x13_3 + 1)) t232 t233 t234 t235 x248004_3 x248005_3 x248006_3 t245 t248 t249 t250 t251 x263004_3 x263005_3 x263006_3 t261 t263 t264 t265 t266 x278004_3 x278005_3 y281 t276) = some r := by first | (rw [hy281]; with_reducible exact H) | (have H2_ := (Option.bind_some _ _).symm.trans H; rw [hy281]; with_reducible exact H2_) | (have H2_ := (Option.bind_some _ _).symm.trans H; with_reducible exact H2_) | with_reducible exact H | (rw [hy281]; exact H) | exact H
            have Ny281 := As0 hy281
            clear hy281
            have H' := As0 H
            clear H
            have hnb74 := NB277_222.out
            have hnc74 := NB222_277.out
            have hnb75 := NB277_247.out
            have hnc75 := NB247_277.out
            have hnb76 := NB277_262.out
            have hnc76 := NB262_277.out
            have hcz77_0 : wr.cell? ⟨gb277, 0, none⟩ = some (.int .i64 t263) := (blk_cell BK277.out 0).trans rfl
            have hcz77_1 : wr.cell? ⟨gb277, 1, none⟩ = some (.int .i64 t264) := (blk_cell BK277.out 1).trans rfl
            have hcz77_2 : wr.cell? ⟨gb277, 2, none⟩ = some (.int .i64 t265) := (blk_cell BK277.out 2).trans rfl
            have hcz77_3 : wr.cell? ⟨gb277, 3, none⟩ = some (.int .i64 t266) := (blk_cell BK277.out 3).trans rfl
            have hcz77_4 : wr.cell? ⟨gb277, 4, none⟩ = some (u278004) := (blk_cell BK277.out 4).trans rfl
            have hcz77_5 : wr.cell? ⟨gb277, 5, none⟩ = some (u278005) := (blk_cell BK277.out 5).trans rfl
            have hcz77_6 : wr.cell? ⟨gb277, 6, none⟩ = some (u278006) := (blk_cell BK277.out 6).trans rfl
            have hcz77_7 : wr.cell? ⟨gb277, 7, none⟩ = some (.int .i64 t276) := (blk_cell BK277.out 7).trans rfl
            have hfz77_0 := blk_frozen BK277.out 0
            have hfz77_1 := blk_frozen BK277.out 1
            have hfz77_2 := blk_frozen BK277.out 2
            have hfz77_3 := blk_frozen BK277.out 3
            have hfz77_4 := blk_frozen BK277.out 4
            have hfz77_5 := blk_frozen BK277.out 5
            have hfz77_6 := blk_frozen BK277.out 6
            have hfz77_7 := blk_frozen BK277.out 7
            obtain ⟨Ao78, co78, eo78⟩ := Kd.R_slice HO_278006.out
            subst eo78
            have p280 : 0 ≤ (x13_3 : Int) := of_decide_eq_true (by first | (with_reducible assumption) | assumption)
            have q280 : x13_3 < (x278006_3.length : Int) := of_decide_eq_true (by first | (with_reducible assumption) | assumption)
            obtain ⟨ad280, e280, hx280_0⟩ := Kd.at_int (Kd.R_reads' HO_278006.out).2.2 x13_3 p280 q280
            cases e280
            replace p280 := eq_true p280
            replace q280 := eq_true q280
            have p73 : 0 ≤ (x13_3 : Int) := of_decide_eq_true (by first | (with_reducible assumption) | assumption)
            have q73 : (x13_3 : Int) < ((x278006_3.length : Int) : Int) := of_decide_eq_true (by first | (with_reducible assumption) | assumption)
            obtain ⟨go73, co73, eo73, gb73, gl73, cl73, HG73⟩ := Kd.R_form HO_278006.out (by omega)
            (first | cases eo73 | (injection eo73 with ea_ en_ ec_; (first | subst ea_ | (injection ea_ with ea_; subst ea_)); subst ec_; clear en_))
            have GB73 := As0 gb73
            have GG73 := As0 HG73
            clear gb73 gl73 HG73
            (first | simp only [add_plain] at hx280_0 | skip)
            obtain ⟨hx73_0, hf73_0⟩ := Kd.R_celln 0 HO_278006.out (x13_3 : Int) p73 q73
            replace p73 := eq_true p73
            replace q73 := eq_true q73
            have HP79 := Kd.R_putg HO_278006.out (x13_3 : Int) (wrap64 ((rd x278006_3 x13_3) + 1))
            go_wp2_with (first | ((with_reducible refine gate_store (t := 2) (p := 76) rfl ?_); refine store_event (t := 2) (p := 76) (v := ?vo_w80) (w1 := (wr.setCell ⟨go73, (x13_3 : Int).toNat, none⟩ (.int .i64 (wrap64 ((rd x278006_3 x13_3) + 1))))) ?hg ?ho ?hn ?hr ?_; (case ho => rfl); (case hg => rfl); (case hn => rfl); (case hr => first | (go_simp; done) | (go_simp; rfl)); intro w80 hw; have hg : wr.grownBy w80 (some go73) := (by rw [hw]; exact HP79.2); have hp_ : Kd.R (Kd.int .i64) 2 w80 w.heap.size (fun k_ => some k_ ≠ (.slice Ao29 x7_3.length co29 : Value).ownBlock ∧ some k_ ≠ (u248004 : Value).ownBlock ∧ some k_ ≠ (u248005 : Value).ownBlock ∧ some k_ ≠ (u248006 : Value).ownBlock ∧ some k_ ≠ (u263004 : Value).ownBlock ∧ some k_ ≠ (u263005 : Value).ownBlock ∧ some k_ ≠ (u263006 : Value).ownBlock ∧ some k_ ≠ (u278004 : Value).ownBlock) (.slice (some ⟨go73, 0, none⟩) x278006_3.length co78) y281 := (by rw [hw, Ny281.out]; exact HP79.1); clear HP79; have n0_ := As0 (Kd.R_after (v := (.slice (some ⟨go73, 0, none⟩) x278006_3.length co78)) (v1 := (.slice (some ⟨go73, 0, none⟩) x278006_3.length co78)) (ok := (fun k_ => some k_ ≠ (u248004 : Value).ownBlock ∧ some k_ ≠ (u248005 : Value).ownBlock ∧ some k_ ≠ (u248006 : Value).ownBlock ∧ some k_ ≠ (u263004 : Value).ownBlock ∧ some k_ ≠ (u263005 : Value).ownBlock ∧ some k_ ≠ (u263006 : Value).ownBlock ∧ some k_ ≠ (u278004 : Value).ownBlock)) (by (with_reducible repeat (first | apply Kd.R_alloc | apply Kd.R_drewN | apply Kd.R_drew)); exact Kd.R_mono HO_7.out (fun _ hk => ⟨⟨hk.1, ⟨hk.2.1, ⟨hk.2.2.1, ⟨hk.2.2.2.1, ⟨hk.2.2.2.2.1, ⟨hk.2.2.2.2.2.1, hk.2.2.2.2.2.2.1⟩⟩⟩⟩⟩⟩, hk.2.2.2.2.2.2.2⟩)) hg (.inl rfl)); have n1_ := As0 (Kd.R_after (v := (.slice (some ⟨go73, 0, none⟩) x278006_3.length co78)) (v1 := (.slice (some ⟨go73, 0, none⟩) x278006_3.length co78)) (ok := (fun k_ => some k_ ≠ (.slice Ao29 x7_3.length co29 : Value).ownBlock ∧ some k_ ≠ (u248005 : Value).ownBlock ∧ some k_ ≠ (u248006 : Value).ownBlock ∧ some k_ ≠ (u263004 : Value).ownBlock ∧ some k_ ≠ (u263005 : Value).ownBlock ∧ some k_ ≠ (u263006 : Value).ownBlock ∧ some k_ ≠ (u278004 : Value).ownBlock)) (by (with_reducible repeat (first | apply Kd.R_alloc | apply Kd.R_drewN | apply Kd.R_drew)); exact Kd.R_mono HO_248004.out (fun _ hk => ⟨⟨hk.1, ⟨hk.2.1, ⟨hk.2.2.1, ⟨hk.2.2.2.1, ⟨hk.2.2.2.2.1, ⟨hk.2.2.2.2.2.1, hk.2.2.2.2.2.2.1⟩⟩⟩⟩⟩⟩, hk.2.2.2.2.2.2.2⟩)) hg (.inl rfl)); have n2_ := As0 (Kd.R_after (v := (.slice (some ⟨go73, 0, none⟩) x278006_3.length co78)) (v1 := (.slice (some ⟨go73, 0, none⟩) x278006_3.length co78)) (ok := (fun k_ => some k_ ≠ (.slice Ao29 x7_3.length co29 : Value).ownBlock ∧ some k_ ≠ (u248004 : Value).ownBlock ∧ some k_ ≠ (u248006 : Value).ownBlock ∧ some k_ ≠ (u263004 : Value).ownBlock ∧ some k_ ≠ (u263005 : Value).ownBlock ∧ some k_ ≠ (u263006 : Value).ownBlock ∧ some k_ ≠ (u278004 : Value).ownBlock)) (by (with_reducible repeat (first | apply Kd.R_alloc | apply Kd.R_drewN | apply Kd.R_drew)); exact Kd.R_mono HO_248005.out (fun _ hk => ⟨⟨hk.1, ⟨hk.2.1, ⟨hk.2.2.1, ⟨hk.2.2.2.1, ⟨hk.2.2.2.2.1, ⟨hk.2.2.2.2.2.1, hk.2.2.2.2.2.2.1⟩⟩⟩⟩⟩⟩, hk.2.2.2.2.2.2.2⟩)) hg (.inl rfl)); have n3_ := As0 (Kd.R_after (v := (.slice (some ⟨go73, 0, none⟩) x278006_3.length co78)) (v1 := (.slice (some ⟨go73, 0, none⟩) x278006_3.length co78)) (ok := (fun k_ => some k_ ≠ (.slice Ao29 x7_3.length co29 : Value).ownBlock ∧ some k_ ≠ (u248004 : Value).ownBlock ∧ some k_ ≠ (u248005 : Value).ownBlock ∧ some k_ ≠ (u263004 : Value).ownBlock ∧ some k_ ≠ (u263005 : Value).ownBlock ∧ some k_ ≠ (u263006 : Value).ownBlock ∧ some k_ ≠ (u278004 : Value).ownBlock)) (by (with_reducible repeat (first | apply Kd.R_alloc | apply Kd.R_drewN | apply Kd.R_drew)); exact Kd.R_mono HO_248006.out (fun _ hk => ⟨⟨hk.1, ⟨hk.2.1, ⟨hk.2.2.1, ⟨hk.2.2.2.1, ⟨hk.2.2.2.2.1, ⟨hk.2.2.2.2.2.1, hk.2.2.2.2.2.2.1⟩⟩⟩⟩⟩⟩, hk.2.2.2.2.2.2.2⟩)) hg (.inl rfl)); have n4_ := As0 (Kd.R_after (v := (.slice (some ⟨go73, 0, none⟩) x278006_3.length co78)) (v1 := (.slice (some ⟨go73, 0, none⟩) x278006_3.length co78)) (ok := (fun k_ => some k_ ≠ (.slice Ao29 x7_3.length co29 : Value).ownBlock ∧ some k_ ≠ (u248004 : Value).ownBlock ∧ some k_ ≠ (u248005 : Value).ownBlock ∧ some k_ ≠ (u248006 : Value).ownBlock ∧ some k_ ≠ (u263005 : Value).ownBlock ∧ some k_ ≠ (u263006 : Value).ownBlock ∧ some k_ ≠ (u278004 : Value).ownBlock)) (by (with_reducible repeat (first | apply Kd.R_alloc | apply Kd.R_drewN | apply Kd.R_drew)); exact Kd.R_mono HO_263004.out (fun _ hk => ⟨⟨hk.1, ⟨hk.2.1, ⟨hk.2.2.1, ⟨hk.2.2.2.1, ⟨hk.2.2.2.2.1, ⟨hk.2.2.2.2.2.1, hk.2.2.2.2.2.2.1⟩⟩⟩⟩⟩⟩, hk.2.2.2.2.2.2.2⟩)) hg (.inl rfl)); have n5_ := As0 (Kd.R_after (v := (.slice (some ⟨go73, 0, none⟩) x278006_3.length co78)) (v1 := (.slice (some ⟨go73, 0, none⟩) x278006_3.length co78)) (ok := (fun k_ => some k_ ≠ (.slice Ao29 x7_3.length co29 : Value).ownBlock ∧ some k_ ≠ (u248004 : Value).ownBlock ∧ some k_ ≠ (u248005 : Value).ownBlock ∧ some k_ ≠ (u248006 : Value).ownBlock ∧ some k_ ≠ (u263004 : Value).ownBlock ∧ some k_ ≠ (u263006 : Value).ownBlock ∧ some k_ ≠ (u278004 : Value).ownBlock)) (by (with_reducible repeat (first | apply Kd.R_alloc | apply Kd.R_drewN | apply Kd.R_drew)); exact Kd.R_mono HO_263005.out (fun _ hk => ⟨⟨hk.1, ⟨hk.2.1, ⟨hk.2.2.1, ⟨hk.2.2.2.1, ⟨hk.2.2.2.2.1, ⟨hk.2.2.2.2.2.1, hk.2.2.2.2.2.2.1⟩⟩⟩⟩⟩⟩, hk.2.2.2.2.2.2.2⟩)) hg (.inl rfl)); have n6_ := As0 (Kd.R_after (v := (.slice (some ⟨go73, 0, none⟩) x278006_3.length co78)) (v1 := (.slice (some ⟨go73, 0, none⟩) x278006_3.length co78)) (ok := (fun k_ => some k_ ≠ (.slice Ao29 x7_3.length co29 : Value).ownBlock ∧ some k_ ≠ (u248004 : Value).ownBlock ∧ some k_ ≠ (u248005 : Value).ownBlock ∧ some k_ ≠ (u248006 : Value).ownBlock ∧ some k_ ≠ (u263004 : Value).ownBlock ∧ some k_ ≠ (u263005 : Value).ownBlock ∧ some k_ ≠ (u278004 : Value).ownBlock)) (by (with_reducible repeat (first | apply Kd.R_alloc | apply Kd.R_drewN | apply Kd.R_drew)); exact Kd.R_mono HO_263006.out (fun _ hk => ⟨⟨hk.1, ⟨hk.2.1, ⟨hk.2.2.1, ⟨hk.2.2.2.1, ⟨hk.2.2.2.2.1, ⟨hk.2.2.2.2.2.1, hk.2.2.2.2.2.2.1⟩⟩⟩⟩⟩⟩, hk.2.2.2.2.2.2.2⟩)) hg (.inl rfl)); have n7_ := As0 (Kd.R_after (v := (.slice (some ⟨go73, 0, none⟩) x278006_3.length co78)) (v1 := (.slice (some ⟨go73, 0, none⟩) x278006_3.length co78)) (ok := (fun k_ => some k_ ≠ (.slice Ao29 x7_3.length co29 : Value).ownBlock ∧ some k_ ≠ (u248004 : Value).ownBlock ∧ some k_ ≠ (u248005 : Value).ownBlock ∧ some k_ ≠ (u248006 : Value).ownBlock ∧ some k_ ≠ (u263004 : Value).ownBlock ∧ some k_ ≠ (u263005 : Value).ownBlock ∧ some k_ ≠ (u263006 : Value).ownBlock)) (by (with_reducible repeat (first | apply Kd.R_alloc | apply Kd.R_drewN | apply Kd.R_drew)); exact Kd.R_mono HO_278004.out (fun _ hk => ⟨⟨hk.1, ⟨hk.2.1, ⟨hk.2.2.1, ⟨hk.2.2.2.1, ⟨hk.2.2.2.2.1, ⟨hk.2.2.2.2.2.1, hk.2.2.2.2.2.2.1⟩⟩⟩⟩⟩⟩, hk.2.2.2.2.2.2.2⟩)) hg (.inl rfl)); have n8_ := As0 (Kd.V_afterv (v := (.slice (some ⟨go73, 0, none⟩) x278006_3.length co78)) (v1 := (.slice (some ⟨go73, 0, none⟩) x278006_3.length co78)) (ok := (fun k_ => some k_ ≠ (.slice Ao29 x7_3.length co29 : Value).ownBlock ∧ some k_ ≠ (u248004 : Value).ownBlock ∧ some k_ ≠ (u248005 : Value).ownBlock ∧ some k_ ≠ (u248006 : Value).ownBlock ∧ some k_ ≠ (u263004 : Value).ownBlock ∧ some k_ ≠ (u263005 : Value).ownBlock ∧ some k_ ≠ (u263006 : Value).ownBlock ∧ some k_ ≠ (u278004 : Value).ownBlock ∧ k_ ≠ gb222 ∧ k_ ≠ gb247 ∧ k_ ≠ gb262 ∧ k_ ≠ gb277)) (by (with_reducible repeat (first | apply Kd.V_alloc | apply Kd.V_drewN | apply Kd.V_drew)); exact Kd.V_mono HO_278005.out (fun _ hk => ⟨⟨hk.1, ⟨hk.2.1, ⟨hk.2.2.1, ⟨hk.2.2.2.1, ⟨hk.2.2.2.2.1, ⟨hk.2.2.2.2.2.1, ⟨hk.2.2.2.2.2.2.1, ⟨hk.2.2.2.2.2.2.2.1, ⟨hk.2.2.2.2.2.2.2.2.2.1, ⟨hk.2.2.2.2.2.2.2.2.2.2.1, ⟨hk.2.2.2.2.2.2.2.2.2.2.2.1, hk.2.2.2.2.2.2.2.2.2.2.2.2⟩⟩⟩⟩⟩⟩⟩⟩⟩⟩⟩, hk.2.2.2.2.2.2.2.2.1⟩)) hg (.inl rfl)); have n9_ := As0 (hp_); have n10_ := As0 (blk_grown (g := gb222) (o := .cells #[.int .i64 a0_0, .int .i64 a0_1, .slice A0_2 l0_2.length c0_2] 34 (0, 0)) (by (with_reducible repeat (first | refine blk_drewN ?_ _ | refine blk_drew ?_ | refine blk_alloc ?_ _)); exact BK222.out) hg (Kd.R_ne HO_278006.out BK222.out (by decide))); have n11_ := As0 (blk_grown (g := gb247) (o := .cells #[.int .i64 t232, .int .i64 t233, .int .i64 t234, .int .i64 t235, u248004, u248005, u248006, .int .i64 t245] 39 (0, 0)) (by (with_reducible repeat (first | refine blk_drewN ?_ _ | refine blk_drew ?_ | refine blk_alloc ?_ _)); exact BK247.out) hg (Kd.R_ne HO_278006.out BK247.out (by decide))); have n12_ := As0 (blk_grown (g := gb262) (o := .cells #[.int .i64 t248, .int .i64 t249, .int .i64 t250, .int .i64 t251, u263004, u263005, u263006, .int .i64 t261] 39 (0, 0)) (by (with_reducible repeat (first | refine blk_drewN ?_ _ | refine blk_drew ?_ | refine blk_alloc ?_ _)); exact BK262.out) hg (Kd.R_ne HO_278006.out BK262.out (by decide))); have n13_ := As0 (blk_grown (g := gb277) (o := .cells #[.int .i64 t263, .int .i64 t264, .int .i64 t265, .int .i64 t266, u278004, u278005, .slice (some ⟨go73, 0, none⟩) x278006_3.length co78, .int .i64 t276] 39 (0, 0)) (by (with_reducible repeat (first | refine blk_drewN ?_ _ | refine blk_drew ?_ | refine blk_alloc ?_ _)); exact BK277.out) hg (Kd.R_ne HO_278006.out BK277.out (by decide))); have n14_ := As0 ((by rw [hw]; exact below_set (HB.out) GB73.out : Below w.heap.size w w80)); clear HO_7; clear HO_248004; clear HO_248005; clear HO_248006; clear HO_263004; clear HO_263005; clear HO_263006; clear HO_278004; clear HO_278005; clear HO_278006; clear BK222; clear BK247; clear BK262; clear BK277; clear HB; have HO_7 := n0_; have HO_248004 := n1_; have HO_248005 := n2_; have HO_248006 := n3_; have HO_263004 := n4_; have HO_263005 := n5_; have HO_263006 := n6_; have HO_278004 := n7_; have HO_278005 := n8_; have HO_278006 := n9_; have BK222 := n10_; have BK247 := n11_; have BK262 := n12_; have BK277 := n13_; have HB := n14_; clear n0_ n1_ n2_ n3_ n4_ n5_ n6_ n7_ n8_ n9_ n10_ n11_ n12_ n13_ n14_; clear hg hw hp_))
            (try simp only [← hl7_3])
            go_roundg k3
            case measure => have := HJ3.out; have := HK2.out; have := HK3.out; omega
            case rel => exact ⟨(x7_3), (wrap64 (x13_3 + 1)), (x248004_3), (x248005_3), (x248006_3), (x263004_3), (x263005_3), (x263006_3), (x278004_3), (x278005_3), (y281), (u248004), (u248005), (u248006), (u263004), (u263005), (u263006), (u278004), (u278005), (.slice (some ⟨go73, 0, none⟩) x278006_3.length co78), (by first | rfl | (simp; done) | (simp [*]; done)), H', ⟨by have := HJ3.out; have := HK2.out; have := HK3.out; omega⟩, ⟨by (try simp only [hl7_2]); (try simp only [hl7_3]); (with_reducible repeat (first | apply Kd.R_alloc | apply Kd.R_drewN | apply Kd.R_drew)); exact Kd.R_mono HO_7.out (fun _ hk => ⟨hk.1.1, ⟨hk.1.2.1, ⟨hk.1.2.2.1, ⟨hk.1.2.2.2.1, ⟨hk.1.2.2.2.2.1, ⟨hk.1.2.2.2.2.2.1, ⟨hk.1.2.2.2.2.2.2, hk.2⟩⟩⟩⟩⟩⟩⟩)⟩, ⟨by (try simp only [hl7_2]); (try simp only [hl7_3]); (with_reducible repeat (first | apply Kd.R_alloc | apply Kd.R_drewN | apply Kd.R_drew)); exact Kd.R_mono HO_248004.out (fun _ hk => ⟨hk.1.1, ⟨hk.1.2.1, ⟨hk.1.2.2.1, ⟨hk.1.2.2.2.1, ⟨hk.1.2.2.2.2.1, ⟨hk.1.2.2.2.2.2.1, ⟨hk.1.2.2.2.2.2.2, hk.2⟩⟩⟩⟩⟩⟩⟩)⟩, ⟨by (try simp only [hl7_2]); (try simp only [hl7_3]); (with_reducible repeat (first | apply Kd.R_alloc | apply Kd.R_drewN | apply Kd.R_drew)); exact Kd.R_mono HO_248005.out (fun _ hk => ⟨hk.1.1, ⟨hk.1.2.1, ⟨hk.1.2.2.1, ⟨hk.1.2.2.2.1, ⟨hk.1.2.2.2.2.1, ⟨hk.1.2.2.2.2.2.1, ⟨hk.1.2.2.2.2.2.2, hk.2⟩⟩⟩⟩⟩⟩⟩)⟩, ⟨by (try simp only [hl7_2]); (try simp only [hl7_3]); (with_reducible repeat (first | apply Kd.R_alloc | apply Kd.R_drewN | apply Kd.R_drew)); exact Kd.R_mono HO_248006.out (fun _ hk => ⟨hk.1.1, ⟨hk.1.2.1, ⟨hk.1.2.2.1, ⟨hk.1.2.2.2.1, ⟨hk.1.2.2.2.2.1, ⟨hk.1.2.2.2.2.2.1, ⟨hk.1.2.2.2.2.2.2, hk.2⟩⟩⟩⟩⟩⟩⟩)⟩, ⟨by (try simp only [hl7_2]); (try simp only [hl7_3]); (with_reducible repeat (first | apply Kd.R_alloc | apply Kd.R_drewN | apply Kd.R_drew)); exact Kd.R_mono HO_263004.out (fun _ hk => ⟨hk.1.1, ⟨hk.1.2.1, ⟨hk.1.2.2.1, ⟨hk.1.2.2.2.1, ⟨hk.1.2.2.2.2.1, ⟨hk.1.2.2.2.2.2.1, ⟨hk.1.2.2.2.2.2.2, hk.2⟩⟩⟩⟩⟩⟩⟩)⟩, ⟨by (try simp only [hl7_2]); (try simp only [hl7_3]); (with_reducible repeat (first | apply Kd.R_alloc | apply Kd.R_drewN | apply Kd.R_drew)); exact Kd.R_mono HO_263005.out (fun _ hk => ⟨hk.1.1, ⟨hk.1.2.1, ⟨hk.1.2.2.1, ⟨hk.1.2.2.2.1, ⟨hk.1.2.2.2.2.1, ⟨hk.1.2.2.2.2.2.1, ⟨hk.1.2.2.2.2.2.2, hk.2⟩⟩⟩⟩⟩⟩⟩)⟩, ⟨by (try simp only [hl7_2]); (try simp only [hl7_3]); (with_reducible repeat (first | apply Kd.R_alloc | apply Kd.R_drewN | apply Kd.R_drew)); exact Kd.R_mono HO_263006.out (fun _ hk => ⟨hk.1.1, ⟨hk.1.2.1, ⟨hk.1.2.2.1, ⟨hk.1.2.2.2.1, ⟨hk.1.2.2.2.2.1, ⟨hk.1.2.2.2.2.2.1, ⟨hk.1.2.2.2.2.2.2, hk.2⟩⟩⟩⟩⟩⟩⟩)⟩, ⟨by (try simp only [hl7_2]); (try simp only [hl7_3]); (with_reducible repeat (first | apply Kd.R_alloc | apply Kd.R_drewN | apply Kd.R_drew)); exact Kd.R_mono HO_278004.out (fun _ hk => ⟨hk.1.1, ⟨hk.1.2.1, ⟨hk.1.2.2.1, ⟨hk.1.2.2.2.1, ⟨hk.1.2.2.2.2.1, ⟨hk.1.2.2.2.2.2.1, ⟨hk.1.2.2.2.2.2.2, hk.2⟩⟩⟩⟩⟩⟩⟩)⟩, ⟨by (try simp only [hl7_2]); (try simp only [hl7_3]); (with_reducible repeat (first | apply Kd.V_alloc | apply Kd.V_drewN | apply Kd.V_drew)); exact Kd.V_mono HO_278005.out (fun _ hk => ⟨hk.1.1, ⟨hk.1.2.1, ⟨hk.1.2.2.1, ⟨hk.1.2.2.2.1, ⟨hk.1.2.2.2.2.1, ⟨hk.1.2.2.2.2.2.1, ⟨hk.1.2.2.2.2.2.2.1, ⟨hk.1.2.2.2.2.2.2.2.1, ⟨hk.2, ⟨hk.1.2.2.2.2.2.2.2.2.1, ⟨hk.1.2.2.2.2.2.2.2.2.2.1, ⟨hk.1.2.2.2.2.2.2.2.2.2.2.1, hk.1.2.2.2.2.2.2.2.2.2.2.2⟩⟩⟩⟩⟩⟩⟩⟩⟩⟩⟩⟩)⟩, ⟨by (try simp only [hl7_2]); (try simp only [hl7_3]); (with_reducible repeat (first | apply Kd.R_alloc | apply Kd.R_drewN | apply Kd.R_drew)); exact HO_278006.out⟩, ⟨by (try simp only [hl7_2]); (try simp only [hl7_3]); (with_reducible repeat (first | refine blk_drewN ?_ _ | refine blk_drew ?_ | refine blk_alloc ?_ _)); exact BK222.out⟩, ⟨by (try simp only [hl7_2]); (try simp only [hl7_3]); (with_reducible repeat (first | refine blk_drewN ?_ _ | refine blk_drew ?_ | refine blk_alloc ?_ _)); exact BK247.out⟩, ⟨by (try simp only [hl7_2]); (try simp only [hl7_3]); (with_reducible repeat (first | refine blk_drewN ?_ _ | refine blk_drew ?_ | refine blk_alloc ?_ _)); exact BK262.out⟩, ⟨by (try simp only [hl7_2]); (try simp only [hl7_3]); (with_reducible repeat (first | refine blk_drewN ?_ _ | refine blk_drew ?_ | refine blk_alloc ?_ _)); exact BK277.out⟩, ⟨by repeat (first | (with_reducible first | exact HB.out | apply below_alloc | apply bdN | apply bd1 | refine below_set ?_ GE222.out | refine below_set ?_ GE247.out | refine below_set ?_ GE262.out | refine below_set ?_ GE277.out) | exact HB.out)⟩⟩
           ·rw [if_neg c72] at H
            exact absurd H (by simp)
          ·rw [if_neg c71] at H
           have c71b0 : decide (x13_3 < (x278006_3.length : Int)) = false := decide_eq_false c71
           clear c71
           replace H := Option.bind_eq_some_iff.mp H
           obtain ⟨t282, A810, H⟩ := H
           replace H : (regcertlaw09_InterpKeeps.l2 k3 l1 x7_3 t282 0 t232 t233 t234 t235 x248004_3 x248005_3 x248006_3 t245) = some r := H
           have A81 := As0 A810
           clear A810
           have H' := As0 H
           clear H
           have hnb82 := NB277_222.out
           have hnc82 := NB222_277.out
           have hnb83 := NB277_247.out
           have hnc83 := NB247_277.out
           have hnb84 := NB277_262.out
           have hnc84 := NB262_277.out
           have hcz85_0 : wr.cell? ⟨gb277, 0, none⟩ = some (.int .i64 t263) := (blk_cell BK277.out 0).trans rfl
           have hcz85_1 : wr.cell? ⟨gb277, 1, none⟩ = some (.int .i64 t264) := (blk_cell BK277.out 1).trans rfl
           have hcz85_2 : wr.cell? ⟨gb277, 2, none⟩ = some (.int .i64 t265) := (blk_cell BK277.out 2).trans rfl
           have hcz85_3 : wr.cell? ⟨gb277, 3, none⟩ = some (.int .i64 t266) := (blk_cell BK277.out 3).trans rfl
           have hcz85_4 : wr.cell? ⟨gb277, 4, none⟩ = some (u278004) := (blk_cell BK277.out 4).trans rfl
           have hcz85_5 : wr.cell? ⟨gb277, 5, none⟩ = some (u278005) := (blk_cell BK277.out 5).trans rfl
           have hcz85_6 : wr.cell? ⟨gb277, 6, none⟩ = some (u278006) := (blk_cell BK277.out 6).trans rfl
           have hcz85_7 : wr.cell? ⟨gb277, 7, none⟩ = some (.int .i64 t276) := (blk_cell BK277.out 7).trans rfl
           have hfz85_0 := blk_frozen BK277.out 0
           have hfz85_1 := blk_frozen BK277.out 1
           have hfz85_2 := blk_frozen BK277.out 2
           have hfz85_3 := blk_frozen BK277.out 3
           have hfz85_4 := blk_frozen BK277.out 4
           have hfz85_5 := blk_frozen BK277.out 5
           have hfz85_6 := blk_frozen BK277.out 6
           have hfz85_7 := blk_frozen BK277.out 7
           obtain ⟨Ao86, co86, eo86⟩ := Kd.R_slice HO_278006.out
           subst eo86
           have hnb87 := NB247_222.out
           have hnc87 := NB222_247.out
           have hnb88 := NB247_262.out
           have hnc88 := NB262_247.out
           have hcz89_0 : wr.cell? ⟨gb247, 0, none⟩ = some (.int .i64 t232) := (blk_cell BK247.out 0).trans rfl
           have hcz89_1 : wr.cell? ⟨gb247, 1, none⟩ = some (.int .i64 t233) := (blk_cell BK247.out 1).trans rfl
           have hcz89_2 : wr.cell? ⟨gb247, 2, none⟩ = some (.int .i64 t234) := (blk_cell BK247.out 2).trans rfl
           have hcz89_3 : wr.cell? ⟨gb247, 3, none⟩ = some (.int .i64 t235) := (blk_cell BK247.out 3).trans rfl
           have hcz89_4 : wr.cell? ⟨gb247, 4, none⟩ = some (u248004) := (blk_cell BK247.out 4).trans rfl
           have hcz89_5 : wr.cell? ⟨gb247, 5, none⟩ = some (u248005) := (blk_cell BK247.out 5).trans rfl
           have hcz89_6 : wr.cell? ⟨gb247, 6, none⟩ = some (u248006) := (blk_cell BK247.out 6).trans rfl
           have hcz89_7 : wr.cell? ⟨gb247, 7, none⟩ = some (.int .i64 t245) := (blk_cell BK247.out 7).trans rfl
           have hfz89_0 := blk_frozen BK247.out 0
           have hfz89_1 := blk_frozen BK247.out 1
           have hfz89_2 := blk_frozen BK247.out 2
           have hfz89_3 := blk_frozen BK247.out 3
           have hfz89_4 := blk_frozen BK247.out 4
           have hfz89_5 := blk_frozen BK247.out 5
           have hfz89_6 := blk_frozen BK247.out 6
           have hfz89_7 := blk_frozen BK247.out 7
           have hnb90 := NB262_222.out
           have hnc90 := NB222_262.out
           have hcz91_0 : wr.cell? ⟨gb262, 0, none⟩ = some (.int .i64 t248) := (blk_cell BK262.out 0).trans rfl
           have hcz91_1 : wr.cell? ⟨gb262, 1, none⟩ = some (.int .i64 t249) := (blk_cell BK262.out 1).trans rfl
           have hcz91_2 : wr.cell? ⟨gb262, 2, none⟩ = some (.int .i64 t250) := (blk_cell BK262.out 2).trans rfl
           have hcz91_3 : wr.cell? ⟨gb262, 3, none⟩ = some (.int .i64 t251) := (blk_cell BK262.out 3).trans rfl
           have hcz91_4 : wr.cell? ⟨gb262, 4, none⟩ = some (u263004) := (blk_cell BK262.out 4).trans rfl
           have hcz91_5 : wr.cell? ⟨gb262, 5, none⟩ = some (u263005) := (blk_cell BK262.out 5).trans rfl
           have hcz91_6 : wr.cell? ⟨gb262, 6, none⟩ = some (u263006) := (blk_cell BK262.out 6).trans rfl
           have hcz91_7 : wr.cell? ⟨gb262, 7, none⟩ = some (.int .i64 t261) := (blk_cell BK262.out 7).trans rfl
           have hfz91_0 := blk_frozen BK262.out 0
           have hfz91_1 := blk_frozen BK262.out 1
           have hfz91_2 := blk_frozen BK262.out 2
           have hfz91_3 := blk_frozen BK262.out 3
           have hfz91_4 := blk_frozen BK262.out 4
           have hfz91_5 := blk_frozen BK262.out 5
           have hfz91_6 := blk_frozen BK262.out 6
           have hfz91_7 := blk_frozen BK262.out 7
           obtain ⟨Ao92, co92, eo92⟩ := Kd.R_slice HO_248004.out
           subst eo92
           obtain ⟨Ao93, co93, eo93⟩ := Kd.R_slice HO_248005.out
           subst eo93
           obtain ⟨Ao94, co94, eo94⟩ := Kd.R_slice HO_248006.out
           subst eo94
           obtain ⟨Ao95, co95, eo95⟩ := Kd.R_slice HO_263004.out
           subst eo95
           obtain ⟨Ao96, co96, eo96⟩ := Kd.R_slice HO_263005.out
           subst eo96
           obtain ⟨Ao97, co97, eo97⟩ := Kd.R_slice HO_263006.out
           subst eo97
           go_wp2_with (first | ((with_reducible refine gate_callee (f := 33) rfl ?_); refine goesL_ (some 79) rfl rfl Try.func33 (by kernel_rfl) rfl #[.agg #[.int .i64 t232, .int .i64 t233, .int .i64 t234, .int .i64 t235, .slice Ao92 x248004_3.length co92, .slice Ao93 x248005_3.length co93, .slice Ao94 x248006_3.length co94, .int .i64 t245], .agg #[.int .i64 t248, .int .i64 t249, .int .i64 t250, .int .i64 t251, .slice Ao95 x263004_3.length co95, .slice Ao96 x263005_3.length co96, .slice Ao97 x263006_3.length co97, .int .i64 t261]] rfl (by (try simp only [List.map_toArray, List.map_cons, List.map_nil]); first | done | rfl | (simp only [List.length_drop, List.length_take]; rfl)) ?_; (with_reducible refine (regcertref09_Same.calls k3 t232 t233 t234 t235 _ _ x248004_3 _ _ x248005_3 _ _ x248006_3 t245 t248 t249 t250 t251 _ _ x263004_3 _ _ x263005_3 _ _ x263006_3 t261 t282 _ ?side1 ?side2 ?side3 ?side4 ?side5 ?side6 ?side7 ?side8 ?side9 ?side10 ?side11 ?side12 A81.out).mono ?_); (case side1 => repeat (first | exact (Kd.R_reads' HO_248004.out).2.2 | (with_reducible refine Kd.C_alloc ?_ _) | (with_reducible refine Kd.C_drewN ?_ _) | (with_reducible refine Kd.C_drew ?_))); (case side2 => exact (Kd.R_reads' HO_248004.out).2.1); (case side3 => repeat (first | exact (Kd.R_reads' HO_248005.out).2.2 | (with_reducible refine Kd.C_alloc ?_ _) | (with_reducible refine Kd.C_drewN ?_ _) | (with_reducible refine Kd.C_drew ?_))); (case side4 => exact (Kd.R_reads' HO_248005.out).2.1); (case side5 => repeat (first | exact (Kd.R_reads' HO_248006.out).2.2 | (with_reducible refine Kd.C_alloc ?_ _) | (with_reducible refine Kd.C_drewN ?_ _) | (with_reducible refine Kd.C_drew ?_))); (case side6 => exact (Kd.R_reads' HO_248006.out).2.1); (case side7 => repeat (first | exact (Kd.R_reads' HO_263004.out).2.2 | (with_reducible refine Kd.C_alloc ?_ _) | (with_reducible refine Kd.C_drewN ?_ _) | (with_reducible refine Kd.C_drew ?_))); (case side8 => exact (Kd.R_reads' HO_263004.out).2.1); (case side9 => repeat (first | exact (Kd.R_reads' HO_263005.out).2.2 | (with_reducible refine Kd.C_alloc ?_ _) | (with_reducible refine Kd.C_drewN ?_ _) | (with_reducible refine Kd.C_drew ?_))); (case side10 => exact (Kd.R_reads' HO_263005.out).2.1); (case side11 => repeat (first | exact (Kd.R_reads' HO_263006.out).2.2 | (with_reducible refine Kd.C_alloc ?_ _) | (with_reducible refine Kd.C_drewN ?_ _) | (with_reducible refine Kd.C_drew ?_))); (case side12 => exact (Kd.R_reads' HO_263006.out).2.1); rintro e w98 ⟨rfl, hb⟩; refine ⟨_, rfl, ?_⟩; have n0_ := As0 (Kd.R_below (by (with_reducible repeat (first | apply Kd.R_alloc | apply Kd.R_drewN | apply Kd.R_drew)); exact HO_7.out) hb); have n1_ := As0 (Kd.R_below (by (with_reducible repeat (first | apply Kd.R_alloc | apply Kd.R_drewN | apply Kd.R_drew)); exact HO_248004.out) hb); have n2_ := As0 (Kd.R_below (by (with_reducible repeat (first | apply Kd.R_alloc | apply Kd.R_drewN | apply Kd.R_drew)); exact HO_248005.out) hb); have n3_ := As0 (Kd.R_below (by (with_reducible repeat (first | apply Kd.R_alloc | apply Kd.R_drewN | apply Kd.R_drew)); exact HO_248006.out) hb); have n4_ := As0 (Kd.R_below (by (with_reducible repeat (first | apply Kd.R_alloc | apply Kd.R_drewN | apply Kd.R_drew)); exact HO_263004.out) hb); have n5_ := As0 (Kd.R_below (by (with_reducible repeat (first | apply Kd.R_alloc | apply Kd.R_drewN | apply Kd.R_drew)); exact HO_263005.out) hb); have n6_ := As0 (Kd.R_below (by (with_reducible repeat (first | apply Kd.R_alloc | apply Kd.R_drewN | apply Kd.R_drew)); exact HO_263006.out) hb); have n7_ := As0 (Kd.R_below (by (with_reducible repeat (first | apply Kd.R_alloc | apply Kd.R_drewN | apply Kd.R_drew)); exact HO_278004.out) hb); have n8_ := As0 (Kd.V_below (by (with_reducible repeat (first | apply Kd.V_alloc | apply Kd.V_drewN | apply Kd.V_drew)); exact HO_278005.out) hb); have n9_ := As0 (Kd.R_below (by (with_reducible repeat (first | apply Kd.R_alloc | apply Kd.R_drewN | apply Kd.R_drew)); exact HO_278006.out) hb); have n10_ := As0 (blk_below (g := gb222) (o := .cells #[.int .i64 a0_0, .int .i64 a0_1, .slice A0_2 l0_2.length c0_2] 34 (0, 0)) (by (with_reducible repeat (first | refine blk_drewN ?_ _ | refine blk_drew ?_ | refine blk_alloc ?_ _)); exact BK222.out) hb); have n11_ := As0 (blk_below (g := gb247) (o := .cells #[.int .i64 t232, .int .i64 t233, .int .i64 t234, .int .i64 t235, .slice Ao92 x248004_3.length co92, .slice Ao93 x248005_3.length co93, .slice Ao94 x248006_3.length co94, .int .i64 t245] 39 (0, 0)) (by (with_reducible repeat (first | refine blk_drewN ?_ _ | refine blk_drew ?_ | refine blk_alloc ?_ _)); exact BK247.out) hb); have n12_ := As0 (blk_below (g := gb262) (o := .cells #[.int .i64 t248, .int .i64 t249, .int .i64 t250, .int .i64 t251, .slice Ao95 x263004_3.length co95, .slice Ao96 x263005_3.length co96, .slice Ao97 x263006_3.length co97, .int .i64 t261] 39 (0, 0)) (by (with_reducible repeat (first | refine blk_drewN ?_ _ | refine blk_drew ?_ | refine blk_alloc ?_ _)); exact BK262.out) hb); have n13_ := As0 (blk_below (g := gb277) (o := .cells #[.int .i64 t263, .int .i64 t264, .int .i64 t265, .int .i64 t266, u278004, u278005, .slice Ao86 x278006_3.length co86, .int .i64 t276] 39 (0, 0)) (by (with_reducible repeat (first | refine blk_drewN ?_ _ | refine blk_drew ?_ | refine blk_alloc ?_ _)); exact BK277.out) hb); have n14_ := As0 (below_step (by repeat (first | (with_reducible first | exact HB.out | apply below_alloc | apply bdN | apply bd1 | refine below_set ?_ GE222.out | refine below_set ?_ GE247.out | refine below_set ?_ GE262.out | refine below_set ?_ GE277.out) | exact HB.out)) hb); clear HO_7; clear HO_248004; clear HO_248005; clear HO_248006; clear HO_263004; clear HO_263005; clear HO_263006; clear HO_278004; clear HO_278005; clear HO_278006; clear BK222; clear BK247; clear BK262; clear BK277; clear HB; have HO_7 := n0_; have HO_248004 := n1_; have HO_248005 := n2_; have HO_248006 := n3_; have HO_263004 := n4_; have HO_263005 := n5_; have HO_263006 := n6_; have HO_278004 := n7_; have HO_278005 := n8_; have HO_278006 := n9_; have BK222 := n10_; have BK247 := n11_; have BK262 := n12_; have BK277 := n13_; have HB := n14_; clear n0_ n1_ n2_ n3_ n4_ n5_ n6_ n7_ n8_ n9_ n10_ n11_ n12_ n13_ n14_; (try clear hb); (try clear hb2); (try clear hk); (try clear hi)))
           go_loopg [15] k3 (fun kq v15 w' => ∃ (x7_4 : List Int) (x15_4 : Int) (x248004_4 : List Int) (x248005_4 : List Int) (x248006_4 : List Int) (x263004_4 : List Int) (x263005_4 : List Int) (x263006_4 : List Int) (x278004_4 : List Int) (x278005_4 : List Int) (x278006_4 : List Int) (u248004 : Value) (u248005 : Value) (u248006 : Value) (u263004 : Value) (u263005 : Value) (u263006 : Value) (u278004 : Value) (u278005 : Value) (u278006 : Value), v15 = .int .i64 x15_4 ∧ Aside0 (regcertlaw09_InterpKeeps.l2 kq l1 x7_4 t282 x15_4 t232 t233 t234 t235 x248004_4 x248005_4 x248006_4 t245 = some r) ∧ Aside0 (kq ≤ k3) ∧ Aside0 (Kd.R (Kd.int .i64) 2 w' w.heap.size (fun k_ => some k_ ≠ (u248004 : Value).ownBlock ∧ some k_ ≠ (u248005 : Value).ownBlock ∧ some k_ ≠ (u248006 : Value).ownBlock ∧ some k_ ≠ (u263004 : Value).ownBlock ∧ some k_ ≠ (u263005 : Value).ownBlock ∧ some k_ ≠ (u263006 : Value).ownBlock ∧ some k_ ≠ (u278004 : Value).ownBlock ∧ some k_ ≠ (u278006 : Value).ownBlock) (.slice Ao29 x7_3.length co29) x7_4) ∧ Aside0 (Kd.R (Kd.int .i64) 2 w' w.heap.size (fun k_ => some k_ ≠ ((.slice Ao29 x7_3.length co29) : Value).ownBlock ∧ some k_ ≠ (u248005 : Value).ownBlock ∧ some k_ ≠ (u248006 : Value).ownBlock ∧ some k_ ≠ (u263004 : Value).ownBlock ∧ some k_ ≠ (u263005 : Value).ownBlock ∧ some k_ ≠ (u263006 : Value).ownBlock ∧ some k_ ≠ (u278004 : Value).ownBlock ∧ some k_ ≠ (u278006 : Value).ownBlock) u248004 x248004_4) ∧ Aside0 (Kd.R (Kd.int .i64) 2 w' w.heap.size (fun k_ => some k_ ≠ ((.slice Ao29 x7_3.length co29) : Value).ownBlock ∧ some k_ ≠ (u248004 : Value).ownBlock ∧ some k_ ≠ (u248006 : Value).ownBlock ∧ some k_ ≠ (u263004 : Value).ownBlock ∧ some k_ ≠ (u263005 : Value).ownBlock ∧ some k_ ≠ (u263006 : Value).ownBlock ∧ some k_ ≠ (u278004 : Value).ownBlock ∧ some k_ ≠ (u278006 : Value).ownBlock) u248005 x248005_4) ∧ Aside0 (Kd.R (Kd.int .i64) 2 w' w.heap.size (fun k_ => some k_ ≠ ((.slice Ao29 x7_3.length co29) : Value).ownBlock ∧ some k_ ≠ (u248004 : Value).ownBlock ∧ some k_ ≠ (u248005 : Value).ownBlock ∧ some k_ ≠ (u263004 : Value).ownBlock ∧ some k_ ≠ (u263005 : Value).ownBlock ∧ some k_ ≠ (u263006 : Value).ownBlock ∧ some k_ ≠ (u278004 : Value).ownBlock ∧ some k_ ≠ (u278006 : Value).ownBlock) u248006 x248006_4) ∧ Aside0 (Kd.R (Kd.int .i64) 2 w' w.heap.size (fun k_ => some k_ ≠ ((.slice Ao29 x7_3.length co29) : Value).ownBlock ∧ some k_ ≠ (u248004 : Value).ownBlock ∧ some k_ ≠ (u248005 : Value).ownBlock ∧ some k_ ≠ (u248006 : Value).ownBlock ∧ some k_ ≠ (u263005 : Value).ownBlock ∧ some k_ ≠ (u263006 : Value).ownBlock ∧ some k_ ≠ (u278004 : Value).ownBlock ∧ some k_ ≠ (u278006 : Value).ownBlock) u263004 x263004_4) ∧ Aside0 (Kd.R (Kd.int .i64) 2 w' w.heap.size (fun k_ => some k_ ≠ ((.slice Ao29 x7_3.length co29) : Value).ownBlock ∧ some k_ ≠ (u248004 : Value).ownBlock ∧ some k_ ≠ (u248005 : Value).ownBlock ∧ some k_ ≠ (u248006 : Value).ownBlock ∧ some k_ ≠ (u263004 : Value).ownBlock ∧ some k_ ≠ (u263006 : Value).ownBlock ∧ some k_ ≠ (u278004 : Value).ownBlock ∧ some k_ ≠ (u278006 : Value).ownBlock) u263005 x263005_4) ∧ Aside0 (Kd.R (Kd.int .i64) 2 w' w.heap.size (fun k_ => some k_ ≠ ((.slice Ao29 x7_3.length co29) : Value).ownBlock ∧ some k_ ≠ (u248004 : Value).ownBlock ∧ some k_ ≠ (u248005 : Value).ownBlock ∧ some k_ ≠ (u248006 : Value).ownBlock ∧ some k_ ≠ (u263004 : Value).ownBlock ∧ some k_ ≠ (u263005 : Value).ownBlock ∧ some k_ ≠ (u278004 : Value).ownBlock ∧ some k_ ≠ (u278006 : Value).ownBlock) u263006 x263006_4) ∧ Aside0 (Kd.R (Kd.int .i64) 2 w' w.heap.size (fun k_ => some k_ ≠ ((.slice Ao29 x7_3.length co29) : Value).ownBlock ∧ some k_ ≠ (u248004 : Value).ownBlock ∧ some k_ ≠ (u248005 : Value).ownBlock ∧ some k_ ≠ (u248006 : Value).ownBlock ∧ some k_ ≠ (u263004 : Value).ownBlock ∧ some k_ ≠ (u263005 : Value).ownBlock ∧ some k_ ≠ (u263006 : Value).ownBlock ∧ some k_ ≠ (u278006 : Value).ownBlock) u278004 x278004_4) ∧ Aside0 (Kd.V (Kd.int .i64) 2 w' w.heap.size (fun k_ => some k_ ≠ ((.slice Ao29 x7_3.length co29) : Value).ownBlock ∧ some k_ ≠ (u248004 : Value).ownBlock ∧ some k_ ≠ (u248005 : Value).ownBlock ∧ some k_ ≠ (u248006 : Value).ownBlock ∧ some k_ ≠ (u263004 : Value).ownBlock ∧ some k_ ≠ (u263005 : Value).ownBlock ∧ some k_ ≠ (u263006 : Value).ownBlock ∧ some k_ ≠ (u278004 : Value).ownBlock ∧ some k_ ≠ (u278006 : Value).ownBlock ∧ k_ ≠ gb222 ∧ k_ ≠ gb247 ∧ k_ ≠ gb262 ∧ k_ ≠ gb277) u278005 x278005_4) ∧ Aside0 (Kd.R (Kd.int .i64) 2 w' w.heap.size (fun k_ => some k_ ≠ ((.slice Ao29 x7_3.length co29) : Value).ownBlock ∧ some k_ ≠ (u248004 : Value).ownBlock ∧ some k_ ≠ (u248005 : Value).ownBlock ∧ some k_ ≠ (u248006 : Value).ownBlock ∧ some k_ ≠ (u263004 : Value).ownBlock ∧ some k_ ≠ (u263005 : Value).ownBlock ∧ some k_ ≠ (u263006 : Value).ownBlock ∧ some k_ ≠ (u278004 : Value).ownBlock) u278006 x278006_4) ∧ Aside0 (w'.heap[gb222]? = some (.cells #[.int .i64 a0_0, .int .i64 a0_1, (.slice A0_2 l0_2.length c0_2)] 34 (0, 0))) ∧ Aside0 (w'.heap[gb247]? = some (.cells #[.int .i64 t232, .int .i64 t233, .int .i64 t234, .int .i64 t235, u248004, u248005, u248006, .int .i64 t245] 39 (0, 0))) ∧ Aside0 (w'.heap[gb262]? = some (.cells #[.int .i64 t248, .int .i64 t249, .int .i64 t250, .int .i64 t251, u263004, u263005, u263006, .int .i64 t261] 39 (0, 0))) ∧ Aside0 (w'.heap[gb277]? = some (.cells #[.int .i64 t263, .int .i64 t264, .int .i64 t265, .int .i64 t266, u278004, u278005, u278006, .int .i64 t276] 39 (0, 0))) ∧ Aside0 (Below w.heap.size w w'))
           case atStart => exact ⟨(x7_3), (0), (x248004_3), (x248005_3), (x248006_3), (x263004_3), (x263005_3), (x263006_3), (x278004_3), (x278005_3), (x278006_3), (.slice Ao92 x248004_3.length co92), (.slice Ao93 x248005_3.length co93), (.slice Ao94 x248006_3.length co94), (.slice Ao95 x263004_3.length co95), (.slice Ao96 x263005_3.length co96), (.slice Ao97 x263006_3.length co97), (u278004), (u278005), (.slice Ao86 x278006_3.length co86), (by first | rfl | (simp; done) | (simp [*]; done)), H', ⟨Nat.le_refl _⟩, ⟨by (try simp only [hl7_2]); (try simp only [hl7_3]); (with_reducible repeat (first | apply Kd.R_alloc | apply Kd.R_drewN | apply Kd.R_drew)); exact HO_7.out⟩, ⟨by (try simp only [hl7_2]); (try simp only [hl7_3]); (with_reducible repeat (first | apply Kd.R_alloc | apply Kd.R_drewN | apply Kd.R_drew)); exact HO_248004.out⟩, ⟨by (try simp only [hl7_2]); (try simp only [hl7_3]); (with_reducible repeat (first | apply Kd.R_alloc | apply Kd.R_drewN | apply Kd.R_drew)); exact HO_248005.out⟩, ⟨by (try simp only [hl7_2]); (try simp only [hl7_3]); (with_reducible repeat (first | apply Kd.R_alloc | apply Kd.R_drewN | apply Kd.R_drew)); exact HO_248006.out⟩, ⟨by (try simp only [hl7_2]); (try simp only [hl7_3]); (with_reducible repeat (first | apply Kd.R_alloc | apply Kd.R_drewN | apply Kd.R_drew)); exact HO_263004.out⟩, ⟨by (try simp only [hl7_2]); (try simp only [hl7_3]); (with_reducible repeat (first | apply Kd.R_alloc | apply Kd.R_drewN | apply Kd.R_drew)); exact HO_263005.out⟩, ⟨by (try simp only [hl7_2]); (try simp only [hl7_3]); (with_reducible repeat (first | apply Kd.R_alloc | apply Kd.R_drewN | apply Kd.R_drew)); exact HO_263006.out⟩, ⟨by (try simp only [hl7_2]); (try simp only [hl7_3]); (with_reducible repeat (first | apply Kd.R_alloc | apply Kd.R_drewN | apply Kd.R_drew)); exact HO_278004.out⟩, ⟨by (try simp only [hl7_2]); (try simp only [hl7_3]); (with_reducible repeat (first | apply Kd.V_alloc | apply Kd.V_drewN | apply Kd.V_drew)); exact HO_278005.out⟩, ⟨by (try simp only [hl7_2]); (try simp only [hl7_3]); (with_reducible repeat (first | apply Kd.R_alloc | apply Kd.R_drewN | apply Kd.R_drew)); exact HO_278006.out⟩, ⟨by (try simp only [hl7_2]); (try simp only [hl7_3]); (with_reducible repeat (first | refine blk_drewN ?_ _ | refine blk_drew ?_ | refine blk_alloc ?_ _)); exact BK222.out⟩, ⟨by (try simp only [hl7_2]); (try simp only [hl7_3]); (with_reducible repeat (first | refine blk_drewN ?_ _ | refine blk_drew ?_ | refine blk_alloc ?_ _)); exact BK247.out⟩, ⟨by (try simp only [hl7_2]); (try simp only [hl7_3]); (with_reducible repeat (first | refine blk_drewN ?_ _ | refine blk_drew ?_ | refine blk_alloc ?_ _)); exact BK262.out⟩, ⟨by (try simp only [hl7_2]); (try simp only [hl7_3]); (with_reducible repeat (first | refine blk_drewN ?_ _ | refine blk_drew ?_ | refine blk_alloc ?_ _)); exact BK277.out⟩, ⟨by repeat (first | (with_reducible first | exact HB.out | apply below_alloc | apply bdN | apply bd1 | refine below_set ?_ GE222.out | refine below_set ?_ GE247.out | refine below_set ?_ GE262.out | refine below_set ?_ GE277.out) | exact HB.out)⟩⟩
           case round =>
            clear H'
            try clear c1
            try clear c2
            try clear p2
            try clear q2
            try clear hx2
            try clear c3
            try clear c4
            try clear c5
            try clear p5
            try clear q5
            try clear hx5
            try clear hf5
            try clear c6
            try clear p6
            try clear c7
            try clear p7
            try clear q7
            try clear hx7
            try clear hf7
            try clear c8
            try clear c9
            try clear c10
            try clear c18
            try clear c21
            try clear p27
            try clear q27
            try clear hx27
            try clear p28
            try clear q28
            try clear hx28
            try clear c29
            try clear c31
            try clear c32
            try clear c33
            try clear c38
            try clear c39
            try clear c40
            try clear c49
            try clear c50
            try clear c51
            try clear c56
            try clear c56b0
            try clear c57
            try clear c57b0
            try clear p58
            try clear q58
            try clear hx58
            try clear hf58
            try clear c59
            try clear c60
            try clear c61
            try clear p64
            try clear c66
            try clear c67
            try clear c68
            try clear c71
            try clear c71b0
            try clear c72
            try clear c72b0
            try clear p73
            try clear q73
            try clear hx73
            try clear hf73
            try clear c74
            try clear c75
            try clear c76
            try clear c82
            try clear c83
            try clear c84
            try clear c87
            try clear c88
            try clear c90
            try clear hcz11_0
            try clear hcz11_1
            try clear hcz11_2
            try clear hcz13_0
            try clear hcz13_1
            try clear hcz13_2
            try clear hcz15_0
            try clear hcz15_1
            try clear hcz15_2
            try clear hcz28_0
            try clear hcz28_1
            try clear hcz28_2
            try clear hcz33_0
            try clear hcz33_1
            try clear hcz33_2
            try clear hcz33_3
            try clear hcz33_4
            try clear hcz33_5
            try clear hcz33_6
            try clear hcz33_7
            try clear hcz41_0
            try clear hcz41_1
            try clear hcz41_2
            try clear hcz41_3
            try clear hcz41_4
            try clear hcz41_5
            try clear hcz41_6
            try clear hcz41_7
            try clear hcz45_0
            try clear hcz45_1
            try clear hcz45_2
            try clear hcz46_0
            try clear hcz46_1
            try clear hcz46_2
            try clear hcz46_3
            try clear hcz46_4
            try clear hcz46_5
            try clear hcz46_6
            try clear hcz46_7
            try clear hcz52_0
            try clear hcz52_1
            try clear hcz52_2
            try clear hcz52_3
            try clear hcz52_4
            try clear hcz52_5
            try clear hcz52_6
            try clear hcz52_7
            try clear hcz62_0
            try clear hcz62_1
            try clear hcz62_2
            try clear hcz62_3
            try clear hcz62_4
            try clear hcz62_5
            try clear hcz62_6
            try clear hcz62_7
            try clear hcz69_0
            try clear hcz69_1
            try clear hcz69_2
            try clear hcz69_3
            try clear hcz69_4
            try clear hcz69_5
            try clear hcz69_6
            try clear hcz69_7
            try clear hcz77_0
            try clear hcz77_1
            try clear hcz77_2
            try clear hcz77_3
            try clear hcz77_4
            try clear hcz77_5
            try clear hcz77_6
            try clear hcz77_7
            try clear hcz85_0
            try clear hcz85_1
            try clear hcz85_2
            try clear hcz85_3
            try clear hcz85_4
            try clear hcz85_5
            try clear hcz85_6
            try clear hcz85_7
            try clear hcz89_0
            try clear hcz89_1
            try clear hcz89_2
            try clear hcz89_3
            try clear hcz89_4
            try clear hcz89_5
            try clear hcz89_6
            try clear hcz89_7
            try clear hcz91_0
            try clear hcz91_1
            try clear hcz91_2
            try clear hcz91_3
            try clear hcz91_4
            try clear hcz91_5
            try clear hcz91_6
            try clear hcz91_7
            try clear hfz11_0
            try clear hfz11_1
            try clear hfz11_2
            try clear hfz13_0
            try clear hfz13_1
            try clear hfz13_2
            try clear hfz15_0
            try clear hfz15_1
            try clear hfz15_2
            try clear hfz28_0
            try clear hfz28_1
            try clear hfz28_2
            try clear hfz33_0
            try clear hfz33_1
            try clear hfz33_2
            try clear hfz33_3
            try clear hfz33_4
            try clear hfz33_5
            try clear hfz33_6
            try clear hfz33_7
            try clear hfz41_0
            try clear hfz41_1
            try clear hfz41_2
            try clear hfz41_3
            try clear hfz41_4
            try clear hfz41_5
            try clear hfz41_6
            try clear hfz41_7
            try clear hfz45_0
            try clear hfz45_1
            try clear hfz45_2
            try clear hfz46_0
            try clear hfz46_1
            try clear hfz46_2
            try clear hfz46_3
            try clear hfz46_4
            try clear hfz46_5
            try clear hfz46_6
            try clear hfz46_7
            try clear hfz52_0
            try clear hfz52_1
            try clear hfz52_2
            try clear hfz52_3
            try clear hfz52_4
            try clear hfz52_5
            try clear hfz52_6
            try clear hfz52_7
            try clear hfz62_0
            try clear hfz62_1
            try clear hfz62_2
            try clear hfz62_3
            try clear hfz62_4
            try clear hfz62_5
            try clear hfz62_6
            try clear hfz62_7
            try clear hfz69_0
            try clear hfz69_1
            try clear hfz69_2
            try clear hfz69_3
            try clear hfz69_4
            try clear hfz69_5
            try clear hfz69_6
            try clear hfz69_7
            try clear hfz77_0
            try clear hfz77_1
            try clear hfz77_2
            try clear hfz77_3
            try clear hfz77_4
            try clear hfz77_5
            try clear hfz77_6
            try clear hfz77_7
            try clear hfz85_0
            try clear hfz85_1
            try clear hfz85_2
            try clear hfz85_3
            try clear hfz85_4
            try clear hfz85_5
            try clear hfz85_6
            try clear hfz85_7
            try clear hfz89_0
            try clear hfz89_1
            try clear hfz89_2
            try clear hfz89_3
            try clear hfz89_4
            try clear hfz89_5
            try clear hfz89_6
            try clear hfz89_7
            try clear hfz91_0
            try clear hfz91_1
            try clear hfz91_2
            try clear hfz91_3
            try clear hfz91_4
            try clear hfz91_5
            try clear hfz91_6
            try clear hfz91_7
            try clear hx278_0
            try clear hx280_0
            try clear hx58_0
            try clear hx73_0
            try clear p2
            try clear p27
            try clear p278
            try clear p280
            try clear p5
            try clear p58
            try clear p6
            try clear p64
            try clear p73
            try clear q2
            try clear q27
            try clear q278
            try clear q280
            try clear q5
            try clear q58
            try clear q73
            obtain ⟨x7_4, x15_4, x248004_4, x248005_4, x248006_4, x263004_4, x263005_4, x263006_4, x278004_4, x278005_4, x278006_4, u248004, u248005, u248006, u263004, u263005, u263006, u278004, u278005, u278006, rfl, HA, HK4, HO_7, HO_248004, HO_248005, HO_248006, HO_263004, HO_263005, HO_263006, HO_278004, HO_278005, HO_278006, BK222, BK247, BK262, BK277, HB⟩ := hrel
            have hl7_4 := (Kd.R_reads' HO_7.out).1
            rw [hl7_4] at HO_7
            (try simp only [hl7_4])
            (try simp only [hl7_4] at BK222)
            (try simp only [hl7_4] at BK247)
            (try simp only [hl7_4] at BK262)
            (try simp only [hl7_4] at BK277)
            (try simp only [hl7_4] at HO_248004)
            (try simp only [hl7_4] at HO_248005)
            (try simp only [hl7_4] at HO_248006)
            (try simp only [hl7_4] at HO_263004)
            (try simp only [hl7_4] at HO_263005)
            (try simp only [hl7_4] at HO_263006)
            (try simp only [hl7_4] at HO_278004)
            (try simp only [hl7_4] at HO_278005)
            (try simp only [hl7_4] at HO_278006)
            cases gk with
            | zero => exact absurd HA.out (by simp [regcertlaw09_InterpKeeps.l2])
            | succ k4 =>
             have H := HA.out
             clear HA
             simp only [regcertlaw09_InterpKeeps.l2] at H
             by_cases c99 : x15_4 < (x248004_4.length : Int)
             ·rw [if_pos c99] at H
              have c99b0 : decide (x15_4 < (x248004_4.length : Int)) = true := decide_eq_true c99
              clear c99
              by_cases c100 : 0 ≤ x15_4
              ·rw [if_pos c100] at H
               have c100b0 : decide (0 ≤ x15_4) = true := decide_eq_true c100
               clear c100
               obtain ⟨y284, hy284⟩ : ∃ y_ : List Int, y_ = (x248004_4.set (x15_4 : Int).toNat (wrap64 ((rd x248004_4 x15_4) + 1))) := ⟨_, rfl⟩
               replace H : (regcertlaw09_InterpKeeps.l2 k4 l1 x7_4 t282 (wrap64 (x15_4 + 1)) t232 t233 t234 t235 y284 x248005_4 x248006_4 t245) = some r := by first | (rw [hy284]; with_reducible exact H) | (have H2_ := (Option.bind_some _ _).symm.trans H; rw [hy284]; with_reducible exact H2_) | (have H2_ := (Option.bind_some _ _).symm.trans H; with_reducible exact H2_) | with_reducible exact H | (rw [hy284]; exact H) | exact H
               have Ny284 := As0 hy284
               clear hy284
               have H' := As0 H
               clear H
               have hnb102 := NB247_222.out
               have hnc102 := NB222_247.out
               have hnb103 := NB247_262.out
               have hnc103 := NB262_247.out
               have hnb104 := NB247_277.out
               have hnc104 := NB277_247.out
               have hcz105_0 : wr.cell? ⟨gb247, 0, none⟩ = some (.int .i64 t232) := (blk_cell BK247.out 0).trans rfl
               have hcz105_1 : wr.cell? ⟨gb247, 1, none⟩ = some (.int .i64 t233) := (blk_cell BK247.out 1).trans rfl
               have hcz105_2 : wr.cell? ⟨gb247, 2, none⟩ = some (.int .i64 t234) := (blk_cell BK247.out 2).trans rfl
               have hcz105_3 : wr.cell? ⟨gb247, 3, none⟩ = some (.int .i64 t235) := (blk_cell BK247.out 3).trans rfl
               have hcz105_4 : wr.cell? ⟨gb247, 4, none⟩ = some (u248004) := (blk_cell BK247.out 4).trans rfl
               have hcz105_5 : wr.cell? ⟨gb247, 5, none⟩ = some (u248005) := (blk_cell BK247.out 5).trans rfl
               have hcz105_6 : wr.cell? ⟨gb247, 6, none⟩ = some (u248006) := (blk_cell BK247.out 6).trans rfl
               have hcz105_7 : wr.cell? ⟨gb247, 7, none⟩ = some (.int .i64 t245) := (blk_cell BK247.out 7).trans rfl
               have hfz105_0 := blk_frozen BK247.out 0
               have hfz105_1 := blk_frozen BK247.out 1
               have hfz105_2 := blk_frozen BK247.out 2
               have hfz105_3 := blk_frozen BK247.out 3
               have hfz105_4 := blk_frozen BK247.out 4
               have hfz105_5 := blk_frozen BK247.out 5
               have hfz105_6 := blk_frozen BK247.out 6
               have hfz105_7 := blk_frozen BK247.out 7
               obtain ⟨Ao106, co106, eo106⟩ := Kd.R_slice HO_248004.out
               subst eo106
               have p283 : 0 ≤ (x15_4 : Int) := of_decide_eq_true (by first | (with_reducible assumption) | assumption)
               have q283 : x15_4 < (x248004_4.length : Int) := of_decide_eq_true (by first | (with_reducible assumption) | assumption)
               obtain ⟨ad283, e283, hx283_0⟩ := Kd.at_int (Kd.R_reads' HO_248004.out).2.2 x15_4 p283 q283
               cases e283
               replace p283 := eq_true p283
               replace q283 := eq_true q283
               have p101 : 0 ≤ (x15_4 : Int) := of_decide_eq_true (by first | (with_reducible assumption) | assumption)
               have q101 : (x15_4 : Int) < ((x248004_4.length : Int) : Int) := of_decide_eq_true (by first | (with_reducible assumption) | assumption)
               obtain ⟨go101, co101, eo101, gb101, gl101, cl101, HG101⟩ := Kd.R_form HO_248004.out (by omega)
               (first | cases eo101 | (injection eo101 with ea_ en_ ec_; (first | subst ea_ | (injection ea_ with ea_; subst ea_)); subst ec_; clear en_))
               have GB101 := As0 gb101
               have GG101 := As0 HG101
               clear gb101 gl101 HG101
               (first | simp only [add_plain] at hx283_0 | skip)
               obtain ⟨hx101_0, hf101_0⟩ := Kd.R_celln 0 HO_248004.out (x15_4 : Int) p101 q101
               replace p101 := eq_true p101
               replace q101 := eq_true q101
               have HP107 := Kd.R_putg HO_248004.out (x15_4 : Int) (wrap64 ((rd x248004_4 x15_4) + 1))
               go_wp2_with (first | ((with_reducible refine gate_store (t := 2) (p := 93) rfl ?_); refine store_event (t := 2) (p := 93) (v := ?vo_w108) (w1 := (wr.setCell ⟨go101, (x15_4 : Int).toNat, none⟩ (.int .i64 (wrap64 ((rd x248004_4 x15_4) + 1))))) ?hg ?ho ?hn ?hr ?_; (case ho => rfl); (case hg => rfl); (case hn => rfl); (case hr => first | (go_simp; done) | (go_simp; rfl)); intro w108 hw; have hg : wr.grownBy w108 (some go101) := (by rw [hw]; exact HP107.2); have hp_ : Kd.R (Kd.int .i64) 2 w108 w.heap.size (fun k_ => some k_ ≠ (.slice Ao29 x7_4.length co29 : Value).ownBlock ∧ some k_ ≠ (u248005 : Value).ownBlock ∧ some k_ ≠ (u248006 : Value).ownBlock ∧ some k_ ≠ (u263004 : Value).ownBlock ∧ some k_ ≠ (u263005 : Value).ownBlock ∧ some k_ ≠ (u263006 : Value).ownBlock ∧ some k_ ≠ (u278004 : Value).ownBlock ∧ some k_ ≠ (u278006 : Value).ownBlock) (.slice (some ⟨go101, 0, none⟩) x248004_4.length co106) y284 := (by rw [hw, Ny284.out]; exact HP107.1); clear HP107; have n0_ := As0 (Kd.R_after (v := (.slice (some ⟨go101, 0, none⟩) x248004_4.length co106)) (v1 := (.slice (some ⟨go101, 0, none⟩) x248004_4.length co106)) (ok := (fun k_ => some k_ ≠ (u248005 : Value).ownBlock ∧ some k_ ≠ (u248006 : Value).ownBlock ∧ some k_ ≠ (u263004 : Value).ownBlock ∧ some k_ ≠ (u263005 : Value).ownBlock ∧ some k_ ≠ (u263006 : Value).ownBlock ∧ some k_ ≠ (u278004 : Value).ownBlock ∧ some k_ ≠ (u278006 : Value).ownBlock)) (by (with_reducible repeat (first | apply Kd.R_alloc | apply Kd.R_drewN | apply Kd.R_drew)); exact Kd.R_mono HO_7.out (fun _ hk => ⟨⟨hk.2.1, ⟨hk.2.2.1, ⟨hk.2.2.2.1, ⟨hk.2.2.2.2.1, ⟨hk.2.2.2.2.2.1, ⟨hk.2.2.2.2.2.2.1, hk.2.2.2.2.2.2.2⟩⟩⟩⟩⟩⟩, hk.1⟩)) hg (.inl rfl)); have n1_ := As0 (hp_); have n2_ := As0 (Kd.R_after (v := (.slice (some ⟨go101, 0, none⟩) x248004_4.length co106)) (v1 := (.slice (some ⟨go101, 0, none⟩) x248004_4.length co106)) (ok := (fun k_ => some k_ ≠ (.slice Ao29 x7_4.length co29 : Value).ownBlock ∧ some k_ ≠ (u248006 : Value).ownBlock ∧ some k_ ≠ (u263004 : Value).ownBlock ∧ some k_ ≠ (u263005 : Value).ownBlock ∧ some k_ ≠ (u263006 : Value).ownBlock ∧ some k_ ≠ (u278004 : Value).ownBlock ∧ some k_ ≠ (u278006 : Value).ownBlock)) (by (with_reducible repeat (first | apply Kd.R_alloc | apply Kd.R_drewN | apply Kd.R_drew)); exact Kd.R_mono HO_248005.out (fun _ hk => ⟨⟨hk.1, ⟨hk.2.2.1, ⟨hk.2.2.2.1, ⟨hk.2.2.2.2.1, ⟨hk.2.2.2.2.2.1, ⟨hk.2.2.2.2.2.2.1, hk.2.2.2.2.2.2.2⟩⟩⟩⟩⟩⟩, hk.2.1⟩)) hg (.inl rfl)); have n3_ := As0 (Kd.R_after (v := (.slice (some ⟨go101, 0, none⟩) x248004_4.length co106)) (v1 := (.slice (some ⟨go101, 0, none⟩) x248004_4.length co106)) (ok := (fun k_ => some k_ ≠ (.slice Ao29 x7_4.length co29 : Value).ownBlock ∧ some k_ ≠ (u248005 : Value).ownBlock ∧ some k_ ≠ (u263004 : Value).ownBlock ∧ some k_ ≠ (u263005 : Value).ownBlock ∧ some k_ ≠ (u263006 : Value).ownBlock ∧ some k_ ≠ (u278004 : Value).ownBlock ∧ some k_ ≠ (u278006 : Value).ownBlock)) (by (with_reducible repeat (first | apply Kd.R_alloc | apply Kd.R_drewN | apply Kd.R_drew)); exact Kd.R_mono HO_248006.out (fun _ hk => ⟨⟨hk.1, ⟨hk.2.2.1, ⟨hk.2.2.2.1, ⟨hk.2.2.2.2.1, ⟨hk.2.2.2.2.2.1, ⟨hk.2.2.2.2.2.2.1, hk.2.2.2.2.2.2.2⟩⟩⟩⟩⟩⟩, hk.2.1⟩)) hg (.inl rfl)); have n4_ := As0 (Kd.R_after (v := (.slice (some ⟨go101, 0, none⟩) x248004_4.length co106)) (v1 := (.slice (some ⟨go101, 0, none⟩) x248004_4.length co106)) (ok := (fun k_ => some k_ ≠ (.slice Ao29 x7_4.length co29 : Value).ownBlock ∧ some k_ ≠ (u248005 : Value).ownBlock ∧ some k_ ≠ (u248006 : Value).ownBlock ∧ some k_ ≠ (u263005 : Value).ownBlock ∧ some k_ ≠ (u263006 : Value).ownBlock ∧ some k_ ≠ (u278004 : Value).ownBlock ∧ some k_ ≠ (u278006 : Value).ownBlock)) (by (with_reducible repeat (first | apply Kd.R_alloc | apply Kd.R_drewN | apply Kd.R_drew)); exact Kd.R_mono HO_263004.out (fun _ hk => ⟨⟨hk.1, ⟨hk.2.2.1, ⟨hk.2.2.2.1, ⟨hk.2.2.2.2.1, ⟨hk.2.2.2.2.2.1, ⟨hk.2.2.2.2.2.2.1, hk.2.2.2.2.2.2.2⟩⟩⟩⟩⟩⟩, hk.2.1⟩)) hg (.inl rfl)); have n5_ := As0 (Kd.R_after (v := (.slice (some ⟨go101, 0, none⟩) x248004_4.length co106)) (v1 := (.slice (some ⟨go101, 0, none⟩) x248004_4.length co106)) (ok := (fun k_ => some k_ ≠ (.slice Ao29 x7_4.length co29 : Value).ownBlock ∧ some k_ ≠ (u248005 : Value).ownBlock ∧ some k_ ≠ (u248006 : Value).ownBlock ∧ some k_ ≠ (u263004 : Value).ownBlock ∧ some k_ ≠ (u263006 : Value).ownBlock ∧ some k_ ≠ (u278004 : Value).ownBlock ∧ some k_ ≠ (u278006 : Value).ownBlock)) (by (with_reducible repeat (first | apply Kd.R_alloc | apply Kd.R_drewN | apply Kd.R_drew)); exact Kd.R_mono HO_263005.out (fun _ hk => ⟨⟨hk.1, ⟨hk.2.2.1, ⟨hk.2.2.2.1, ⟨hk.2.2.2.2.1, ⟨hk.2.2.2.2.2.1, ⟨hk.2.2.2.2.2.2.1, hk.2.2.2.2.2.2.2⟩⟩⟩⟩⟩⟩, hk.2.1⟩)) hg (.inl rfl)); have n6_ := As0 (Kd.R_after (v := (.slice (some ⟨go101, 0, none⟩) x248004_4.length co106)) (v1 := (.slice (some ⟨go101, 0, none⟩) x248004_4.length co106)) (ok := (fun k_ => some k_ ≠ (.slice Ao29 x7_4.length co29 : Value).ownBlock ∧ some k_ ≠ (u248005 : Value).ownBlock ∧ some k_ ≠ (u248006 : Value).ownBlock ∧ some k_ ≠ (u263004 : Value).ownBlock ∧ some k_ ≠ (u263005 : Value).ownBlock ∧ some k_ ≠ (u278004 : Value).ownBlock ∧ some k_ ≠ (u278006 : Value).ownBlock)) (by (with_reducible repeat (first | apply Kd.R_alloc | apply Kd.R_drewN | apply Kd.R_drew)); exact Kd.R_mono HO_263006.out (fun _ hk => ⟨⟨hk.1, ⟨hk.2.2.1, ⟨hk.2.2.2.1, ⟨hk.2.2.2.2.1, ⟨hk.2.2.2.2.2.1, ⟨hk.2.2.2.2.2.2.1, hk.2.2.2.2.2.2.2⟩⟩⟩⟩⟩⟩, hk.2.1⟩)) hg (.inl rfl)); have n7_ := As0 (Kd.R_after (v := (.slice (some ⟨go101, 0, none⟩) x248004_4.length co106)) (v1 := (.slice (some ⟨go101, 0, none⟩) x248004_4.length co106)) (ok := (fun k_ => some k_ ≠ (.slice Ao29 x7_4.length co29 : Value).ownBlock ∧ some k_ ≠ (u248005 : Value).ownBlock ∧ some k_ ≠ (u248006 : Value).ownBlock ∧ some k_ ≠ (u263004 : Value).ownBlock ∧ some k_ ≠ (u263005 : Value).ownBlock ∧ some k_ ≠ (u263006 : Value).ownBlock ∧ some k_ ≠ (u278006 : Value).ownBlock)) (by (with_reducible repeat (first | apply Kd.R_alloc | apply Kd.R_drewN | apply Kd.R_drew)); exact Kd.R_mono HO_278004.out (fun _ hk => ⟨⟨hk.1, ⟨hk.2.2.1, ⟨hk.2.2.2.1, ⟨hk.2.2.2.2.1, ⟨hk.2.2.2.2.2.1, ⟨hk.2.2.2.2.2.2.1, hk.2.2.2.2.2.2.2⟩⟩⟩⟩⟩⟩, hk.2.1⟩)) hg (.inl rfl)); have n8_ := As0 (Kd.V_afterv (v := (.slice (some ⟨go101, 0, none⟩) x248004_4.length co106)) (v1 := (.slice (some ⟨go101, 0, none⟩) x248004_4.length co106)) (ok := (fun k_ => some k_ ≠ (.slice Ao29 x7_4.length co29 : Value).ownBlock ∧ some k_ ≠ (u248005 : Value).ownBlock ∧ some k_ ≠ (u248006 : Value).ownBlock ∧ some k_ ≠ (u263004 : Value).ownBlock ∧ some k_ ≠ (u263005 : Value).ownBlock ∧ some k_ ≠ (u263006 : Value).ownBlock ∧ some k_ ≠ (u278004 : Value).ownBlock ∧ some k_ ≠ (u278006 : Value).ownBlock ∧ k_ ≠ gb222 ∧ k_ ≠ gb247 ∧ k_ ≠ gb262 ∧ k_ ≠ gb277)) (by (with_reducible repeat (first | apply Kd.V_alloc | apply Kd.V_drewN | apply Kd.V_drew)); exact Kd.V_mono HO_278005.out (fun _ hk => ⟨⟨hk.1, ⟨hk.2.2.1, ⟨hk.2.2.2.1, ⟨hk.2.2.2.2.1, ⟨hk.2.2.2.2.2.1, ⟨hk.2.2.2.2.2.2.1, ⟨hk.2.2.2.2.2.2.2.1, ⟨hk.2.2.2.2.2.2.2.2.1, ⟨hk.2.2.2.2.2.2.2.2.2.1, ⟨hk.2.2.2.2.2.2.2.2.2.2.1, ⟨hk.2.2.2.2.2.2.2.2.2.2.2.1, hk.2.2.2.2.2.2.2.2.2.2.2.2⟩⟩⟩⟩⟩⟩⟩⟩⟩⟩⟩, hk.2.1⟩)) hg (.inl rfl)); have n9_ := As0 (Kd.R_after (v := (.slice (some ⟨go101, 0, none⟩) x248004_4.length co106)) (v1 := (.slice (some ⟨go101, 0, none⟩) x248004_4.length co106)) (ok := (fun k_ => some k_ ≠ (.slice Ao29 x7_4.length co29 : Value).ownBlock ∧ some k_ ≠ (u248005 : Value).ownBlock ∧ some k_ ≠ (u248006 : Value).ownBlock ∧ some k_ ≠ (u263004 : Value).ownBlock ∧ some k_ ≠ (u263005 : Value).ownBlock ∧ some k_ ≠ (u263006 : Value).ownBlock ∧ some k_ ≠ (u278004 : Value).ownBlock)) (by (with_reducible repeat (first | apply Kd.R_alloc | apply Kd.R_drewN | apply Kd.R_drew)); exact Kd.R_mono HO_278006.out (fun _ hk => ⟨⟨hk.1, ⟨hk.2.2.1, ⟨hk.2.2.2.1, ⟨hk.2.2.2.2.1, ⟨hk.2.2.2.2.2.1, ⟨hk.2.2.2.2.2.2.1, hk.2.2.2.2.2.2.2⟩⟩⟩⟩⟩⟩, hk.2.1⟩)) hg (.inl rfl)); have n10_ := As0 (blk_grown (g := gb222) (o := .cells #[.int .i64 a0_0, .int .i64 a0_1, .slice A0_2 l0_2.length c0_2] 34 (0, 0)) (by (with_reducible repeat (first | refine blk_drewN ?_ _ | refine blk_drew ?_ | refine blk_alloc ?_ _)); exact BK222.out) hg (Kd.R_ne HO_248004.out BK222.out (by decide))); have n11_ := As0 (blk_grown (g := gb247) (o := .cells #[.int .i64 t232, .int .i64 t233, .int .i64 t234, .int .i64 t235, .slice (some ⟨go101, 0, none⟩) x248004_4.length co106, u248005, u248006, .int .i64 t245] 39 (0, 0)) (by (with_reducible repeat (first | refine blk_drewN ?_ _ | refine blk_drew ?_ | refine blk_alloc ?_ _)); exact BK247.out) hg (Kd.R_ne HO_248004.out BK247.out (by decide))); have n12_ := As0 (blk_grown (g := gb262) (o := .cells #[.int .i64 t248, .int .i64 t249, .int .i64 t250, .int .i64 t251, u263004, u263005, u263006, .int .i64 t261] 39 (0, 0)) (by (with_reducible repeat (first | refine blk_drewN ?_ _ | refine blk_drew ?_ | refine blk_alloc ?_ _)); exact BK262.out) hg (Kd.R_ne HO_248004.out BK262.out (by decide))); have n13_ := As0 (blk_grown (g := gb277) (o := .cells #[.int .i64 t263, .int .i64 t264, .int .i64 t265, .int .i64 t266, u278004, u278005, u278006, .int .i64 t276] 39 (0, 0)) (by (with_reducible repeat (first | refine blk_drewN ?_ _ | refine blk_drew ?_ | refine blk_alloc ?_ _)); exact BK277.out) hg (Kd.R_ne HO_248004.out BK277.out (by decide))); have n14_ := As0 ((by rw [hw]; exact below_set (HB.out) GB101.out : Below w.heap.size w w108)); clear HO_7; clear HO_248004; clear HO_248005; clear HO_248006; clear HO_263004; clear HO_263005; clear HO_263006; clear HO_278004; clear HO_278005; clear HO_278006; clear BK222; clear BK247; clear BK262; clear BK277; clear HB; have HO_7 := n0_; have HO_248004 := n1_; have HO_248005 := n2_; have HO_248006 := n3_; have HO_263004 := n4_; have HO_263005 := n5_; have HO_263006 := n6_; have HO_278004 := n7_; have HO_278005 := n8_; have HO_278006 := n9_; have BK222 := n10_; have BK247 := n11_; have BK262 := n12_; have BK277 := n13_; have HB := n14_; clear n0_ n1_ n2_ n3_ n4_ n5_ n6_ n7_ n8_ n9_ n10_ n11_ n12_ n13_ n14_; clear hg hw hp_))
               (try simp only [← hl7_4])
               go_roundg k4
               case measure => have := HJ3.out; have := HK2.out; have := HK3.out; have := HK4.out; omega
               case rel => exact ⟨(x7_4), (wrap64 (x15_4 + 1)), (y284), (x248005_4), (x248006_4), (x263004_4), (x263005_4), (x263006_4), (x278004_4), (x278005_4), (x278006_4), (.slice (some ⟨go101, 0, none⟩) x248004_4.length co106), (u248005), (u248006), (u263004), (u263005), (u263006), (u278004), (u278005), (u278006), (by first | rfl | (simp; done) | (simp [*]; done)), H', ⟨by have := HJ3.out; have := HK2.out; have := HK3.out; have := HK4.out; omega⟩, ⟨by (try simp only [hl7_2]); (try simp only [hl7_3]); (try simp only [hl7_4]); (with_reducible repeat (first | apply Kd.R_alloc | apply Kd.R_drewN | apply Kd.R_drew)); exact Kd.R_mono HO_7.out (fun _ hk => ⟨hk.2, ⟨hk.1.1, ⟨hk.1.2.1, ⟨hk.1.2.2.1, ⟨hk.1.2.2.2.1, ⟨hk.1.2.2.2.2.1, ⟨hk.1.2.2.2.2.2.1, hk.1.2.2.2.2.2.2⟩⟩⟩⟩⟩⟩⟩)⟩, ⟨by (try simp only [hl7_2]); (try simp only [hl7_3]); (try simp only [hl7_4]); (with_reducible repeat (first | apply Kd.R_alloc | apply Kd.R_drewN | apply Kd.R_drew)); exact HO_248004.out⟩, ⟨by (try simp only [hl7_2]); (try simp only [hl7_3]); (try simp only [hl7_4]); (with_reducible repeat (first | apply Kd.R_alloc | apply Kd.R_drewN | apply Kd.R_drew)); exact Kd.R_mono HO_248005.out (fun _ hk => ⟨hk.1.1, ⟨hk.2, ⟨hk.1.2.1, ⟨hk.1.2.2.1, ⟨hk.1.2.2.2.1, ⟨hk.1.2.2.2.2.1, ⟨hk.1.2.2.2.2.2.1, hk.1.2.2.2.2.2.2⟩⟩⟩⟩⟩⟩⟩)⟩, ⟨by (try simp only [hl7_2]); (try simp only [hl7_3]); (try simp only [hl7_4]); (with_reducible repeat (first | apply Kd.R_alloc | apply Kd.R_drewN | apply Kd.R_drew)); exact Kd.R_mono HO_248006.out (fun _ hk => ⟨hk.1.1, ⟨hk.2, ⟨hk.1.2.1, ⟨hk.1.2.2.1, ⟨hk.1.2.2.2.1, ⟨hk.1.2.2.2.2.1, ⟨hk.1.2.2.2.2.2.1, hk.1.2.2.2.2.2.2⟩⟩⟩⟩⟩⟩⟩)⟩, ⟨by (try simp only [hl7_2]); (try simp only [hl7_3]); (try simp only [hl7_4]); (with_reducible repeat (first | apply Kd.R_alloc | apply Kd.R_drewN | apply Kd.R_drew)); exact Kd.R_mono HO_263004.out (fun _ hk => ⟨hk.1.1, ⟨hk.2, ⟨hk.1.2.1, ⟨hk.1.2.2.1, ⟨hk.1.2.2.2.1, ⟨hk.1.2.2.2.2.1, ⟨hk.1.2.2.2.2.2.1, hk.1.2.2.2.2.2.2⟩⟩⟩⟩⟩⟩⟩)⟩, ⟨by (try simp only [hl7_2]); (try simp only [hl7_3]); (try simp only [hl7_4]); (with_reducible repeat (first | apply Kd.R_alloc | apply Kd.R_drewN | apply Kd.R_drew)); exact Kd.R_mono HO_263005.out (fun _ hk => ⟨hk.1.1, ⟨hk.2, ⟨hk.1.2.1, ⟨hk.1.2.2.1, ⟨hk.1.2.2.2.1, ⟨hk.1.2.2.2.2.1, ⟨hk.1.2.2.2.2.2.1, hk.1.2.2.2.2.2.2⟩⟩⟩⟩⟩⟩⟩)⟩, ⟨by (try simp only [hl7_2]); (try simp only [hl7_3]); (try simp only [hl7_4]); (with_reducible repeat (first | apply Kd.R_alloc | apply Kd.R_drewN | apply Kd.R_drew)); exact Kd.R_mono HO_263006.out (fun _ hk => ⟨hk.1.1, ⟨hk.2, ⟨hk.1.2.1, ⟨hk.1.2.2.1, ⟨hk.1.2.2.2.1, ⟨hk.1.2.2.2.2.1, ⟨hk.1.2.2.2.2.2.1, hk.1.2.2.2.2.2.2⟩⟩⟩⟩⟩⟩⟩)⟩, ⟨by (try simp only [hl7_2]); (try simp only [hl7_3]); (try simp only [hl7_4]); (with_reducible repeat (first | apply Kd.R_alloc | apply Kd.R_drewN | apply Kd.R_drew)); exact Kd.R_mono HO_278004.out (fun _ hk => ⟨hk.1.1, ⟨hk.2, ⟨hk.1.2.1, ⟨hk.1.2.2.1, ⟨hk.1.2.2.2.1, ⟨hk.1.2.2.2.2.1, ⟨hk.1.2.2.2.2.2.1, hk.1.2.2.2.2.2.2⟩⟩⟩⟩⟩⟩⟩)⟩, ⟨by (try simp only [hl7_2]); (try simp only [hl7_3]); (try simp only [hl7_4]); (with_reducible repeat (first | apply Kd.V_alloc | apply Kd.V_drewN | apply Kd.V_drew)); exact Kd.V_mono HO_278005.out (fun _ hk => ⟨hk.1.1, ⟨hk.2, ⟨hk.1.2.1, ⟨hk.1.2.2.1, ⟨hk.1.2.2.2.1, ⟨hk.1.2.2.2.2.1, ⟨hk.1.2.2.2.2.2.1, ⟨hk.1.2.2.2.2.2.2.1, ⟨hk.1.2.2.2.2.2.2.2.1, ⟨hk.1.2.2.2.2.2.2.2.2.1, ⟨hk.1.2.2.2.2.2.2.2.2.2.1, ⟨hk.1.2.2.2.2.2.2.2.2.2.2.1, hk.1.2.2.2.2.2.2.2.2.2.2.2⟩⟩⟩⟩⟩⟩⟩⟩⟩⟩⟩⟩)⟩, ⟨by (try simp only [hl7_2]); (try simp only [hl7_3]); (try simp only [hl7_4]); (with_reducible repeat (first | apply Kd.R_alloc | apply Kd.R_drewN | apply Kd.R_drew)); exact Kd.R_mono HO_278006.out (fun _ hk => ⟨hk.1.1, ⟨hk.2, ⟨hk.1.2.1, ⟨hk.1.2.2.1, ⟨hk.1.2.2.2.1, ⟨hk.1.2.2.2.2.1, ⟨hk.1.2.2.2.2.2.1, hk.1.2.2.2.2.2.2⟩⟩⟩⟩⟩⟩⟩)⟩, ⟨by (try simp only [hl7_2]); (try simp only [hl7_3]); (try simp only [hl7_4]); (with_reducible repeat (first | refine blk_drewN ?_ _ | refine blk_drew ?_ | refine blk_alloc ?_ _)); exact BK222.out⟩, ⟨by (try simp only [hl7_2]); (try simp only [hl7_3]); (try simp only [hl7_4]); (with_reducible repeat (first | refine blk_drewN ?_ _ | refine blk_drew ?_ | refine blk_alloc ?_ _)); exact BK247.out⟩, ⟨by (try simp only [hl7_2]); (try simp only [hl7_3]); (try simp only [hl7_4]); (with_reducible repeat (first | refine blk_drewN ?_ _ | refine blk_drew ?_ | refine blk_alloc ?_ _)); exact BK262.out⟩, ⟨by (try simp only [hl7_2]); (try simp only [hl7_3]); (try simp only [hl7_4]); (with_reducible repeat (first | refine blk_drewN ?_ _ | refine blk_drew ?_ | refine blk_alloc ?_ _)); exact BK277.out⟩, ⟨by repeat (first | (with_reducible first | exact HB.out | apply below_alloc | apply bdN | apply bd1 | refine below_set ?_ GE222.out | refine below_set ?_ GE247.out | refine below_set ?_ GE262.out | refine below_set ?_ GE277.out) | exact HB.out)⟩⟩
              ·rw [if_neg c100] at H
               exact absurd H (by simp)
             ·rw [if_neg c99] at H
              have c99b0 : decide (x15_4 < (x248004_4.length : Int)) = false := decide_eq_false c99
              clear c99
              by_cases c109 : t282 = true
              ·subst c109
               have H1 : ((regcertref09_Values.f k4 x7_4 l1).bind fun t285 => (some t285)) = some r := by rw [if_pos rfl] at H; exact H
               clear H
               have H := H1
               clear H1
               replace H := Option.bind_eq_some_iff.mp H
               obtain ⟨t285, A1100, H⟩ := H
               replace H : (some t285) = some r := H
               have A110 := As0 A1100
               clear A1100
               obtain rfl := Option.some.inj H
               have hnb111 := NB247_222.out
               have hnc111 := NB222_247.out
               have hnb112 := NB247_262.out
               have hnc112 := NB262_247.out
               have hnb113 := NB247_277.out
               have hnc113 := NB277_247.out
               have hcz114_0 : wr.cell? ⟨gb247, 0, none⟩ = some (.int .i64 t232) := (blk_cell BK247.out 0).trans rfl
               have hcz114_1 : wr.cell? ⟨gb247, 1, none⟩ = some (.int .i64 t233) := (blk_cell BK247.out 1).trans rfl
               have hcz114_2 : wr.cell? ⟨gb247, 2, none⟩ = some (.int .i64 t234) := (blk_cell BK247.out 2).trans rfl
               have hcz114_3 : wr.cell? ⟨gb247, 3, none⟩ = some (.int .i64 t235) := (blk_cell BK247.out 3).trans rfl
               have hcz114_4 : wr.cell? ⟨gb247, 4, none⟩ = some (u248004) := (blk_cell BK247.out 4).trans rfl
               have hcz114_5 : wr.cell? ⟨gb247, 5, none⟩ = some (u248005) := (blk_cell BK247.out 5).trans rfl
               have hcz114_6 : wr.cell? ⟨gb247, 6, none⟩ = some (u248006) := (blk_cell BK247.out 6).trans rfl
               have hcz114_7 : wr.cell? ⟨gb247, 7, none⟩ = some (.int .i64 t245) := (blk_cell BK247.out 7).trans rfl
               have hfz114_0 := blk_frozen BK247.out 0
               have hfz114_1 := blk_frozen BK247.out 1
               have hfz114_2 := blk_frozen BK247.out 2
               have hfz114_3 := blk_frozen BK247.out 3
               have hfz114_4 := blk_frozen BK247.out 4
               have hfz114_5 := blk_frozen BK247.out 5
               have hfz114_6 := blk_frozen BK247.out 6
               have hfz114_7 := blk_frozen BK247.out 7
               obtain ⟨Ao115, co115, eo115⟩ := Kd.R_slice HO_248004.out
               subst eo115
               go_wp2_with (first | (go_at_call 37; (with_reducible refine (regcertref09_Values.calls k4 _ _ x7_4 _ _ l1 t285 _ ?side1 ?side2 ?side3 ?side4 A110.out).mono ?_); (case side1 => repeat (first | exact (Kd.R_reads' HO_7.out).2.2 | (with_reducible refine Kd.C_alloc ?_ _) | (with_reducible refine Kd.C_drewN ?_ _) | (with_reducible refine Kd.C_drew ?_))); (case side2 => exact (Kd.R_reads' HO_7.out).2.1); (case side3 => repeat (first | exact (Kd.C_below HR1.out HB.out) | (with_reducible refine Kd.C_alloc ?_ _) | (with_reducible refine Kd.C_drewN ?_ _) | (with_reducible refine Kd.C_drew ?_))); (case side4 => exact HC1.out); rintro e w' ⟨rfl, ⟨nd, rfl⟩⟩))
               go_ret
               exact ⟨by first | rfl | (simp [errW_none, errW_some] <;> rfl) | (simp [*, errW_none, errW_some] <;> rfl), by repeat (first | (with_reducible first | exact HB.out | apply below_alloc | apply bdN | apply bd1 | refine below_set ?_ GE222.out | refine below_set ?_ GE247.out | refine below_set ?_ GE262.out | refine below_set ?_ GE277.out) | exact HB.out)⟩
              ·replace c109 := Bool.eq_false_iff.mpr c109
               subst c109
               have H1 : (some false) = some r := by rw [if_neg (show ¬ (false = true) by decide)] at H; exact H
               clear H
               have H := H1
               clear H1
               obtain rfl := Option.some.inj H
               have hnb116 := NB247_222.out
               have hnc116 := NB222_247.out
               have hnb117 := NB247_262.out
               have hnc117 := NB262_247.out
               have hnb118 := NB247_277.out
               have hnc118 := NB277_247.out
               have hcz119_0 : wr.cell? ⟨gb247, 0, none⟩ = some (.int .i64 t232) := (blk_cell BK247.out 0).trans rfl
               have hcz119_1 : wr.cell? ⟨gb247, 1, none⟩ = some (.int .i64 t233) := (blk_cell BK247.out 1).trans rfl
               have hcz119_2 : wr.cell? ⟨gb247, 2, none⟩ = some (.int .i64 t234) := (blk_cell BK247.out 2).trans rfl
               have hcz119_3 : wr.cell? ⟨gb247, 3, none⟩ = some (.int .i64 t235) := (blk_cell BK247.out 3).trans rfl
               have hcz119_4 : wr.cell? ⟨gb247, 4, none⟩ = some (u248004) := (blk_cell BK247.out 4).trans rfl
               have hcz119_5 : wr.cell? ⟨gb247, 5, none⟩ = some (u248005) := (blk_cell BK247.out 5).trans rfl
               have hcz119_6 : wr.cell? ⟨gb247, 6, none⟩ = some (u248006) := (blk_cell BK247.out 6).trans rfl
               have hcz119_7 : wr.cell? ⟨gb247, 7, none⟩ = some (.int .i64 t245) := (blk_cell BK247.out 7).trans rfl
               have hfz119_0 := blk_frozen BK247.out 0
               have hfz119_1 := blk_frozen BK247.out 1
               have hfz119_2 := blk_frozen BK247.out 2
               have hfz119_3 := blk_frozen BK247.out 3
               have hfz119_4 := blk_frozen BK247.out 4
               have hfz119_5 := blk_frozen BK247.out 5
               have hfz119_6 := blk_frozen BK247.out 6
               have hfz119_7 := blk_frozen BK247.out 7
               obtain ⟨Ao120, co120, eo120⟩ := Kd.R_slice HO_248004.out
               subst eo120
               go_wp2
               go_ret
               exact ⟨by first | rfl | (simp [errW_none, errW_some] <;> rfl) | (simp [*, errW_none, errW_some] <;> rfl), by repeat (first | (with_reducible first | exact HB.out | apply below_alloc | apply bdN | apply bd1 | refine below_set ?_ GE222.out | refine below_set ?_ GE247.out | refine below_set ?_ GE262.out | refine below_set ?_ GE277.out) | exact HB.out)⟩
    ·rw [if_neg c21] at H
     exact absurd H (by simp)

end Go.Proofs.Ytgkmagfajalnhaa.Y
