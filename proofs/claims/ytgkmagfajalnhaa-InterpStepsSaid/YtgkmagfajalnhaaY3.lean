-- Written by a program of this session (xprint), out of the translation. Not trusted: Lean checks it.
import Derived.Test.YtgkmagfajalnhaaY0
import Derived.Test.YtgkmagfajalnhaaY1
import Derived.Test.YtgkmagfajalnhaaY2
import Derived.Test.YtgkmagfajalnhaaYIExec
import Derived.Test.YtgkmagfajalnhaaYIStart
import Derived.Test.YtgkmagfajalnhaaYIStepE
namespace Go.Proofs.Ytgkmagfajalnhaa.Y
open Go.RowKit Go.Proofs.YtgkmagfajalnhaaW.PrintWords Go.Proofs.YtgkmagfajalnhaaW.PrintLast Go.Proofs.YtgkmagfajalnhaaW.PrintMore
attribute [local go_sem] max2_int min2_int max_two min_two max_three min_three max_four min_four   -- for this text's walks alone
set_option linter.unusedVariables false
set_option linter.unusedSimpArgs false

/-! ### regcertlaw09_InterpSteps: function 12 -/
mutual
def regcertlaw09_InterpSteps.j0 : Nat → List Int → Int → Bool → Int → Int → List (S50) → Option (Bool)
 | 0, _, _, _, _, _, _ => none
 | k + 1, x1, x2, x27, x230000, x230001, x230002 => if x27 = true then ((regcertlaw09_awake.f k).bind fun t232 => (some t232)) else ((interp_Start.f x230000 x230001 x230002 x1).bind fun bt233 => (regcertlaw09_InterpSteps.l0 k x1 (Int.tmod (wrap64 (x2)) 60) 0 x230000 x230001 x230002 bt233.1 bt233.2.1 bt233.2.2.1 bt233.2.2.2.1 bt233.2.2.2.2.1 bt233.2.2.2.2.2.1 bt233.2.2.2.2.2.2.1 bt233.2.2.2.2.2.2.2.1))
def regcertlaw09_InterpSteps.l0 : Nat → List Int → Int → Int → Int → Int → List (S50) → Int → Int → Int → Int → List Int → List Int → List Int → Int → Option (Bool)
 | 0, _, _, _, _, _, _, _, _, _, _, _, _, _, _ => none
 | k + 1, x1, x7, x10, x230000, x230001, x230002, x249000, x249001, x249002, x249003, x249004, x249005, x249006, x249007 => if x10 < x7 then (if (x249004.length : Int) = x230001 then (if x249001 < 0 then (regcertlaw09_InterpSteps.j2 k x1 x7 x10 true x230000 x230001 x230002 x249000 x249001 x249002 x249003 x249004 x249005 x249006 x249007) else (regcertlaw09_InterpSteps.j2 k x1 x7 x10 (decide (x249001 ≥ (x230002.length : Int))) x230000 x230001 x230002 x249000 x249001 x249002 x249003 x249004 x249005 x249006 x249007)) else (regcertlaw09_InterpSteps.j2 k x1 x7 x10 true x230000 x230001 x230002 x249000 x249001 x249002 x249003 x249004 x249005 x249006 x249007)) else ((interp_Exec.f k x230000 x230001 x230002 x1 x7).bind fun bt263 => ((regcertref09_Same.f k x249000 x249001 x249002 x249003 x249004 x249005 x249006 x249007 bt263.1 bt263.2.1 bt263.2.2.1 bt263.2.2.2.1 bt263.2.2.2.2.1 bt263.2.2.2.2.2.1 bt263.2.2.2.2.2.2.1 bt263.2.2.2.2.2.2.2.1).bind fun t279 => (some t279)))
def regcertlaw09_InterpSteps.j2 : Nat → List Int → Int → Int → Bool → Int → Int → List (S50) → Int → Int → Int → Int → List Int → List Int → List Int → Int → Option (Bool)
 | 0, _, _, _, _, _, _, _, _, _, _, _, _, _, _, _ => none
 | k + 1, x1, x7, x10, x61, x230000, x230001, x230002, x249000, x249001, x249002, x249003, x249004, x249005, x249006, x249007 => if x61 = true then (some false) else ((interp_Step.f x230000 x230001 x230002 x249000 x249001 x249002 x249003 x249004 x249005 x249006 x249007).bind fun bt249 => (regcertlaw09_InterpSteps.l0 k x1 x7 (wrap64 (x10 + 1)) x230000 x230001 x230002 bt249.1 bt249.2.1 bt249.2.2.1 bt249.2.2.2.1 bt249.2.2.2.2.1 bt249.2.2.2.2.2.1 bt249.2.2.2.2.2.2.1 bt249.2.2.2.2.2.2.2))
end
def regcertlaw09_InterpSteps.f (k : Nat) (a0_0 : Int) (a0_1 : Int) (l0_2 : List (S50)) (l1 : List Int) (a2 : Int) : Option (Bool) := (regcertlaw09_awake.f k).bind fun t230 => (if t230 = true then ((regcertref09_Right.f k a0_0 a0_1 l0_2 l1 0).bind fun t231 => (if t231 = true then (regcertlaw09_InterpSteps.j0 k l1 a2 ((l1.length : Int) != a0_0) a0_0 a0_1 l0_2) else (regcertlaw09_InterpSteps.j0 k l1 a2 true a0_0 a0_1 l0_2))) else (regcertlaw09_InterpSteps.j0 k l1 a2 true a0_0 a0_1 l0_2))
theorem regcertlaw09_InterpSteps.mono_l : ∀ k, (∀ y0 y1 y2 y3 y4 y5, LeO (regcertlaw09_InterpSteps.j0 k y0 y1 y2 y3 y4 y5) (regcertlaw09_InterpSteps.j0 (k + 1) y0 y1 y2 y3 y4 y5)) ∧ (∀ y0 y1 y2 y3 y4 y5 y6 y7 y8 y9 y10 y11 y12 y13, LeO (regcertlaw09_InterpSteps.l0 k y0 y1 y2 y3 y4 y5 y6 y7 y8 y9 y10 y11 y12 y13) (regcertlaw09_InterpSteps.l0 (k + 1) y0 y1 y2 y3 y4 y5 y6 y7 y8 y9 y10 y11 y12 y13)) ∧ (∀ y0 y1 y2 y3 y4 y5 y6 y7 y8 y9 y10 y11 y12 y13 y14, LeO (regcertlaw09_InterpSteps.j2 k y0 y1 y2 y3 y4 y5 y6 y7 y8 y9 y10 y11 y12 y13 y14) (regcertlaw09_InterpSteps.j2 (k + 1) y0 y1 y2 y3 y4 y5 y6 y7 y8 y9 y10 y11 y12 y13 y14))
 | 0 => ⟨fun _ _ _ _ _ _ r h => by simp [regcertlaw09_InterpSteps.j0] at h, fun _ _ _ _ _ _ _ _ _ _ _ _ _ _ r h => by simp [regcertlaw09_InterpSteps.l0] at h, fun _ _ _ _ _ _ _ _ _ _ _ _ _ _ _ r h => by simp [regcertlaw09_InterpSteps.j2] at h⟩
 | k + 1 => by
  obtain ⟨ih0, ih1, ih2⟩ := regcertlaw09_InterpSteps.mono_l k
  refine ⟨?_, ?_, ?_⟩
  ·intro y0 y1 y2 y3 y4 y5
   unfold regcertlaw09_InterpSteps.j0
   repeat' first
   | (with_reducible exact ih0 _ _ _ _ _ _)
   | (with_reducible exact ih1 _ _ _ _ _ _ _ _ _ _ _ _ _ _)
   | (with_reducible exact ih2 _ _ _ _ _ _ _ _ _ _ _ _ _ _ _)
   | (with_reducible exact interp_Exec.mono _ _ _ _ _ _)
   | (with_reducible exact regcertlaw09_awake.mono _)
   | (with_reducible exact regcertref09_Right.mono _ _ _ _ _ _)
   | (with_reducible exact regcertref09_Same.mono _ _ _ _ _ _ _ _ _ _ _ _ _ _ _ _ _)
   | (with_reducible exact LeO.refl _)
   | (with_reducible exact LeO.none _)
   | (with_reducible refine LeO.ite ?_ ?_)
   | (with_reducible refine LeO.bind ?_ (fun _ => ?_))
   | exact ih0 _ _ _ _ _ _
   | exact ih1 _ _ _ _ _ _ _ _ _ _ _ _ _ _
   | exact ih2 _ _ _ _ _ _ _ _ _ _ _ _ _ _ _
   | exact interp_Exec.mono _ _ _ _ _ _
   | exact regcertlaw09_awake.mono _
   | exact regcertref09_Right.mono _ _ _ _ _ _
   | exact regcertref09_Same.mono _ _ _ _ _ _ _ _ _ _ _ _ _ _ _ _ _
   | exact LeO.none _
   | refine LeO.ite ?_ ?_
   | refine LeO.bind ?_ (fun _ => ?_)
  ·intro y0 y1 y2 y3 y4 y5 y6 y7 y8 y9 y10 y11 y12 y13
   unfold regcertlaw09_InterpSteps.l0
   repeat' first
   | (with_reducible exact ih0 _ _ _ _ _ _)
   | (with_reducible exact ih1 _ _ _ _ _ _ _ _ _ _ _ _ _ _)
   | (with_reducible exact ih2 _ _ _ _ _ _ _ _ _ _ _ _ _ _ _)
   | (with_reducible exact interp_Exec.mono _ _ _ _ _ _)
   | (with_reducible exact regcertlaw09_awake.mono _)
   | (with_reducible exact regcertref09_Right.mono _ _ _ _ _ _)
   | (with_reducible exact regcertref09_Same.mono _ _ _ _ _ _ _ _ _ _ _ _ _ _ _ _ _)
   | (with_reducible exact LeO.refl _)
   | (with_reducible exact LeO.none _)
   | (with_reducible refine LeO.ite ?_ ?_)
   | (with_reducible refine LeO.bind ?_ (fun _ => ?_))
   | exact ih0 _ _ _ _ _ _
   | exact ih1 _ _ _ _ _ _ _ _ _ _ _ _ _ _
   | exact ih2 _ _ _ _ _ _ _ _ _ _ _ _ _ _ _
   | exact interp_Exec.mono _ _ _ _ _ _
   | exact regcertlaw09_awake.mono _
   | exact regcertref09_Right.mono _ _ _ _ _ _
   | exact regcertref09_Same.mono _ _ _ _ _ _ _ _ _ _ _ _ _ _ _ _ _
   | exact LeO.none _
   | refine LeO.ite ?_ ?_
   | refine LeO.bind ?_ (fun _ => ?_)
  ·intro y0 y1 y2 y3 y4 y5 y6 y7 y8 y9 y10 y11 y12 y13 y14
   unfold regcertlaw09_InterpSteps.j2
   repeat' first
   | (with_reducible exact ih0 _ _ _ _ _ _)
   | (with_reducible exact ih1 _ _ _ _ _ _ _ _ _ _ _ _ _ _)
   | (with_reducible exact ih2 _ _ _ _ _ _ _ _ _ _ _ _ _ _ _)
   | (with_reducible exact interp_Exec.mono _ _ _ _ _ _)
   | (with_reducible exact regcertlaw09_awake.mono _)
   | (with_reducible exact regcertref09_Right.mono _ _ _ _ _ _)
   | (with_reducible exact regcertref09_Same.mono _ _ _ _ _ _ _ _ _ _ _ _ _ _ _ _ _)
   | (with_reducible exact LeO.refl _)
   | (with_reducible exact LeO.none _)
   | (with_reducible refine LeO.ite ?_ ?_)
   | (with_reducible refine LeO.bind ?_ (fun _ => ?_))
   | exact ih0 _ _ _ _ _ _
   | exact ih1 _ _ _ _ _ _ _ _ _ _ _ _ _ _
   | exact ih2 _ _ _ _ _ _ _ _ _ _ _ _ _ _ _
   | exact interp_Exec.mono _ _ _ _ _ _
   | exact regcertlaw09_awake.mono _
   | exact regcertref09_Right.mono _ _ _ _ _ _
   | exact regcertref09_Same.mono _ _ _ _ _ _ _ _ _ _ _ _ _ _ _ _ _
   | exact LeO.none _
   | refine LeO.ite ?_ ?_
   | refine LeO.bind ?_ (fun _ => ?_)
theorem regcertlaw09_InterpSteps.mono : ∀ a0 a1 a2 a3 a4 k, LeO (regcertlaw09_InterpSteps.f k a0 a1 a2 a3 a4) (regcertlaw09_InterpSteps.f (k + 1) a0 a1 a2 a3 a4) := by
 intro a0 a1 a2 a3 a4 k
 obtain ⟨ih0, ih1, ih2⟩ := regcertlaw09_InterpSteps.mono_l k
 unfold regcertlaw09_InterpSteps.f
 repeat' first
   | (with_reducible exact ih0 _ _ _ _ _ _)
   | (with_reducible exact ih1 _ _ _ _ _ _ _ _ _ _ _ _ _ _)
   | (with_reducible exact ih2 _ _ _ _ _ _ _ _ _ _ _ _ _ _ _)
   | (with_reducible exact interp_Exec.mono _ _ _ _ _ _)
   | (with_reducible exact regcertlaw09_awake.mono _)
   | (with_reducible exact regcertref09_Right.mono _ _ _ _ _ _)
   | (with_reducible exact regcertref09_Same.mono _ _ _ _ _ _ _ _ _ _ _ _ _ _ _ _ _)
   | (with_reducible exact LeO.refl _)
   | (with_reducible exact LeO.none _)
   | (with_reducible refine LeO.ite ?_ ?_)
   | (with_reducible refine LeO.bind ?_ (fun _ => ?_))
   | exact ih0 _ _ _ _ _ _
   | exact ih1 _ _ _ _ _ _ _ _ _ _ _ _ _ _
   | exact ih2 _ _ _ _ _ _ _ _ _ _ _ _ _ _ _
   | exact interp_Exec.mono _ _ _ _ _ _
   | exact regcertlaw09_awake.mono _
   | exact regcertref09_Right.mono _ _ _ _ _ _
   | exact regcertref09_Same.mono _ _ _ _ _ _ _ _ _ _ _ _ _ _ _ _ _
   | exact LeO.none _
   | refine LeO.ite ?_ ?_
   | refine LeO.bind ?_ (fun _ => ?_)
set_option maxHeartbeats 8000000 in
set_option maxRecDepth 100000 in
theorem regcertlaw09_InterpSteps.calls (k : Nat) (a0_0 : Int) (a0_1 : Int) (A0_2 : Option Addr) (c0_2 : Nat) (l0_2 : List (S50)) (A1 : Option Addr) (c1 : Nat) (l1 : List Int) (a2 : Int) (r : Bool) (w : World) (hr0_2 : Kd.C k50 w A0_2 l0_2.length l0_2) (hc0_2 : l0_2.length ≤ c0_2) (hr1 : Kd.C (Kd.int .i64) w A1 l1.length l1) (hc1 : l1.length ≤ c1) (h : regcertlaw09_InterpSteps.f k a0_0 a0_1 l0_2 l1 a2 = some r) :
  Calls Try.prog 12 #[.agg #[.int .i64 a0_0, .int .i64 a0_1, .slice A0_2 l0_2.length c0_2], .slice A1 l1.length c1, .int .u8 a2] w fun e w' => e = .returned (.bool r) ∧ Below w.heap.size w w' := by
 have hu34 := Try.underlying34
 have hu39 := Try.underlying39
 have HR0_2 := As0 hr0_2
 have HC0_2 := As0 hc0_2
 clear hr0_2 hc0_2
 have HR1 := As0 hr1
 have HC1 := As0 hc1
 clear hr1 hc1
 have HB := As0 (Below.refl w.heap.size w)
 have H : ((regcertlaw09_awake.f k).bind fun t230 => (if t230 = true then ((regcertref09_Right.f k a0_0 a0_1 l0_2 l1 0).bind fun t231 => (if t231 = true then (regcertlaw09_InterpSteps.j0 k l1 a2 ((l1.length : Int) != a0_0) a0_0 a0_1 l0_2) else (regcertlaw09_InterpSteps.j0 k l1 a2 true a0_0 a0_1 l0_2))) else (regcertlaw09_InterpSteps.j0 k l1 a2 true a0_0 a0_1 l0_2))) = some r := h
 clear h
 have HC4 := As0 H
 clear H
 go_enter Try.func12, Try.ntmps12
 go_upto_region 1 with (first | ((with_reducible refine gate_dst (N := 3) rfl ?_); (try (refine gate_guard (by rfl) ?_; dsimp only)); refine box_event ?hg (N := 3) ?hd (cs := #[.int .i64 a0_0, .int .i64 a0_1, .slice A0_2 l0_2.length c0_2]) (t := 34) ?hr ?_; (case hd => rfl); (case hg => rfl); (case hr => first | (go_simp; done) | (go_simp; rfl)); intro gb229 hg w5 hbox hb; have n0_ := As0 (below_step (by repeat (first | (with_reducible first | exact HB.out | apply below_alloc | apply bdN | apply bd1) | exact HB.out)) hb); have n1_ := As0 (hbox); have n2_ := As0 ((by rw [hg]; exact (below_size (by repeat (first | (with_reducible first | exact HB.out | apply below_alloc | apply bdN | apply bd1) | exact HB.out))) : w.heap.size ≤ gb229)); have n3_ := As0 ((by rw [hg]; exact (below_size (by repeat (first | (with_reducible first | exact HB.out | apply below_alloc | apply bdN | apply bd1) | exact HB.out))) : w.heap.size ≤ gb229)); clear HB; have HB := n0_; have BK229 := n1_; have GW229 := n2_; have GE229 := n3_; clear n0_ n1_ n2_ n3_; clear hb hbox hg))
 (try simp only [Act.put, sL1, sL2, sL3])
 go_cut [27] (fun v27 wc => ∃ (kq : Nat) (x27_3 : Bool), v27 = .bool x27_3 ∧ Aside0 (regcertlaw09_InterpSteps.j0 kq l1 a2 x27_3 a0_0 a0_1 l0_2 = some r) ∧ Aside0 (kq ≤ k) ∧ Aside0 (wc.heap[gb229]? = some (.cells #[.int .i64 a0_0, .int .i64 a0_1, (.slice A0_2 l0_2.length c0_2)] 34 (0, 0))) ∧ Aside0 (Below w.heap.size w wc))
 case first =>
  have H := HC4.out
  clear HC4
  replace H := Option.bind_eq_some_iff.mp H
  obtain ⟨t230, A60, H⟩ := H
  replace H : (if t230 = true then ((regcertref09_Right.f k a0_0 a0_1 l0_2 l1 0).bind fun t231 => (if t231 = true then (regcertlaw09_InterpSteps.j0 k l1 a2 ((l1.length : Int) != a0_0) a0_0 a0_1 l0_2) else (regcertlaw09_InterpSteps.j0 k l1 a2 true a0_0 a0_1 l0_2))) else (regcertlaw09_InterpSteps.j0 k l1 a2 true a0_0 a0_1 l0_2)) = some r := H
  have A6 := As0 A60
  clear A60
  by_cases c7 : t230 = true
  ·subst c7
   have H1 : ((regcertref09_Right.f k a0_0 a0_1 l0_2 l1 0).bind fun t231 => (if t231 = true then (regcertlaw09_InterpSteps.j0 k l1 a2 ((l1.length : Int) != a0_0) a0_0 a0_1 l0_2) else (regcertlaw09_InterpSteps.j0 k l1 a2 true a0_0 a0_1 l0_2))) = some r := by rw [if_pos rfl] at H; exact H
   clear H
   have H := H1
   clear H1
   replace H := Option.bind_eq_some_iff.mp H
   obtain ⟨t231, A80, H⟩ := H
   replace H : (if t231 = true then (regcertlaw09_InterpSteps.j0 k l1 a2 ((l1.length : Int) != a0_0) a0_0 a0_1 l0_2) else (regcertlaw09_InterpSteps.j0 k l1 a2 true a0_0 a0_1 l0_2)) = some r := H
   have A8 := As0 A80
   clear A80
   by_cases c9 : t231 = true
   ·subst c9
    have H1 : (regcertlaw09_InterpSteps.j0 k l1 a2 ((l1.length : Int) != a0_0) a0_0 a0_1 l0_2) = some r := by rw [if_pos rfl] at H; exact H
    clear H
    have H := H1
    clear H1
    have H' := As0 H
    clear H
    go_wp2_with (first | ((with_reducible refine gate_callee (f := 29) rfl ?_); refine goesL_ (some 13) rfl rfl Try.func29 (by kernel_rfl) rfl #[] rfl (by (try simp only [List.map_toArray, List.map_cons, List.map_nil]); first | done | rfl | (simp only [List.length_drop, List.length_take]; rfl)) ?_; (with_reducible refine (regcertlaw09_awake.calls k  true _ A6.out).mono ?_); rintro e w10 ⟨rfl, hb⟩; refine ⟨_, rfl, ?_⟩; have n0_ := As0 (blk_below (g := gb229) (o := .cells #[.int .i64 a0_0, .int .i64 a0_1, .slice A0_2 l0_2.length c0_2] 34 (0, 0)) (by (with_reducible repeat (first | refine blk_drewN ?_ _ | refine blk_drew ?_ | refine blk_alloc ?_ _)); exact BK229.out) hb); have n1_ := As0 (below_step (by repeat (first | (with_reducible first | exact HB.out | apply below_alloc | apply bdN | apply bd1 | refine below_set ?_ GE229.out) | exact HB.out)) hb); clear BK229; clear HB; have BK229 := n0_; have HB := n1_; clear n0_ n1_; (try clear hb); (try clear hb2); (try clear hk); (try clear hi); have hcz11_0 : w10.cell? ⟨gb229, 0, none⟩ = some (.int .i64 a0_0) := (blk_cell BK229.out 0).trans rfl; have hcz11_1 : w10.cell? ⟨gb229, 1, none⟩ = some (.int .i64 a0_1) := (blk_cell BK229.out 1).trans rfl; have hcz11_2 : w10.cell? ⟨gb229, 2, none⟩ = some (.slice A0_2 l0_2.length c0_2) := (blk_cell BK229.out 2).trans rfl; have hfz11_0 := blk_frozen BK229.out 0; have hfz11_1 := blk_frozen BK229.out 1; have hfz11_2 := blk_frozen BK229.out 2) | (go_at_call 30; (with_reducible refine (regcertref09_Right.calls k a0_0 a0_1 _ _ l0_2 _ _ l1 0 true _ ?side1 ?side2 ?side3 ?side4 A8.out).mono ?_); (case side1 => repeat (first | exact (Kd.C_below HR0_2.out HB.out) | (with_reducible refine Kd.C_alloc ?_ _) | (with_reducible refine Kd.C_drewN ?_ _) | (with_reducible refine Kd.C_drew ?_))); (case side2 => exact HC0_2.out); (case side3 => repeat (first | exact (Kd.C_below HR1.out HB.out) | (with_reducible refine Kd.C_alloc ?_ _) | (with_reducible refine Kd.C_drewN ?_ _) | (with_reducible refine Kd.C_drew ?_))); (case side4 => exact HC1.out); rintro e w12 ⟨rfl, hb⟩; have n0_ := As0 (blk_below (g := gb229) (o := .cells #[.int .i64 a0_0, .int .i64 a0_1, .slice A0_2 l0_2.length c0_2] 34 (0, 0)) (by (with_reducible repeat (first | refine blk_drewN ?_ _ | refine blk_drew ?_ | refine blk_alloc ?_ _)); exact BK229.out) hb); have n1_ := As0 (below_step (by repeat (first | (with_reducible first | exact HB.out | apply below_alloc | apply bdN | apply bd1 | refine below_set ?_ GE229.out) | exact HB.out)) hb); clear BK229; clear HB; have BK229 := n0_; have HB := n1_; clear n0_ n1_; (try clear hb); (try clear hb2); (try clear hk); (try clear hi); have hcz13_0 : w12.cell? ⟨gb229, 0, none⟩ = some (.int .i64 a0_0) := (blk_cell BK229.out 0).trans rfl; have hcz13_1 : w12.cell? ⟨gb229, 1, none⟩ = some (.int .i64 a0_1) := (blk_cell BK229.out 1).trans rfl; have hcz13_2 : w12.cell? ⟨gb229, 2, none⟩ = some (.slice A0_2 l0_2.length c0_2) := (blk_cell BK229.out 2).trans rfl; have hfz13_0 := blk_frozen BK229.out 0; have hfz13_1 := blk_frozen BK229.out 1; have hfz13_2 := blk_frozen BK229.out 2))
    go_meet
    case rel => exact ⟨_, (((l1.length : Int) != a0_0)), (by first | rfl | (simp; done) | (simp [*]; done)), H', ⟨by first | omega | exact Nat.le_refl _⟩, ⟨by (with_reducible repeat (first | refine blk_drewN ?_ _ | refine blk_drew ?_ | refine blk_alloc ?_ _)); exact BK229.out⟩, ⟨by repeat (first | (with_reducible first | exact HB.out | apply below_alloc | apply bdN | apply bd1 | refine below_set ?_ GE229.out) | exact HB.out)⟩⟩
   ·replace c9 := Bool.eq_false_iff.mpr c9
    subst c9
    have H1 : (regcertlaw09_InterpSteps.j0 k l1 a2 true a0_0 a0_1 l0_2) = some r := by rw [if_neg (show ¬ (false = true) by decide)] at H; exact H
    clear H
    have H := H1
    clear H1
    have H' := As0 H
    clear H
    go_wp2_with (first | ((with_reducible refine gate_callee (f := 29) rfl ?_); refine goesL_ (some 13) rfl rfl Try.func29 (by kernel_rfl) rfl #[] rfl (by (try simp only [List.map_toArray, List.map_cons, List.map_nil]); first | done | rfl | (simp only [List.length_drop, List.length_take]; rfl)) ?_; (with_reducible refine (regcertlaw09_awake.calls k  true _ A6.out).mono ?_); rintro e w14 ⟨rfl, hb⟩; refine ⟨_, rfl, ?_⟩; have n0_ := As0 (blk_below (g := gb229) (o := .cells #[.int .i64 a0_0, .int .i64 a0_1, .slice A0_2 l0_2.length c0_2] 34 (0, 0)) (by (with_reducible repeat (first | refine blk_drewN ?_ _ | refine blk_drew ?_ | refine blk_alloc ?_ _)); exact BK229.out) hb); have n1_ := As0 (below_step (by repeat (first | (with_reducible first | exact HB.out | apply below_alloc | apply bdN | apply bd1 | refine below_set ?_ GE229.out) | exact HB.out)) hb); clear BK229; clear HB; have BK229 := n0_; have HB := n1_; clear n0_ n1_; (try clear hb); (try clear hb2); (try clear hk); (try clear hi); have hcz15_0 : w14.cell? ⟨gb229, 0, none⟩ = some (.int .i64 a0_0) := (blk_cell BK229.out 0).trans rfl; have hcz15_1 : w14.cell? ⟨gb229, 1, none⟩ = some (.int .i64 a0_1) := (blk_cell BK229.out 1).trans rfl; have hcz15_2 : w14.cell? ⟨gb229, 2, none⟩ = some (.slice A0_2 l0_2.length c0_2) := (blk_cell BK229.out 2).trans rfl; have hfz15_0 := blk_frozen BK229.out 0; have hfz15_1 := blk_frozen BK229.out 1; have hfz15_2 := blk_frozen BK229.out 2) | (go_at_call 30; (with_reducible refine (regcertref09_Right.calls k a0_0 a0_1 _ _ l0_2 _ _ l1 0 false _ ?side1 ?side2 ?side3 ?side4 A8.out).mono ?_); (case side1 => repeat (first | exact (Kd.C_below HR0_2.out HB.out) | (with_reducible refine Kd.C_alloc ?_ _) | (with_reducible refine Kd.C_drewN ?_ _) | (with_reducible refine Kd.C_drew ?_))); (case side2 => exact HC0_2.out); (case side3 => repeat (first | exact (Kd.C_below HR1.out HB.out) | (with_reducible refine Kd.C_alloc ?_ _) | (with_reducible refine Kd.C_drewN ?_ _) | (with_reducible refine Kd.C_drew ?_))); (case side4 => exact HC1.out); rintro e w16 ⟨rfl, hb⟩; have n0_ := As0 (blk_below (g := gb229) (o := .cells #[.int .i64 a0_0, .int .i64 a0_1, .slice A0_2 l0_2.length c0_2] 34 (0, 0)) (by (with_reducible repeat (first | refine blk_drewN ?_ _ | refine blk_drew ?_ | refine blk_alloc ?_ _)); exact BK229.out) hb); have n1_ := As0 (below_step (by repeat (first | (with_reducible first | exact HB.out | apply below_alloc | apply bdN | apply bd1 | refine below_set ?_ GE229.out) | exact HB.out)) hb); clear BK229; clear HB; have BK229 := n0_; have HB := n1_; clear n0_ n1_; (try clear hb); (try clear hb2); (try clear hk); (try clear hi)))
    go_meet
    case rel => exact ⟨_, (true), (by first | rfl | (simp; done) | (simp [*]; done)), H', ⟨by first | omega | exact Nat.le_refl _⟩, ⟨by (with_reducible repeat (first | refine blk_drewN ?_ _ | refine blk_drew ?_ | refine blk_alloc ?_ _)); exact BK229.out⟩, ⟨by repeat (first | (with_reducible first | exact HB.out | apply below_alloc | apply bdN | apply bd1 | refine below_set ?_ GE229.out) | exact HB.out)⟩⟩
  ·replace c7 := Bool.eq_false_iff.mpr c7
   subst c7
   have H1 : (regcertlaw09_InterpSteps.j0 k l1 a2 true a0_0 a0_1 l0_2) = some r := by rw [if_neg (show ¬ (false = true) by decide)] at H; exact H
   clear H
   have H := H1
   clear H1
   have H' := As0 H
   clear H
   go_wp2_with (first | ((with_reducible refine gate_callee (f := 29) rfl ?_); refine goesL_ (some 13) rfl rfl Try.func29 (by kernel_rfl) rfl #[] rfl (by (try simp only [List.map_toArray, List.map_cons, List.map_nil]); first | done | rfl | (simp only [List.length_drop, List.length_take]; rfl)) ?_; (with_reducible refine (regcertlaw09_awake.calls k  false _ A6.out).mono ?_); rintro e w17 ⟨rfl, hb⟩; refine ⟨_, rfl, ?_⟩; have n0_ := As0 (blk_below (g := gb229) (o := .cells #[.int .i64 a0_0, .int .i64 a0_1, .slice A0_2 l0_2.length c0_2] 34 (0, 0)) (by (with_reducible repeat (first | refine blk_drewN ?_ _ | refine blk_drew ?_ | refine blk_alloc ?_ _)); exact BK229.out) hb); have n1_ := As0 (below_step (by repeat (first | (with_reducible first | exact HB.out | apply below_alloc | apply bdN | apply bd1 | refine below_set ?_ GE229.out) | exact HB.out)) hb); clear BK229; clear HB; have BK229 := n0_; have HB := n1_; clear n0_ n1_; (try clear hb); (try clear hb2); (try clear hk); (try clear hi)))
   go_meet
   case rel => exact ⟨_, (true), (by first | rfl | (simp; done) | (simp [*]; done)), H', ⟨by first | omega | exact Nat.le_refl _⟩, ⟨by (with_reducible repeat (first | refine blk_drewN ?_ _ | refine blk_drew ?_ | refine blk_alloc ?_ _)); exact BK229.out⟩, ⟨by repeat (first | (with_reducible first | exact HB.out | apply below_alloc | apply bdN | apply bd1 | refine below_set ?_ GE229.out) | exact HB.out)⟩⟩
 case rest =>
  clear HC4
  try clear c1
  try clear c2
  try clear p2
  try clear c7
  try clear c9
  try clear c12
  try clear hcz11_0
  try clear hcz11_1
  try clear hcz11_2
  try clear hcz13_0
  try clear hcz13_1
  try clear hcz13_2
  try clear hcz15_0
  try clear hcz15_1
  try clear hcz15_2
  try clear hfz11_0
  try clear hfz11_1
  try clear hfz11_2
  try clear hfz13_0
  try clear hfz13_1
  try clear hfz13_2
  try clear hfz15_0
  try clear hfz15_1
  try clear hfz15_2
  obtain ⟨kq, x27_3, rfl, HA, HJ3, BK229, HB⟩ := hcut
  cases kq with
  | zero => exact absurd HA.out (by simp [regcertlaw09_InterpSteps.j0])
  | succ kj3 =>
   have H := HA.out
   clear HA
   simp only [regcertlaw09_InterpSteps.j0] at H
   by_cases c18 : x27_3 = true
   ·subst c18
    have H1 : ((regcertlaw09_awake.f kj3).bind fun t232 => (some t232)) = some r := by rw [if_pos rfl] at H; exact H
    clear H
    have H := H1
    clear H1
    replace H := Option.bind_eq_some_iff.mp H
    obtain ⟨t232, A190, H⟩ := H
    replace H : (some t232) = some r := H
    have A19 := As0 A190
    clear A190
    obtain rfl := Option.some.inj H
    go_wp2_with (first | ((with_reducible refine gate_callee (f := 29) rfl ?_); refine goesL_ (some 28) rfl rfl Try.func29 (by kernel_rfl) rfl #[] rfl (by (try simp only [List.map_toArray, List.map_cons, List.map_nil]); first | done | rfl | (simp only [List.length_drop, List.length_take]; rfl)) ?_; (with_reducible refine (regcertlaw09_awake.calls kj3  t232 _ A19.out).mono ?_); rintro e w20 ⟨rfl, hb⟩; refine ⟨_, rfl, ?_⟩; have n0_ := As0 (blk_below (g := gb229) (o := .cells #[.int .i64 a0_0, .int .i64 a0_1, .slice A0_2 l0_2.length c0_2] 34 (0, 0)) (by (with_reducible repeat (first | refine blk_drewN ?_ _ | refine blk_drew ?_ | refine blk_alloc ?_ _)); exact BK229.out) hb); have n1_ := As0 (below_step (by repeat (first | (with_reducible first | exact HB.out | apply below_alloc | apply bdN | apply bd1 | refine below_set ?_ GE229.out) | exact HB.out)) hb); clear BK229; clear HB; have BK229 := n0_; have HB := n1_; clear n0_ n1_; (try clear hb); (try clear hb2); (try clear hk); (try clear hi)))
    go_ret
    exact ⟨by first | rfl | (simp [errW_none, errW_some] <;> rfl) | (simp [*, errW_none, errW_some] <;> rfl), by repeat (first | (with_reducible first | exact HB.out | apply below_alloc | apply bdN | apply bd1 | refine below_set ?_ GE229.out) | exact HB.out)⟩
   ·replace c18 := Bool.eq_false_iff.mpr c18
    subst c18
    have H1 : ((interp_Start.f a0_0 a0_1 l0_2 l1).bind fun bt233 => (regcertlaw09_InterpSteps.l0 kj3 l1 (Int.tmod (wrap64 (a2)) 60) 0 a0_0 a0_1 l0_2 bt233.1 bt233.2.1 bt233.2.2.1 bt233.2.2.2.1 bt233.2.2.2.2.1 bt233.2.2.2.2.2.1 bt233.2.2.2.2.2.2.1 bt233.2.2.2.2.2.2.2.1)) = some r := by rw [if_neg (show ¬ (false = true) by decide)] at H; exact H
    clear H
    have H := H1
    clear H1
    replace H := Option.bind_eq_some_iff.mp H
    obtain ⟨⟨t233, t234, t235, t236, t237, t240, t243, t246, t247⟩, A210, H⟩ := H
    replace H : (regcertlaw09_InterpSteps.l0 kj3 l1 (Int.tmod (wrap64 (a2)) 60) 0 a0_0 a0_1 l0_2 t233 t234 t235 t236 t237 t240 t243 t246) = some r := H
    have A21 := As0 A210
    clear A210
    have H' := As0 H
    clear H
    have hcz22_0 : wc.cell? ⟨gb229, 0, none⟩ = some (.int .i64 a0_0) := (blk_cell BK229.out 0).trans rfl
    have hcz22_1 : wc.cell? ⟨gb229, 1, none⟩ = some (.int .i64 a0_1) := (blk_cell BK229.out 1).trans rfl
    have hcz22_2 : wc.cell? ⟨gb229, 2, none⟩ = some (.slice A0_2 l0_2.length c0_2) := (blk_cell BK229.out 2).trans rfl
    have hfz22_0 := blk_frozen BK229.out 0
    have hfz22_1 := blk_frozen BK229.out 1
    have hfz22_2 := blk_frozen BK229.out 2
    go_wp2_with (first | ((with_reducible refine gate_callee (f := 40) rfl ?_); refine goesL_ (some 35) rfl rfl Try.func40 (by kernel_rfl) rfl #[.agg #[.int .i64 a0_0, .int .i64 a0_1, .slice A0_2 l0_2.length c0_2], .slice A1 l1.length c1] rfl (by (try simp only [List.map_toArray, List.map_cons, List.map_nil]); first | done | rfl | (simp only [List.length_drop, List.length_take]; rfl)) ?_; (with_reducible refine (interp_Start.calls a0_0 a0_1 _ _ l0_2 _ _ l1 t233 t234 t235 t236 t237 t240 t243 t246 t247 _ ?side1 ?side2 ?side3 ?side4 A21.out).mono ?_); (case side1 => repeat (first | exact (Kd.C_below HR0_2.out HB.out) | (with_reducible refine Kd.C_alloc ?_ _) | (with_reducible refine Kd.C_drewN ?_ _) | (with_reducible refine Kd.C_drew ?_))); (case side2 => exact HC0_2.out); (case side3 => repeat (first | exact (Kd.C_below HR1.out HB.out) | (with_reducible refine Kd.C_alloc ?_ _) | (with_reducible refine Kd.C_drewN ?_ _) | (with_reducible refine Kd.C_drew ?_))); (case side4 => exact HC1.out); rintro e w23 ⟨v238, v241, v244, rfl, ho0, ho1, ho2, hb⟩; refine ⟨_, rfl, ?_⟩; have n0_ := As0 (Kd.R_lower ho0 (below_size (by repeat (first | (with_reducible first | exact HB.out | apply below_alloc | apply bdN | apply bd1 | refine below_set ?_ GE229.out) | exact HB.out)))); have n1_ := As0 (Kd.R_lower ho1 (below_size (by repeat (first | (with_reducible first | exact HB.out | apply below_alloc | apply bdN | apply bd1 | refine below_set ?_ GE229.out) | exact HB.out)))); have n2_ := As0 (Kd.R_lower ho2 (below_size (by repeat (first | (with_reducible first | exact HB.out | apply below_alloc | apply bdN | apply bd1 | refine below_set ?_ GE229.out) | exact HB.out)))); have n3_ := As0 (blk_below (g := gb229) (o := .cells #[.int .i64 a0_0, .int .i64 a0_1, .slice A0_2 l0_2.length c0_2] 34 (0, 0)) (by (with_reducible repeat (first | refine blk_drewN ?_ _ | refine blk_drew ?_ | refine blk_alloc ?_ _)); exact BK229.out) hb); have n4_ := As0 (below_step (by repeat (first | (with_reducible first | exact HB.out | apply below_alloc | apply bdN | apply bd1 | refine below_set ?_ GE229.out) | exact HB.out)) hb); clear BK229; clear HB; have HO239 := n0_; have HO242 := n1_; have HO245 := n2_; have BK229 := n3_; have HB := n4_; clear n0_ n1_ n2_ n3_ n4_; (try clear hb); (try clear hb2); (try clear hk); (try clear hi); (try clear ho0); (try clear ho1); (try clear ho2)) | ((with_reducible refine gate_dst (N := 8) rfl ?_); (try (refine gate_guard (by rfl) ?_; dsimp only)); refine box_event ?hg (N := 8) ?hd (cs := #[.int .i64 0, .int .i64 0, .int .i64 0, .int .i64 0, .slice none 0 0, .slice none 0 0, .slice none 0 0, .int .i64 0]) (t := 39) ?hr ?_; (case hd => rfl); (case hg => rfl); (case hr => first | (go_simp; done) | (go_simp; rfl)); intro gb248 hg w24 hbox hb; have n0_ := As0 (Kd.R_below (by (with_reducible repeat (first | apply Kd.R_alloc | apply Kd.R_drewN | apply Kd.R_drew)); exact HO239.out) hb); have n1_ := As0 (Kd.R_below (by (with_reducible repeat (first | apply Kd.R_alloc | apply Kd.R_drewN | apply Kd.R_drew)); exact HO242.out) hb); have n2_ := As0 (Kd.R_below (by (with_reducible repeat (first | apply Kd.R_alloc | apply Kd.R_drewN | apply Kd.R_drew)); exact HO245.out) hb); have n3_ := As0 (blk_below (g := gb229) (o := .cells #[.int .i64 a0_0, .int .i64 a0_1, .slice A0_2 l0_2.length c0_2] 34 (0, 0)) (by (with_reducible repeat (first | refine blk_drewN ?_ _ | refine blk_drew ?_ | refine blk_alloc ?_ _)); exact BK229.out) hb); have n4_ := As0 (below_step (by repeat (first | (with_reducible first | exact HB.out | apply below_alloc | apply bdN | apply bd1 | refine below_set ?_ GE229.out) | exact HB.out)) hb); have n5_ := As0 (hbox); have n6_ := As0 ((by rw [hg]; exact (below_size (by repeat (first | (with_reducible first | exact HB.out | apply below_alloc | apply bdN | apply bd1 | refine below_set ?_ GE229.out) | exact HB.out))) : w.heap.size ≤ gb248)); have n7_ := As0 ((by rw [hg]; exact (below_size (by repeat (first | (with_reducible first | exact HB.out | apply below_alloc | apply bdN | apply bd1 | refine below_set ?_ GE229.out) | exact HB.out))) : w.heap.size ≤ gb248)); have n8_ := As0 ((by rw [hg]; exact Nat.ne_of_lt (blk_lt (g := gb229) (o := .cells #[.int .i64 a0_0, .int .i64 a0_1, .slice A0_2 l0_2.length c0_2] 34 (0, 0)) (by (with_reducible repeat (first | refine blk_drewN ?_ _ | refine blk_drew ?_ | refine blk_alloc ?_ _)); exact BK229.out)) : gb229 ≠ gb248)); have n9_ := As0 ((by rw [hg]; exact Nat.ne_of_gt (blk_lt (g := gb229) (o := .cells #[.int .i64 a0_0, .int .i64 a0_1, .slice A0_2 l0_2.length c0_2] 34 (0, 0)) (by (with_reducible repeat (first | refine blk_drewN ?_ _ | refine blk_drew ?_ | refine blk_alloc ?_ _)); exact BK229.out)) : gb248 ≠ gb229)); clear HO239; clear HO242; clear HO245; clear BK229; clear HB; have HO239 := n0_; have HO242 := n1_; have HO245 := n2_; have BK229 := n3_; have HB := n4_; have BK248 := n5_; have GW248 := n6_; have GE248 := n7_; have NB229_248 := n8_; have NB248_229 := n9_; clear n0_ n1_ n2_ n3_ n4_ n5_ n6_ n7_ n8_ n9_; clear hb hbox hg; have hnb25 := NB248_229.out; have hnc25 := NB229_248.out; have hcz26_0 : w24.cell? ⟨gb248, 0, none⟩ = some (.int .i64 0) := (blk_cell BK248.out 0).trans rfl; have hcz26_1 : w24.cell? ⟨gb248, 1, none⟩ = some (.int .i64 0) := (blk_cell BK248.out 1).trans rfl; have hcz26_2 : w24.cell? ⟨gb248, 2, none⟩ = some (.int .i64 0) := (blk_cell BK248.out 2).trans rfl; have hcz26_3 : w24.cell? ⟨gb248, 3, none⟩ = some (.int .i64 0) := (blk_cell BK248.out 3).trans rfl; have hcz26_4 : w24.cell? ⟨gb248, 4, none⟩ = some (.slice none 0 0) := (blk_cell BK248.out 4).trans rfl; have hcz26_5 : w24.cell? ⟨gb248, 5, none⟩ = some (.slice none 0 0) := (blk_cell BK248.out 5).trans rfl; have hcz26_6 : w24.cell? ⟨gb248, 6, none⟩ = some (.slice none 0 0) := (blk_cell BK248.out 6).trans rfl; have hcz26_7 : w24.cell? ⟨gb248, 7, none⟩ = some (.int .i64 0) := (blk_cell BK248.out 7).trans rfl; have hfz26_0 := blk_frozen BK248.out 0; have hfz26_1 := blk_frozen BK248.out 1; have hfz26_2 := blk_frozen BK248.out 2; have hfz26_3 := blk_frozen BK248.out 3; have hfz26_4 := blk_frozen BK248.out 4; have hfz26_5 := blk_frozen BK248.out 5; have hfz26_6 := blk_frozen BK248.out 6; have hfz26_7 := blk_frozen BK248.out 7; obtain ⟨Ao27, co27, eo27⟩ := Kd.R_slice HO239.out; subst eo27; obtain ⟨Ao28, co28, eo28⟩ := Kd.R_slice HO242.out; subst eo28; obtain ⟨Ao29, co29, eo29⟩ := Kd.R_slice HO245.out; subst eo29))
    go_loopg [10] kj3 (fun kq v10 w' => ∃ (x10_2 : Int) (x249000_2 : Int) (x249001_2 : Int) (x249002_2 : Int) (x249003_2 : Int) (x249004_2 : List Int) (x249005_2 : List Int) (x249006_2 : List Int) (x249007_2 : Int) (u249004 : Value) (u249005 : Value) (u249006 : Value), v10 = .int .i64 x10_2 ∧ Aside0 (regcertlaw09_InterpSteps.l0 kq l1 (Int.tmod (wrap64 (a2)) 60) x10_2 a0_0 a0_1 l0_2 x249000_2 x249001_2 x249002_2 x249003_2 x249004_2 x249005_2 x249006_2 x249007_2 = some r) ∧ Aside0 (kq ≤ kj3) ∧ Aside0 (Kd.R (Kd.int .i64) 2 w' w.heap.size (fun k_ => some k_ ≠ (u249006 : Value).ownBlock) u249004 x249004_2) ∧ Aside0 (Kd.V (Kd.int .i64) 2 w' w.heap.size (fun k_ => some k_ ≠ (u249004 : Value).ownBlock ∧ some k_ ≠ (u249006 : Value).ownBlock ∧ k_ ≠ gb229 ∧ k_ ≠ gb248) u249005 x249005_2) ∧ Aside0 (Kd.R (Kd.int .i64) 2 w' w.heap.size (fun k_ => some k_ ≠ (u249004 : Value).ownBlock) u249006 x249006_2) ∧ Aside0 (w'.heap[gb229]? = some (.cells #[.int .i64 a0_0, .int .i64 a0_1, (.slice A0_2 l0_2.length c0_2)] 34 (0, 0))) ∧ Aside0 (w'.heap[gb248]? = some (.cells #[.int .i64 x249000_2, .int .i64 x249001_2, .int .i64 x249002_2, .int .i64 x249003_2, u249004, u249005, u249006, .int .i64 x249007_2] 39 (0, 0))) ∧ Aside0 (Below w.heap.size w w'))
    case atStart => exact ⟨(0), (t233), (t234), (t235), (t236), (t237), (t240), (t243), (t246), (.slice Ao27 t237.length co27), (.slice Ao28 t240.length co28), (.slice Ao29 t243.length co29), (by first | rfl | (simp; done) | (simp [*]; done)), H', ⟨Nat.le_refl _⟩, ⟨by (with_reducible repeat (first | apply Kd.R_alloc | apply Kd.R_drewN | apply Kd.R_drew)); exact Kd.R_mono (Kd.R_far (p := ⟨gb248, 7, none⟩) (Kd.R_far (p := ⟨gb248, 6, none⟩) (Kd.R_far (p := ⟨gb248, 5, none⟩) (Kd.R_far (p := ⟨gb248, 4, none⟩) (Kd.R_far (p := ⟨gb248, 3, none⟩) (Kd.R_far (p := ⟨gb248, 2, none⟩) (Kd.R_far (p := ⟨gb248, 1, none⟩) (Kd.R_far (p := ⟨gb248, 0, none⟩) (Kd.R_types HO239.out BK248.out (by decide)) (fun _ hk => hk.2) (.int .i64 t233)) (fun _ hk => hk.2) (.int .i64 t234)) (fun _ hk => hk.2) (.int .i64 t235)) (fun _ hk => hk.2) (.int .i64 t236)) (fun _ hk => hk.2) (.slice Ao27 t237.length co27)) (fun _ hk => hk.2) (.slice Ao28 t240.length co28)) (fun _ hk => hk.2) (.slice Ao29 t243.length co29)) (fun _ hk => hk.2) (.int .i64 t246)) (fun _ hk => hk.1.2)⟩, ⟨Kd.R_V (by (with_reducible repeat (first | apply Kd.R_alloc | apply Kd.R_drewN | apply Kd.R_drew)); exact Kd.R_mono (Kd.R_far (p := ⟨gb248, 7, none⟩) (Kd.R_far (p := ⟨gb248, 6, none⟩) (Kd.R_far (p := ⟨gb248, 5, none⟩) (Kd.R_far (p := ⟨gb248, 4, none⟩) (Kd.R_far (p := ⟨gb248, 3, none⟩) (Kd.R_far (p := ⟨gb248, 2, none⟩) (Kd.R_far (p := ⟨gb248, 1, none⟩) (Kd.R_far (p := ⟨gb248, 0, none⟩) (Kd.R_types (Kd.R_types (Kd.R_types HO242.out BK229.out (by decide)) BK248.out (by decide)) BK248.out (by decide)) (fun _ hk => hk.2) (.int .i64 t233)) (fun _ hk => hk.2) (.int .i64 t234)) (fun _ hk => hk.2) (.int .i64 t235)) (fun _ hk => hk.2) (.int .i64 t236)) (fun _ hk => hk.2) (.slice Ao27 t237.length co27)) (fun _ hk => hk.2) (.slice Ao28 t240.length co28)) (fun _ hk => hk.2) (.slice Ao29 t243.length co29)) (fun _ hk => hk.2) (.int .i64 t246)) (fun _ hk => ⟨hk.1.1.1.1, ⟨hk.1.1.1.2, ⟨hk.1.1.2, hk.1.2⟩⟩⟩))⟩, ⟨by (with_reducible repeat (first | apply Kd.R_alloc | apply Kd.R_drewN | apply Kd.R_drew)); exact Kd.R_mono (Kd.R_far (p := ⟨gb248, 7, none⟩) (Kd.R_far (p := ⟨gb248, 6, none⟩) (Kd.R_far (p := ⟨gb248, 5, none⟩) (Kd.R_far (p := ⟨gb248, 4, none⟩) (Kd.R_far (p := ⟨gb248, 3, none⟩) (Kd.R_far (p := ⟨gb248, 2, none⟩) (Kd.R_far (p := ⟨gb248, 1, none⟩) (Kd.R_far (p := ⟨gb248, 0, none⟩) (Kd.R_types HO245.out BK248.out (by decide)) (fun _ hk => hk.2) (.int .i64 t233)) (fun _ hk => hk.2) (.int .i64 t234)) (fun _ hk => hk.2) (.int .i64 t235)) (fun _ hk => hk.2) (.int .i64 t236)) (fun _ hk => hk.2) (.slice Ao27 t237.length co27)) (fun _ hk => hk.2) (.slice Ao28 t240.length co28)) (fun _ hk => hk.2) (.slice Ao29 t243.length co29)) (fun _ hk => hk.2) (.int .i64 t246)) (fun _ hk => hk.1.1)⟩, ⟨by (with_reducible repeat (first | refine blk_drewN ?_ _ | refine blk_drew ?_ | refine blk_alloc ?_ _)); refine blk_far ?_ NB229_248.out _; (with_reducible repeat (first | refine blk_drewN ?_ _ | refine blk_drew ?_ | refine blk_alloc ?_ _)); refine blk_far ?_ NB229_248.out _; (with_reducible repeat (first | refine blk_drewN ?_ _ | refine blk_drew ?_ | refine blk_alloc ?_ _)); refine blk_far ?_ NB229_248.out _; (with_reducible repeat (first | refine blk_drewN ?_ _ | refine blk_drew ?_ | refine blk_alloc ?_ _)); refine blk_far ?_ NB229_248.out _; (with_reducible repeat (first | refine blk_drewN ?_ _ | refine blk_drew ?_ | refine blk_alloc ?_ _)); refine blk_far ?_ NB229_248.out _; (with_reducible repeat (first | refine blk_drewN ?_ _ | refine blk_drew ?_ | refine blk_alloc ?_ _)); refine blk_far ?_ NB229_248.out _; (with_reducible repeat (first | refine blk_drewN ?_ _ | refine blk_drew ?_ | refine blk_alloc ?_ _)); refine blk_far ?_ NB229_248.out _; (with_reducible repeat (first | refine blk_drewN ?_ _ | refine blk_drew ?_ | refine blk_alloc ?_ _)); refine blk_far ?_ NB229_248.out _; (with_reducible repeat (first | refine blk_drewN ?_ _ | refine blk_drew ?_ | refine blk_alloc ?_ _)); exact BK229.out⟩, ⟨by (with_reducible repeat (first | refine blk_drewN ?_ _ | refine blk_drew ?_ | refine blk_alloc ?_ _)); refine blk_put (cs := #[.int .i64 t233, .int .i64 t234, .int .i64 t235, .int .i64 t236, .slice Ao27 t237.length co27, .slice Ao28 t240.length co28, .slice Ao29 t243.length co29, .int .i64 0]) ?_ 7 _ rfl; (with_reducible repeat (first | refine blk_drewN ?_ _ | refine blk_drew ?_ | refine blk_alloc ?_ _)); refine blk_put (cs := #[.int .i64 t233, .int .i64 t234, .int .i64 t235, .int .i64 t236, .slice Ao27 t237.length co27, .slice Ao28 t240.length co28, .slice none 0 0, .int .i64 0]) ?_ 6 _ rfl; (with_reducible repeat (first | refine blk_drewN ?_ _ | refine blk_drew ?_ | refine blk_alloc ?_ _)); refine blk_put (cs := #[.int .i64 t233, .int .i64 t234, .int .i64 t235, .int .i64 t236, .slice Ao27 t237.length co27, .slice none 0 0, .slice none 0 0, .int .i64 0]) ?_ 5 _ rfl; (with_reducible repeat (first | refine blk_drewN ?_ _ | refine blk_drew ?_ | refine blk_alloc ?_ _)); refine blk_put (cs := #[.int .i64 t233, .int .i64 t234, .int .i64 t235, .int .i64 t236, .slice none 0 0, .slice none 0 0, .slice none 0 0, .int .i64 0]) ?_ 4 _ rfl; (with_reducible repeat (first | refine blk_drewN ?_ _ | refine blk_drew ?_ | refine blk_alloc ?_ _)); refine blk_put (cs := #[.int .i64 t233, .int .i64 t234, .int .i64 t235, .int .i64 0, .slice none 0 0, .slice none 0 0, .slice none 0 0, .int .i64 0]) ?_ 3 _ rfl; (with_reducible repeat (first | refine blk_drewN ?_ _ | refine blk_drew ?_ | refine blk_alloc ?_ _)); refine blk_put (cs := #[.int .i64 t233, .int .i64 t234, .int .i64 0, .int .i64 0, .slice none 0 0, .slice none 0 0, .slice none 0 0, .int .i64 0]) ?_ 2 _ rfl; (with_reducible repeat (first | refine blk_drewN ?_ _ | refine blk_drew ?_ | refine blk_alloc ?_ _)); refine blk_put (cs := #[.int .i64 t233, .int .i64 0, .int .i64 0, .int .i64 0, .slice none 0 0, .slice none 0 0, .slice none 0 0, .int .i64 0]) ?_ 1 _ rfl; (with_reducible repeat (first | refine blk_drewN ?_ _ | refine blk_drew ?_ | refine blk_alloc ?_ _)); refine blk_put (cs := #[.int .i64 0, .int .i64 0, .int .i64 0, .int .i64 0, .slice none 0 0, .slice none 0 0, .slice none 0 0, .int .i64 0]) ?_ 0 _ rfl; (with_reducible repeat (first | refine blk_drewN ?_ _ | refine blk_drew ?_ | refine blk_alloc ?_ _)); exact BK248.out⟩, ⟨by repeat (first | (with_reducible first | exact HB.out | apply below_alloc | apply bdN | apply bd1 | refine below_set ?_ GE229.out | refine below_set ?_ GE248.out) | exact HB.out)⟩⟩
    case round =>
     clear H'
     try clear c1
     try clear c2
     try clear p2
     try clear c4
     try clear p6
     try clear c7
     try clear c9
     try clear c12
     try clear c18
     try clear c25
     try clear c29
     try clear hcz11_0
     try clear hcz11_1
     try clear hcz11_2
     try clear hcz13_0
     try clear hcz13_1
     try clear hcz13_2
     try clear hcz15_0
     try clear hcz15_1
     try clear hcz15_2
     try clear hcz22_0
     try clear hcz22_1
     try clear hcz22_2
     try clear hcz26_0
     try clear hcz26_1
     try clear hcz26_2
     try clear hcz26_3
     try clear hcz26_4
     try clear hcz26_5
     try clear hcz26_6
     try clear hcz26_7
     try clear hfz11_0
     try clear hfz11_1
     try clear hfz11_2
     try clear hfz13_0
     try clear hfz13_1
     try clear hfz13_2
     try clear hfz15_0
     try clear hfz15_1
     try clear hfz15_2
     try clear hfz22_0
     try clear hfz22_1
     try clear hfz22_2
     try clear hfz26_0
     try clear hfz26_1
     try clear hfz26_2
     try clear hfz26_3
     try clear hfz26_4
     try clear hfz26_5
     try clear hfz26_6
     try clear hfz26_7
     try clear p2
     obtain ⟨x10_2, x249000_2, x249001_2, x249002_2, x249003_2, x249004_2, x249005_2, x249006_2, x249007_2, u249004, u249005, u249006, rfl, HA, HK2, HO_249004, HO_249005, HO_249006, BK229, BK248, HB⟩ := hrel
     cases gk with
     | zero => exact absurd HA.out (by simp [regcertlaw09_InterpSteps.l0])
     | succ k2 =>
      have H := HA.out
      clear HA
      simp only [regcertlaw09_InterpSteps.l0] at H
      by_cases c30 : x10_2 < (Int.tmod (wrap64 (a2)) 60)
      ·rw [if_pos c30] at H
       have c30b0 : decide (x10_2 < (Int.tmod (wrap64 (a2)) 60)) = true := decide_eq_true c30
       clear c30
       have HC31 := As0 H
       clear H
       go_upto_region 8 with (fail)
       go_cut [61] (fun v61 wc => ∃ (kq : Nat) (x61_30 : Bool), v61 = .bool x61_30 ∧ Aside0 (regcertlaw09_InterpSteps.j2 kq l1 (Int.tmod (wrap64 (a2)) 60) x10_2 x61_30 a0_0 a0_1 l0_2 x249000_2 x249001_2 x249002_2 x249003_2 x249004_2 x249005_2 x249006_2 x249007_2 = some r) ∧ Aside0 (kq ≤ k2) ∧ Aside0 (Kd.R (Kd.int .i64) 2 wc w.heap.size (fun k_ => some k_ ≠ (u249006 : Value).ownBlock) u249004 x249004_2) ∧ Aside0 (Kd.V (Kd.int .i64) 2 wc w.heap.size (fun k_ => some k_ ≠ (u249004 : Value).ownBlock ∧ some k_ ≠ (u249006 : Value).ownBlock ∧ k_ ≠ gb229 ∧ k_ ≠ gb248) u249005 x249005_2) ∧ Aside0 (Kd.R (Kd.int .i64) 2 wc w.heap.size (fun k_ => some k_ ≠ (u249004 : Value).ownBlock) u249006 x249006_2) ∧ Aside0 (wc.heap[gb229]? = some (.cells #[.int .i64 a0_0, .int .i64 a0_1, (.slice A0_2 l0_2.length c0_2)] 34 (0, 0))) ∧ Aside0 (wc.heap[gb248]? = some (.cells #[.int .i64 x249000_2, .int .i64 x249001_2, .int .i64 x249002_2, .int .i64 x249003_2, u249004, u249005, u249006, .int .i64 x249007_2] 39 (0, 0))) ∧ Aside0 (Below w.heap.size w wc))
       case first =>
        have H := HC31.out
        clear HC31
        by_cases c32 : (x249004_2.length : Int) = a0_1
        ·rw [if_pos c32] at H
         have c32b0 : ((x249004_2.length : Int) == a0_1) = true := beq_iff_eq.mpr c32
         have c32b1 : ((x249004_2.length : Int) != a0_1) = false := bne_eq_false_iff_eq.mpr c32
         clear c32
         (first | rw [c32b0] | (simp only [i64_w, i32_w]; rw [c32b0]) | skip)
         by_cases c33 : x249001_2 < 0
         ·rw [if_pos c33] at H
          have c33b0 : decide (x249001_2 < 0) = true := decide_eq_true c33
          clear c33
          have H' := As0 H
          clear H
          have hnb34 := NB248_229.out
          have hnc34 := NB229_248.out
          have hcz35_0 : wr.cell? ⟨gb248, 0, none⟩ = some (.int .i64 x249000_2) := (blk_cell BK248.out 0).trans rfl
          have hcz35_1 : wr.cell? ⟨gb248, 1, none⟩ = some (.int .i64 x249001_2) := (blk_cell BK248.out 1).trans rfl
          have hcz35_2 : wr.cell? ⟨gb248, 2, none⟩ = some (.int .i64 x249002_2) := (blk_cell BK248.out 2).trans rfl
          have hcz35_3 : wr.cell? ⟨gb248, 3, none⟩ = some (.int .i64 x249003_2) := (blk_cell BK248.out 3).trans rfl
          have hcz35_4 : wr.cell? ⟨gb248, 4, none⟩ = some (u249004) := (blk_cell BK248.out 4).trans rfl
          have hcz35_5 : wr.cell? ⟨gb248, 5, none⟩ = some (u249005) := (blk_cell BK248.out 5).trans rfl
          have hcz35_6 : wr.cell? ⟨gb248, 6, none⟩ = some (u249006) := (blk_cell BK248.out 6).trans rfl
          have hcz35_7 : wr.cell? ⟨gb248, 7, none⟩ = some (.int .i64 x249007_2) := (blk_cell BK248.out 7).trans rfl
          have hfz35_0 := blk_frozen BK248.out 0
          have hfz35_1 := blk_frozen BK248.out 1
          have hfz35_2 := blk_frozen BK248.out 2
          have hfz35_3 := blk_frozen BK248.out 3
          have hfz35_4 := blk_frozen BK248.out 4
          have hfz35_5 := blk_frozen BK248.out 5
          have hfz35_6 := blk_frozen BK248.out 6
          have hfz35_7 := blk_frozen BK248.out 7
          obtain ⟨Ao36, co36, eo36⟩ := Kd.R_slice HO_249004.out
          subst eo36
          have hcz37_0 : wr.cell? ⟨gb229, 0, none⟩ = some (.int .i64 a0_0) := (blk_cell BK229.out 0).trans rfl
          have hcz37_1 : wr.cell? ⟨gb229, 1, none⟩ = some (.int .i64 a0_1) := (blk_cell BK229.out 1).trans rfl
          have hcz37_2 : wr.cell? ⟨gb229, 2, none⟩ = some (.slice A0_2 l0_2.length c0_2) := (blk_cell BK229.out 2).trans rfl
          have hfz37_0 := blk_frozen BK229.out 0
          have hfz37_1 := blk_frozen BK229.out 1
          have hfz37_2 := blk_frozen BK229.out 2
          go_wp2
          go_meet
          case rel => exact ⟨_, (true), (by first | rfl | (simp; done) | (simp [*]; done)), H', ⟨by have := HJ3.out; have := HK2.out; first | omega | exact Nat.le_refl _⟩, ⟨by (with_reducible repeat (first | apply Kd.R_alloc | apply Kd.R_drewN | apply Kd.R_drew)); exact HO_249004.out⟩, ⟨by (with_reducible repeat (first | apply Kd.V_alloc | apply Kd.V_drewN | apply Kd.V_drew)); exact HO_249005.out⟩, ⟨by (with_reducible repeat (first | apply Kd.R_alloc | apply Kd.R_drewN | apply Kd.R_drew)); exact HO_249006.out⟩, ⟨by (with_reducible repeat (first | refine blk_drewN ?_ _ | refine blk_drew ?_ | refine blk_alloc ?_ _)); exact BK229.out⟩, ⟨by (with_reducible repeat (first | refine blk_drewN ?_ _ | refine blk_drew ?_ | refine blk_alloc ?_ _)); exact BK248.out⟩, ⟨by repeat (first | (with_reducible first | exact HB.out | apply below_alloc | apply bdN | apply bd1 | refine below_set ?_ GE229.out | refine below_set ?_ GE248.out) | exact HB.out)⟩⟩
         ·rw [if_neg c33] at H
          have c33b0 : decide (x249001_2 < 0) = false := decide_eq_false c33
          clear c33
          have H' := As0 H
          clear H
          have hnb38 := NB248_229.out
          have hnc38 := NB229_248.out
          have hcz39_0 : wr.cell? ⟨gb248, 0, none⟩ = some (.int .i64 x249000_2) := (blk_cell BK248.out 0).trans rfl
          have hcz39_1 : wr.cell? ⟨gb248, 1, none⟩ = some (.int .i64 x249001_2) := (blk_cell BK248.out 1).trans rfl
          have hcz39_2 : wr.cell? ⟨gb248, 2, none⟩ = some (.int .i64 x249002_2) := (blk_cell BK248.out 2).trans rfl
          have hcz39_3 : wr.cell? ⟨gb248, 3, none⟩ = some (.int .i64 x249003_2) := (blk_cell BK248.out 3).trans rfl
          have hcz39_4 : wr.cell? ⟨gb248, 4, none⟩ = some (u249004) := (blk_cell BK248.out 4).trans rfl
          have hcz39_5 : wr.cell? ⟨gb248, 5, none⟩ = some (u249005) := (blk_cell BK248.out 5).trans rfl
          have hcz39_6 : wr.cell? ⟨gb248, 6, none⟩ = some (u249006) := (blk_cell BK248.out 6).trans rfl
          have hcz39_7 : wr.cell? ⟨gb248, 7, none⟩ = some (.int .i64 x249007_2) := (blk_cell BK248.out 7).trans rfl
          have hfz39_0 := blk_frozen BK248.out 0
          have hfz39_1 := blk_frozen BK248.out 1
          have hfz39_2 := blk_frozen BK248.out 2
          have hfz39_3 := blk_frozen BK248.out 3
          have hfz39_4 := blk_frozen BK248.out 4
          have hfz39_5 := blk_frozen BK248.out 5
          have hfz39_6 := blk_frozen BK248.out 6
          have hfz39_7 := blk_frozen BK248.out 7
          obtain ⟨Ao40, co40, eo40⟩ := Kd.R_slice HO_249004.out
          subst eo40
          have hcz41_0 : wr.cell? ⟨gb229, 0, none⟩ = some (.int .i64 a0_0) := (blk_cell BK229.out 0).trans rfl
          have hcz41_1 : wr.cell? ⟨gb229, 1, none⟩ = some (.int .i64 a0_1) := (blk_cell BK229.out 1).trans rfl
          have hcz41_2 : wr.cell? ⟨gb229, 2, none⟩ = some (.slice A0_2 l0_2.length c0_2) := (blk_cell BK229.out 2).trans rfl
          have hfz41_0 := blk_frozen BK229.out 0
          have hfz41_1 := blk_frozen BK229.out 1
          have hfz41_2 := blk_frozen BK229.out 2
          go_wp2
          go_meet
          case rel => exact ⟨_, (decide (x249001_2 ≥ (l0_2.length : Int))), (by first | rfl | (simp; done) | (simp [*]; done)), H', ⟨by have := HJ3.out; have := HK2.out; first | omega | exact Nat.le_refl _⟩, ⟨by (with_reducible repeat (first | apply Kd.R_alloc | apply Kd.R_drewN | apply Kd.R_drew)); exact HO_249004.out⟩, ⟨by (with_reducible repeat (first | apply Kd.V_alloc | apply Kd.V_drewN | apply Kd.V_drew)); exact HO_249005.out⟩, ⟨by (with_reducible repeat (first | apply Kd.R_alloc | apply Kd.R_drewN | apply Kd.R_drew)); exact HO_249006.out⟩, ⟨by (with_reducible repeat (first | refine blk_drewN ?_ _ | refine blk_drew ?_ | refine blk_alloc ?_ _)); exact BK229.out⟩, ⟨by (with_reducible repeat (first | refine blk_drewN ?_ _ | refine blk_drew ?_ | refine blk_alloc ?_ _)); exact BK248.out⟩, ⟨by repeat (first | (with_reducible first | exact HB.out | apply below_alloc | apply bdN | apply bd1 | refine below_set ?_ GE229.out | refine below_set ?_ GE248.out) | exact HB.out)⟩⟩
        ·rw [if_neg c32] at H
         have c32b0 : ((x249004_2.length : Int) == a0_1) = false := beq_eq_false_iff_ne.mpr c32
         have c32b1 : ((x249004_2.length : Int) != a0_1) = true := bne_iff_ne.mpr c32
         (first | rw [c32b0] | (simp only [i64_w, i32_w]; rw [c32b0]) | skip)
         have H' := As0 H
         clear H
         have hnb42 := NB248_229.out
         have hnc42 := NB229_248.out
         have hcz43_0 : wr.cell? ⟨gb248, 0, none⟩ = some (.int .i64 x249000_2) := (blk_cell BK248.out 0).trans rfl
         have hcz43_1 : wr.cell? ⟨gb248, 1, none⟩ = some (.int .i64 x249001_2) := (blk_cell BK248.out 1).trans rfl
         have hcz43_2 : wr.cell? ⟨gb248, 2, none⟩ = some (.int .i64 x249002_2) := (blk_cell BK248.out 2).trans rfl
         have hcz43_3 : wr.cell? ⟨gb248, 3, none⟩ = some (.int .i64 x249003_2) := (blk_cell BK248.out 3).trans rfl
         have hcz43_4 : wr.cell? ⟨gb248, 4, none⟩ = some (u249004) := (blk_cell BK248.out 4).trans rfl
         have hcz43_5 : wr.cell? ⟨gb248, 5, none⟩ = some (u249005) := (blk_cell BK248.out 5).trans rfl
         have hcz43_6 : wr.cell? ⟨gb248, 6, none⟩ = some (u249006) := (blk_cell BK248.out 6).trans rfl
         have hcz43_7 : wr.cell? ⟨gb248, 7, none⟩ = some (.int .i64 x249007_2) := (blk_cell BK248.out 7).trans rfl
         have hfz43_0 := blk_frozen BK248.out 0
         have hfz43_1 := blk_frozen BK248.out 1
         have hfz43_2 := blk_frozen BK248.out 2
         have hfz43_3 := blk_frozen BK248.out 3
         have hfz43_4 := blk_frozen BK248.out 4
         have hfz43_5 := blk_frozen BK248.out 5
         have hfz43_6 := blk_frozen BK248.out 6
         have hfz43_7 := blk_frozen BK248.out 7
         obtain ⟨Ao44, co44, eo44⟩ := Kd.R_slice HO_249004.out
         subst eo44
         have hcz45_0 : wr.cell? ⟨gb229, 0, none⟩ = some (.int .i64 a0_0) := (blk_cell BK229.out 0).trans rfl
         have hcz45_1 : wr.cell? ⟨gb229, 1, none⟩ = some (.int .i64 a0_1) := (blk_cell BK229.out 1).trans rfl
         have hcz45_2 : wr.cell? ⟨gb229, 2, none⟩ = some (.slice A0_2 l0_2.length c0_2) := (blk_cell BK229.out 2).trans rfl
         have hfz45_0 := blk_frozen BK229.out 0
         have hfz45_1 := blk_frozen BK229.out 1
         have hfz45_2 := blk_frozen BK229.out 2
         go_wp2
         go_meet
         case rel => exact ⟨_, (true), (by first | rfl | (simp; done) | (simp [*]; done)), H', ⟨by have := HJ3.out; have := HK2.out; first | omega | exact Nat.le_refl _⟩, ⟨by (with_reducible repeat (first | apply Kd.R_alloc | apply Kd.R_drewN | apply Kd.R_drew)); exact HO_249004.out⟩, ⟨by (with_reducible repeat (first | apply Kd.V_alloc | apply Kd.V_drewN | apply Kd.V_drew)); exact HO_249005.out⟩, ⟨by (with_reducible repeat (first | apply Kd.R_alloc | apply Kd.R_drewN | apply Kd.R_drew)); exact HO_249006.out⟩, ⟨by (with_reducible repeat (first | refine blk_drewN ?_ _ | refine blk_drew ?_ | refine blk_alloc ?_ _)); exact BK229.out⟩, ⟨by (with_reducible repeat (first | refine blk_drewN ?_ _ | refine blk_drew ?_ | refine blk_alloc ?_ _)); exact BK248.out⟩, ⟨by repeat (first | (with_reducible first | exact HB.out | apply below_alloc | apply bdN | apply bd1 | refine below_set ?_ GE229.out | refine below_set ?_ GE248.out) | exact HB.out)⟩⟩
       case rest =>
        clear HC31
        try clear c1
        try clear c2
        try clear p2
        try clear c3
        try clear c4
        try clear p6
        try clear c7
        try clear c9
        try clear c12
        try clear c18
        try clear c25
        try clear c29
        try clear c30
        try clear c30b0
        try clear c32
        try clear c32b0
        try clear c32b1
        try clear c33
        try clear c33b0
        try clear c34
        try clear c38
        try clear c40
        try clear c42
        try clear hcz11_0
        try clear hcz11_1
        try clear hcz11_2
        try clear hcz13_0
        try clear hcz13_1
        try clear hcz13_2
        try clear hcz15_0
        try clear hcz15_1
        try clear hcz15_2
        try clear hcz22_0
        try clear hcz22_1
        try clear hcz22_2
        try clear hcz26_0
        try clear hcz26_1
        try clear hcz26_2
        try clear hcz26_3
        try clear hcz26_4
        try clear hcz26_5
        try clear hcz26_6
        try clear hcz26_7
        try clear hcz35_0
        try clear hcz35_1
        try clear hcz35_2
        try clear hcz35_3
        try clear hcz35_4
        try clear hcz35_5
        try clear hcz35_6
        try clear hcz35_7
        try clear hcz37_0
        try clear hcz37_1
        try clear hcz37_2
        try clear hcz39_0
        try clear hcz39_1
        try clear hcz39_2
        try clear hcz39_3
        try clear hcz39_4
        try clear hcz39_5
        try clear hcz39_6
        try clear hcz39_7
        try clear hcz41_0
        try clear hcz41_1
        try clear hcz41_2
        try clear hcz43_0
        try clear hcz43_1
        try clear hcz43_2
        try clear hcz43_3
        try clear hcz43_4
        try clear hcz43_5
        try clear hcz43_6
        try clear hcz43_7
        try clear hcz45_0
        try clear hcz45_1
        try clear hcz45_2
        try clear hfz11_0
        try clear hfz11_1
        try clear hfz11_2
        try clear hfz13_0
        try clear hfz13_1
        try clear hfz13_2
        try clear hfz15_0
        try clear hfz15_1
        try clear hfz15_2
        try clear hfz22_0
        try clear hfz22_1
        try clear hfz22_2
        try clear hfz26_0
        try clear hfz26_1
        try clear hfz26_2
        try clear hfz26_3
        try clear hfz26_4
        try clear hfz26_5
        try clear hfz26_6
        try clear hfz26_7
        try clear hfz35_0
        try clear hfz35_1
        try clear hfz35_2
        try clear hfz35_3
        try clear hfz35_4
        try clear hfz35_5
        try clear hfz35_6
        try clear hfz35_7
        try clear hfz37_0
        try clear hfz37_1
        try clear hfz37_2
        try clear hfz39_0
        try clear hfz39_1
        try clear hfz39_2
        try clear hfz39_3
        try clear hfz39_4
        try clear hfz39_5
        try clear hfz39_6
        try clear hfz39_7
        try clear hfz41_0
        try clear hfz41_1
        try clear hfz41_2
        try clear hfz43_0
        try clear hfz43_1
        try clear hfz43_2
        try clear hfz43_3
        try clear hfz43_4
        try clear hfz43_5
        try clear hfz43_6
        try clear hfz43_7
        try clear hfz45_0
        try clear hfz45_1
        try clear hfz45_2
        try clear p2
        try clear p6
        obtain ⟨kq, x61_30, rfl, HA, HJ30, HO_249004, HO_249005, HO_249006, BK229, BK248, HB⟩ := hcut
        cases kq with
        | zero => exact absurd HA.out (by simp [regcertlaw09_InterpSteps.j2])
        | succ kj30 =>
         have H := HA.out
         clear HA
         simp only [regcertlaw09_InterpSteps.j2] at H
         by_cases c46 : x61_30 = true
         ·subst c46
          have H1 : (some false) = some r := by rw [if_pos rfl] at H; exact H
          clear H
          have H := H1
          clear H1
          obtain rfl := Option.some.inj H
          go_wp2
          go_ret
          exact ⟨by first | rfl | (simp [errW_none, errW_some] <;> rfl) | (simp [*, errW_none, errW_some] <;> rfl), by repeat (first | (with_reducible first | exact HB.out | apply below_alloc | apply bdN | apply bd1 | refine below_set ?_ GE229.out | refine below_set ?_ GE248.out) | exact HB.out)⟩
         ·replace c46 := Bool.eq_false_iff.mpr c46
          subst c46
          have H1 : ((interp_Step.f a0_0 a0_1 l0_2 x249000_2 x249001_2 x249002_2 x249003_2 x249004_2 x249005_2 x249006_2 x249007_2).bind fun bt249 => (regcertlaw09_InterpSteps.l0 kj30 l1 (Int.tmod (wrap64 (a2)) 60) (wrap64 (x10_2 + 1)) a0_0 a0_1 l0_2 bt249.1 bt249.2.1 bt249.2.2.1 bt249.2.2.2.1 bt249.2.2.2.2.1 bt249.2.2.2.2.2.1 bt249.2.2.2.2.2.2.1 bt249.2.2.2.2.2.2.2)) = some r := by rw [if_neg (show ¬ (false = true) by decide)] at H; exact H
          clear H
          have H := H1
          clear H1
          replace H := Option.bind_eq_some_iff.mp H
          obtain ⟨⟨t249, t250, t251, t252, t253, t256, t259, t262⟩, A470, H⟩ := H
          replace H : (regcertlaw09_InterpSteps.l0 kj30 l1 (Int.tmod (wrap64 (a2)) 60) (wrap64 (x10_2 + 1)) a0_0 a0_1 l0_2 t249 t250 t251 t252 t253 t256 t259 t262) = some r := H
          have A47 := As0 A470
          clear A470
          have H' := As0 H
          clear H
          have hnb48 := NB229_248.out
          have hnc48 := NB248_229.out
          have hcz49_0 : wc.cell? ⟨gb229, 0, none⟩ = some (.int .i64 a0_0) := (blk_cell BK229.out 0).trans rfl
          have hcz49_1 : wc.cell? ⟨gb229, 1, none⟩ = some (.int .i64 a0_1) := (blk_cell BK229.out 1).trans rfl
          have hcz49_2 : wc.cell? ⟨gb229, 2, none⟩ = some (.slice A0_2 l0_2.length c0_2) := (blk_cell BK229.out 2).trans rfl
          have hfz49_0 := blk_frozen BK229.out 0
          have hfz49_1 := blk_frozen BK229.out 1
          have hfz49_2 := blk_frozen BK229.out 2
          have hcz50_0 : wc.cell? ⟨gb248, 0, none⟩ = some (.int .i64 x249000_2) := (blk_cell BK248.out 0).trans rfl
          have hcz50_1 : wc.cell? ⟨gb248, 1, none⟩ = some (.int .i64 x249001_2) := (blk_cell BK248.out 1).trans rfl
          have hcz50_2 : wc.cell? ⟨gb248, 2, none⟩ = some (.int .i64 x249002_2) := (blk_cell BK248.out 2).trans rfl
          have hcz50_3 : wc.cell? ⟨gb248, 3, none⟩ = some (.int .i64 x249003_2) := (blk_cell BK248.out 3).trans rfl
          have hcz50_4 : wc.cell? ⟨gb248, 4, none⟩ = some (u249004) := (blk_cell BK248.out 4).trans rfl
          have hcz50_5 : wc.cell? ⟨gb248, 5, none⟩ = some (u249005) := (blk_cell BK248.out 5).trans rfl
          have hcz50_6 : wc.cell? ⟨gb248, 6, none⟩ = some (u249006) := (blk_cell BK248.out 6).trans rfl
          have hcz50_7 : wc.cell? ⟨gb248, 7, none⟩ = some (.int .i64 x249007_2) := (blk_cell BK248.out 7).trans rfl
          have hfz50_0 := blk_frozen BK248.out 0
          have hfz50_1 := blk_frozen BK248.out 1
          have hfz50_2 := blk_frozen BK248.out 2
          have hfz50_3 := blk_frozen BK248.out 3
          have hfz50_4 := blk_frozen BK248.out 4
          have hfz50_5 := blk_frozen BK248.out 5
          have hfz50_6 := blk_frozen BK248.out 6
          have hfz50_7 := blk_frozen BK248.out 7
          obtain ⟨Ao51, co51, eo51⟩ := Kd.R_slice HO_249004.out
          subst eo51
          obtain ⟨Ao52, co52, eo52⟩ := Kd.V_slice HO_249005.out
          subst eo52
          obtain ⟨Ao53, co53, eo53⟩ := Kd.R_slice HO_249006.out
          subst eo53
          go_wp2_with (first | ((with_reducible refine gate_callee (f := 39) rfl ?_); refine goesL_ (some 64) rfl rfl Try.func39 (by kernel_rfl) rfl #[.agg #[.int .i64 a0_0, .int .i64 a0_1, .slice A0_2 l0_2.length c0_2], .agg #[.int .i64 x249000_2, .int .i64 x249001_2, .int .i64 x249002_2, .int .i64 x249003_2, .slice Ao51 x249004_2.length co51, .slice Ao52 x249005_2.length co52, .slice Ao53 x249006_2.length co53, .int .i64 x249007_2]] rfl (by (try simp only [List.map_toArray, List.map_cons, List.map_nil]); first | done | rfl | (simp only [List.length_drop, List.length_take]; rfl)) ?_; (with_reducible refine (interp_Step.calls a0_0 a0_1 _ _ l0_2 x249000_2 x249001_2 x249002_2 x249003_2 _ _ x249004_2 _ _ x249005_2 _ _ x249006_2 x249007_2 t249 t250 t251 t252 t253 t256 t259 t262 _ ?side1 ?side2 ?side3 ?side4 ?side5 ?side6 ?side7 ?side8 A47.out).mono ?_); (case side1 => repeat (first | exact (Kd.C_below HR0_2.out HB.out) | (with_reducible refine Kd.C_alloc ?_ _) | (with_reducible refine Kd.C_drewN ?_ _) | (with_reducible refine Kd.C_drew ?_))); (case side2 => exact HC0_2.out); (case side3 => repeat (first | exact (Kd.R_reads' HO_249004.out).2.2 | (with_reducible refine Kd.C_alloc ?_ _) | (with_reducible refine Kd.C_drewN ?_ _) | (with_reducible refine Kd.C_drew ?_))); (case side4 => exact (Kd.R_reads' HO_249004.out).2.1); (case side5 => repeat (first | exact (Kd.V_reads' HO_249005.out).2.2 | (with_reducible refine Kd.C_alloc ?_ _) | (with_reducible refine Kd.C_drewN ?_ _) | (with_reducible refine Kd.C_drew ?_))); (case side6 => exact (Kd.V_reads' HO_249005.out).2.1); (case side7 => repeat (first | exact (Kd.R_reads' HO_249006.out).2.2 | (with_reducible refine Kd.C_alloc ?_ _) | (with_reducible refine Kd.C_drewN ?_ _) | (with_reducible refine Kd.C_drew ?_))); (case side8 => exact (Kd.R_reads' HO_249006.out).2.1); rintro e w54 ⟨v254, v257, v260, rfl, ho0, ho1, ho2, hb⟩; refine ⟨_, rfl, ?_⟩; have n0_ := As0 (Kd.R_mono (Kd.R_told (Kd.R_told (Kd.R_old (by (with_reducible repeat (first | apply Kd.R_alloc | apply Kd.R_drewN | apply Kd.R_drew)); exact HO_249004.out) hb) (Kd.R_base ho0)) (Kd.R_base ho2)) (fun _ h_ => h_.1)); have n1_ := As0 (Kd.V_mono (Kd.V_told (Kd.V_told (Kd.V_old (by (with_reducible repeat (first | apply Kd.V_alloc | apply Kd.V_drewN | apply Kd.V_drew)); exact HO_249005.out) hb) (Kd.R_base ho0)) (Kd.R_base ho2)) (fun _ h_ => h_.1)); have n2_ := As0 (Kd.R_mono (Kd.R_told (Kd.R_told (Kd.R_old (by (with_reducible repeat (first | apply Kd.R_alloc | apply Kd.R_drewN | apply Kd.R_drew)); exact HO_249006.out) hb) (Kd.R_base ho0)) (Kd.R_base ho2)) (fun _ h_ => h_.1)); have n3_ := As0 (Kd.R_lower (Kd.R_new' (Kd.R_new' (Kd.R_mono (ok' := fun k_ => some k_ ≠ (v260 : Value).ownBlock) ho0 (fun _ hk_ => hk_.2)) (Kd.R_lt (by (with_reducible repeat (first | apply Kd.R_alloc | apply Kd.R_drewN | apply Kd.R_drew)); exact HO_249004.out))) (Kd.R_lt (by (with_reducible repeat (first | apply Kd.R_alloc | apply Kd.R_drewN | apply Kd.R_drew)); exact HO_249006.out))) (below_size (by repeat (first | (with_reducible first | exact HB.out | apply below_alloc | apply bdN | apply bd1 | refine below_set ?_ GE229.out | refine below_set ?_ GE248.out) | exact HB.out)))); have n4_ := As0 (Kd.V_lower (Kd.V_mono (ok' := fun k_ => some k_ ≠ (v254 : Value).ownBlock ∧ some k_ ≠ (v260 : Value).ownBlock ∧ some k_ ≠ (.slice Ao51 x249004_2.length co51 : Value).ownBlock ∧ some k_ ≠ (.slice Ao53 x249006_2.length co53 : Value).ownBlock ∧ k_ ≠ gb229 ∧ k_ ≠ gb248) ho1 (fun k_ hk_ => ⟨hk_.2.1, hk_.2.2, (Kd.fresh' (Kd.R_lt (by (with_reducible repeat (first | apply Kd.R_alloc | apply Kd.R_drewN | apply Kd.R_drew)); exact HO_249004.out)) k_ hk_.1), (Kd.fresh' (Kd.R_lt (by (with_reducible repeat (first | apply Kd.R_alloc | apply Kd.R_drewN | apply Kd.R_drew)); exact HO_249006.out)) k_ hk_.1), (Kd.freshB (g := gb229) (o := .cells #[.int .i64 a0_0, .int .i64 a0_1, .slice A0_2 l0_2.length c0_2] 34 (0, 0)) (by (with_reducible repeat (first | refine blk_drewN ?_ _ | refine blk_drew ?_ | refine blk_alloc ?_ _)); exact BK229.out) k_ hk_.1), (Kd.freshB (g := gb248) (o := .cells #[.int .i64 x249000_2, .int .i64 x249001_2, .int .i64 x249002_2, .int .i64 x249003_2, .slice Ao51 x249004_2.length co51, .slice Ao52 x249005_2.length co52, .slice Ao53 x249006_2.length co53, .int .i64 x249007_2] 39 (0, 0)) (by (with_reducible repeat (first | refine blk_drewN ?_ _ | refine blk_drew ?_ | refine blk_alloc ?_ _)); exact BK248.out) k_ hk_.1)⟩)) (below_size (by repeat (first | (with_reducible first | exact HB.out | apply below_alloc | apply bdN | apply bd1 | refine below_set ?_ GE229.out | refine below_set ?_ GE248.out) | exact HB.out)))); have n5_ := As0 (Kd.R_lower (Kd.R_new' (Kd.R_new' (Kd.R_mono (ok' := fun k_ => some k_ ≠ (v254 : Value).ownBlock) ho2 (fun _ hk_ => hk_.2)) (Kd.R_lt (by (with_reducible repeat (first | apply Kd.R_alloc | apply Kd.R_drewN | apply Kd.R_drew)); exact HO_249004.out))) (Kd.R_lt (by (with_reducible repeat (first | apply Kd.R_alloc | apply Kd.R_drewN | apply Kd.R_drew)); exact HO_249006.out))) (below_size (by repeat (first | (with_reducible first | exact HB.out | apply below_alloc | apply bdN | apply bd1 | refine below_set ?_ GE229.out | refine below_set ?_ GE248.out) | exact HB.out)))); have n6_ := As0 (blk_below (g := gb229) (o := .cells #[.int .i64 a0_0, .int .i64 a0_1, .slice A0_2 l0_2.length c0_2] 34 (0, 0)) (by (with_reducible repeat (first | refine blk_drewN ?_ _ | refine blk_drew ?_ | refine blk_alloc ?_ _)); exact BK229.out) hb); have n7_ := As0 (blk_below (g := gb248) (o := .cells #[.int .i64 x249000_2, .int .i64 x249001_2, .int .i64 x249002_2, .int .i64 x249003_2, .slice Ao51 x249004_2.length co51, .slice Ao52 x249005_2.length co52, .slice Ao53 x249006_2.length co53, .int .i64 x249007_2] 39 (0, 0)) (by (with_reducible repeat (first | refine blk_drewN ?_ _ | refine blk_drew ?_ | refine blk_alloc ?_ _)); exact BK248.out) hb); have n8_ := As0 (below_step (by repeat (first | (with_reducible first | exact HB.out | apply below_alloc | apply bdN | apply bd1 | refine below_set ?_ GE229.out | refine below_set ?_ GE248.out) | exact HB.out)) hb); clear HO_249004; clear HO_249005; clear HO_249006; clear BK229; clear BK248; clear HB; have HO_249004 := n0_; have HO_249005 := n1_; have HO_249006 := n2_; have HO255 := n3_; have HO258 := n4_; have HO261 := n5_; have BK229 := n6_; have BK248 := n7_; have HB := n8_; clear n0_ n1_ n2_ n3_ n4_ n5_ n6_ n7_ n8_; (try clear hb); (try clear hb2); (try clear hk); (try clear hi); (try clear ho0); (try clear ho1); (try clear ho2); have hcz55_0 : w54.cell? ⟨gb248, 0, none⟩ = some (.int .i64 x249000_2) := (blk_cell BK248.out 0).trans rfl; have hcz55_1 : w54.cell? ⟨gb248, 1, none⟩ = some (.int .i64 x249001_2) := (blk_cell BK248.out 1).trans rfl; have hcz55_2 : w54.cell? ⟨gb248, 2, none⟩ = some (.int .i64 x249002_2) := (blk_cell BK248.out 2).trans rfl; have hcz55_3 : w54.cell? ⟨gb248, 3, none⟩ = some (.int .i64 x249003_2) := (blk_cell BK248.out 3).trans rfl; have hcz55_4 : w54.cell? ⟨gb248, 4, none⟩ = some (.slice Ao51 x249004_2.length co51) := (blk_cell BK248.out 4).trans rfl; have hcz55_5 : w54.cell? ⟨gb248, 5, none⟩ = some (.slice Ao52 x249005_2.length co52) := (blk_cell BK248.out 5).trans rfl; have hcz55_6 : w54.cell? ⟨gb248, 6, none⟩ = some (.slice Ao53 x249006_2.length co53) := (blk_cell BK248.out 6).trans rfl; have hcz55_7 : w54.cell? ⟨gb248, 7, none⟩ = some (.int .i64 x249007_2) := (blk_cell BK248.out 7).trans rfl; have hfz55_0 := blk_frozen BK248.out 0; have hfz55_1 := blk_frozen BK248.out 1; have hfz55_2 := blk_frozen BK248.out 2; have hfz55_3 := blk_frozen BK248.out 3; have hfz55_4 := blk_frozen BK248.out 4; have hfz55_5 := blk_frozen BK248.out 5; have hfz55_6 := blk_frozen BK248.out 6; have hfz55_7 := blk_frozen BK248.out 7; obtain ⟨Ao56, co56, eo56⟩ := Kd.R_slice HO255.out; subst eo56; obtain ⟨Ao57, co57, eo57⟩ := Kd.V_slice HO258.out; subst eo57; obtain ⟨Ao58, co58, eo58⟩ := Kd.R_slice HO261.out; subst eo58))
          go_roundg kj30
          case measure => have := HJ3.out; have := HK2.out; have := HJ30.out; omega
          case rel => exact ⟨(wrap64 (x10_2 + 1)), (t249), (t250), (t251), (t252), (t253), (t256), (t259), (t262), (.slice Ao56 t253.length co56), (.slice Ao57 t256.length co57), (.slice Ao58 t259.length co58), (by first | rfl | (simp; done) | (simp [*]; done)), H', ⟨by have := HJ3.out; have := HK2.out; have := HJ30.out; omega⟩, ⟨by (with_reducible repeat (first | apply Kd.R_alloc | apply Kd.R_drewN | apply Kd.R_drew)); exact Kd.R_mono (Kd.R_far (p := ⟨gb248, 7, none⟩) (Kd.R_far (p := ⟨gb248, 6, none⟩) (Kd.R_far (p := ⟨gb248, 5, none⟩) (Kd.R_far (p := ⟨gb248, 4, none⟩) (Kd.R_far (p := ⟨gb248, 3, none⟩) (Kd.R_far (p := ⟨gb248, 2, none⟩) (Kd.R_far (p := ⟨gb248, 1, none⟩) (Kd.R_far (p := ⟨gb248, 0, none⟩) (Kd.R_types HO255.out BK248.out (by decide)) (fun _ hk => hk.2) (.int .i64 t249)) (fun _ hk => hk.2) (.int .i64 t250)) (fun _ hk => hk.2) (.int .i64 t251)) (fun _ hk => hk.2) (.int .i64 t252)) (fun _ hk => hk.2) (.slice Ao56 t253.length co56)) (fun _ hk => hk.2) (.slice Ao57 t256.length co57)) (fun _ hk => hk.2) (.slice Ao58 t259.length co58)) (fun _ hk => hk.2) (.int .i64 t262)) (fun _ hk => hk.1.1.1)⟩, ⟨by (with_reducible repeat (first | apply Kd.V_alloc | apply Kd.V_drewN | apply Kd.V_drew)); exact Kd.V_mono (Kd.V_far (p := ⟨gb248, 7, none⟩) (Kd.V_far (p := ⟨gb248, 6, none⟩) (Kd.V_far (p := ⟨gb248, 5, none⟩) (Kd.V_far (p := ⟨gb248, 4, none⟩) (Kd.V_far (p := ⟨gb248, 3, none⟩) (Kd.V_far (p := ⟨gb248, 2, none⟩) (Kd.V_far (p := ⟨gb248, 1, none⟩) (Kd.V_far (p := ⟨gb248, 0, none⟩) (Kd.V_mono HO258.out (fun k_ hk => (⟨hk, hk.2.2.2.2.2⟩ : _ ∧ k_ ≠ gb248))) (fun _ hk => hk.2) (.int .i64 t249)) (fun _ hk => hk.2) (.int .i64 t250)) (fun _ hk => hk.2) (.int .i64 t251)) (fun _ hk => hk.2) (.int .i64 t252)) (fun _ hk => hk.2) (.slice Ao56 t253.length co56)) (fun _ hk => hk.2) (.slice Ao57 t256.length co57)) (fun _ hk => hk.2) (.slice Ao58 t259.length co58)) (fun _ hk => hk.2) (.int .i64 t262)) (fun _ hk => ⟨hk.1.1, ⟨hk.1.2.1, ⟨hk.1.2.2.2.2.1, hk.1.2.2.2.2.2⟩⟩⟩)⟩, ⟨by (with_reducible repeat (first | apply Kd.R_alloc | apply Kd.R_drewN | apply Kd.R_drew)); exact Kd.R_mono (Kd.R_far (p := ⟨gb248, 7, none⟩) (Kd.R_far (p := ⟨gb248, 6, none⟩) (Kd.R_far (p := ⟨gb248, 5, none⟩) (Kd.R_far (p := ⟨gb248, 4, none⟩) (Kd.R_far (p := ⟨gb248, 3, none⟩) (Kd.R_far (p := ⟨gb248, 2, none⟩) (Kd.R_far (p := ⟨gb248, 1, none⟩) (Kd.R_far (p := ⟨gb248, 0, none⟩) (Kd.R_types HO261.out BK248.out (by decide)) (fun _ hk => hk.2) (.int .i64 t249)) (fun _ hk => hk.2) (.int .i64 t250)) (fun _ hk => hk.2) (.int .i64 t251)) (fun _ hk => hk.2) (.int .i64 t252)) (fun _ hk => hk.2) (.slice Ao56 t253.length co56)) (fun _ hk => hk.2) (.slice Ao57 t256.length co57)) (fun _ hk => hk.2) (.slice Ao58 t259.length co58)) (fun _ hk => hk.2) (.int .i64 t262)) (fun _ hk => hk.1.1.1)⟩, ⟨by (with_reducible repeat (first | refine blk_drewN ?_ _ | refine blk_drew ?_ | refine blk_alloc ?_ _)); refine blk_far ?_ NB229_248.out _; (with_reducible repeat (first | refine blk_drewN ?_ _ | refine blk_drew ?_ | refine blk_alloc ?_ _)); refine blk_far ?_ NB229_248.out _; (with_reducible repeat (first | refine blk_drewN ?_ _ | refine blk_drew ?_ | refine blk_alloc ?_ _)); refine blk_far ?_ NB229_248.out _; (with_reducible repeat (first | refine blk_drewN ?_ _ | refine blk_drew ?_ | refine blk_alloc ?_ _)); refine blk_far ?_ NB229_248.out _; (with_reducible repeat (first | refine blk_drewN ?_ _ | refine blk_drew ?_ | refine blk_alloc ?_ _)); refine blk_far ?_ NB229_248.out _; (with_reducible repeat (first | refine blk_drewN ?_ _ | refine blk_drew ?_ | refine blk_alloc ?_ _)); refine blk_far ?_ NB229_248.out _; (with_reducible repeat (first | refine blk_drewN ?_ _ | refine blk_drew ?_ | refine blk_alloc ?_ _)); refine blk_far ?_ NB229_248.out _; (with_reducible repeat (first | refine blk_drewN ?_ _ | refine blk_drew ?_ | refine blk_alloc ?_ _)); refine blk_far ?_ NB229_248.out _; (with_reducible repeat (first | refine blk_drewN ?_ _ | refine blk_drew ?_ | refine blk_alloc ?_ _)); exact BK229.out⟩, ⟨by (with_reducible repeat (first | refine blk_drewN ?_ _ | refine blk_drew ?_ | refine blk_alloc ?_ _)); refine blk_put (cs := #[.int .i64 t249, .int .i64 t250, .int .i64 t251, .int .i64 t252, .slice Ao56 t253.length co56, .slice Ao57 t256.length co57, .slice Ao58 t259.length co58, .int .i64 x249007_2]) ?_ 7 _ rfl; (with_reducible repeat (first | refine blk_drewN ?_ _ | refine blk_drew ?_ | refine blk_alloc ?_ _)); refine blk_put (cs := #[.int .i64 t249, .int .i64 t250, .int .i64 t251, .int .i64 t252, .slice Ao56 t253.length co56, .slice Ao57 t256.length co57, .slice Ao53 x249006_2.length co53, .int .i64 x249007_2]) ?_ 6 _ rfl; (with_reducible repeat (first | refine blk_drewN ?_ _ | refine blk_drew ?_ | refine blk_alloc ?_ _)); refine blk_put (cs := #[.int .i64 t249, .int .i64 t250, .int .i64 t251, .int .i64 t252, .slice Ao56 t253.length co56, .slice Ao52 x249005_2.length co52, .slice Ao53 x249006_2.length co53, .int .i64 x249007_2]) ?_ 5 _ rfl; (with_reducible repeat (first | refine blk_drewN ?_ _ | refine blk_drew ?_ | refine blk_alloc ?_ _)); refine blk_put (cs := #[.int .i64 t249, .int .i64 t250, .int .i64 t251, .int .i64 t252, .slice Ao51 x249004_2.length co51, .slice Ao52 x249005_2.length co52, .slice Ao53 x249006_2.length co53, .int .i64 x249007_2]) ?_ 4 _ rfl; (with_reducible repeat (first | refine blk_drewN ?_ _ | refine blk_drew ?_ | refine blk_alloc ?_ _)); refine blk_put (cs := #[.int .i64 t249, .int .i64 t250, .int .i64 t251, .int .i64 x249003_2, .slice Ao51 x249004_2.length co51, .slice Ao52 x249005_2.length co52, .slice Ao53 x249006_2.length co53, .int .i64 x249007_2]) ?_ 3 _ rfl; (with_reducible repeat (first | refine blk_drewN ?_ _ | refine blk_drew ?_ | refine blk_alloc ?_ _)); refine blk_put (cs := #[.int .i64 t249, .int .i64 t250, .int .i64 x249002_2, .int .i64 x249003_2, .slice Ao51 x249004_2.length co51, .slice Ao52 x249005_2.length co52, .slice Ao53 x249006_2.length co53, .int .i64 x249007_2]) ?_ 2 _ rfl; (with_reducible repeat (first | refine blk_drewN ?_ _ | refine blk_drew ?_ | refine blk_alloc ?_ _)); refine blk_put (cs := #[.int .i64 t249, .int .i64 x249001_2, .int .i64 x249002_2, .int .i64 x249003_2, .slice Ao51 x249004_2.length co51, .slice Ao52 x249005_2.length co52, .slice Ao53 x249006_2.length co53, .int .i64 x249007_2]) ?_ 1 _ rfl; (with_reducible repeat (first | refine blk_drewN ?_ _ | refine blk_drew ?_ | refine blk_alloc ?_ _)); refine blk_put (cs := #[.int .i64 x249000_2, .int .i64 x249001_2, .int .i64 x249002_2, .int .i64 x249003_2, .slice Ao51 x249004_2.length co51, .slice Ao52 x249005_2.length co52, .slice Ao53 x249006_2.length co53, .int .i64 x249007_2]) ?_ 0 _ rfl; (with_reducible repeat (first | refine blk_drewN ?_ _ | refine blk_drew ?_ | refine blk_alloc ?_ _)); exact BK248.out⟩, ⟨by repeat (first | (with_reducible first | exact HB.out | apply below_alloc | apply bdN | apply bd1 | refine below_set ?_ GE229.out | refine below_set ?_ GE248.out) | exact HB.out)⟩⟩
      ·rw [if_neg c30] at H
       have c30b0 : decide (x10_2 < (Int.tmod (wrap64 (a2)) 60)) = false := decide_eq_false c30
       clear c30
       replace H := Option.bind_eq_some_iff.mp H
       obtain ⟨⟨t263, t264, t265, t266, t267, t270, t273, t276, t277⟩, A590, H⟩ := H
       replace H : ((regcertref09_Same.f k2 x249000_2 x249001_2 x249002_2 x249003_2 x249004_2 x249005_2 x249006_2 x249007_2 t263 t264 t265 t266 t267 t270 t273 t276).bind fun t279 => (some t279)) = some r := H
       have A59 := As0 A590
       clear A590
       replace H := Option.bind_eq_some_iff.mp H
       obtain ⟨t279, A600, H⟩ := H
       replace H : (some t279) = some r := H
       have A60 := As0 A600
       clear A600
       obtain rfl := Option.some.inj H
       have hnb61 := NB229_248.out
       have hnc61 := NB248_229.out
       have hcz62_0 : wr.cell? ⟨gb229, 0, none⟩ = some (.int .i64 a0_0) := (blk_cell BK229.out 0).trans rfl
       have hcz62_1 : wr.cell? ⟨gb229, 1, none⟩ = some (.int .i64 a0_1) := (blk_cell BK229.out 1).trans rfl
       have hcz62_2 : wr.cell? ⟨gb229, 2, none⟩ = some (.slice A0_2 l0_2.length c0_2) := (blk_cell BK229.out 2).trans rfl
       have hfz62_0 := blk_frozen BK229.out 0
       have hfz62_1 := blk_frozen BK229.out 1
       have hfz62_2 := blk_frozen BK229.out 2
       go_wp2_with (first | ((with_reducible refine gate_callee (f := 31) rfl ?_); refine goesL_ (some 69) rfl rfl Try.func31 (by kernel_rfl) rfl #[.agg #[.int .i64 a0_0, .int .i64 a0_1, .slice A0_2 l0_2.length c0_2], .slice A1 l1.length c1, .int .i64 (Int.tmod (wrap64 (a2)) 60)] rfl (by (try simp only [List.map_toArray, List.map_cons, List.map_nil]); first | done | rfl | (simp only [List.length_drop, List.length_take]; rfl)) ?_; (with_reducible refine (interp_Exec.calls k2 a0_0 a0_1 _ _ l0_2 _ _ l1 (Int.tmod (wrap64 (a2)) 60) t263 t264 t265 t266 t267 t270 t273 t276 t277 _ ?side1 ?side2 ?side3 ?side4 A59.out).mono ?_); (case side1 => repeat (first | exact (Kd.C_below HR0_2.out HB.out) | (with_reducible refine Kd.C_alloc ?_ _) | (with_reducible refine Kd.C_drewN ?_ _) | (with_reducible refine Kd.C_drew ?_))); (case side2 => exact HC0_2.out); (case side3 => repeat (first | exact (Kd.C_below HR1.out HB.out) | (with_reducible refine Kd.C_alloc ?_ _) | (with_reducible refine Kd.C_drewN ?_ _) | (with_reducible refine Kd.C_drew ?_))); (case side4 => exact HC1.out); rintro e w63 ⟨v268, v271, v274, rfl, ho0, ho1, ho2, hb⟩; refine ⟨_, rfl, ?_⟩; have n0_ := As0 (Kd.R_mono (Kd.R_told (Kd.R_told (Kd.R_told (Kd.R_old (by (with_reducible repeat (first | apply Kd.R_alloc | apply Kd.R_drewN | apply Kd.R_drew)); exact HO_249004.out) hb) (Kd.R_base ho0)) (Kd.R_base ho1)) (Kd.R_base ho2)) (fun _ h_ => h_.1)); have n1_ := As0 (Kd.V_mono (Kd.V_told (Kd.V_told (Kd.V_told (Kd.V_old (by (with_reducible repeat (first | apply Kd.V_alloc | apply Kd.V_drewN | apply Kd.V_drew)); exact HO_249005.out) hb) (Kd.R_base ho0)) (Kd.R_base ho1)) (Kd.R_base ho2)) (fun _ h_ => h_.1)); have n2_ := As0 (Kd.R_mono (Kd.R_told (Kd.R_told (Kd.R_told (Kd.R_old (by (with_reducible repeat (first | apply Kd.R_alloc | apply Kd.R_drewN | apply Kd.R_drew)); exact HO_249006.out) hb) (Kd.R_base ho0)) (Kd.R_base ho1)) (Kd.R_base ho2)) (fun _ h_ => h_.1)); have n3_ := As0 (Kd.R_lower (Kd.R_new' (Kd.R_new' ho0 (Kd.R_lt (by (with_reducible repeat (first | apply Kd.R_alloc | apply Kd.R_drewN | apply Kd.R_drew)); exact HO_249004.out))) (Kd.R_lt (by (with_reducible repeat (first | apply Kd.R_alloc | apply Kd.R_drewN | apply Kd.R_drew)); exact HO_249006.out))) (below_size (by repeat (first | (with_reducible first | exact HB.out | apply below_alloc | apply bdN | apply bd1 | refine below_set ?_ GE229.out | refine below_set ?_ GE248.out) | exact HB.out)))); have n4_ := As0 (Kd.R_lower (Kd.R_new' (Kd.R_new' ho1 (Kd.R_lt (by (with_reducible repeat (first | apply Kd.R_alloc | apply Kd.R_drewN | apply Kd.R_drew)); exact HO_249004.out))) (Kd.R_lt (by (with_reducible repeat (first | apply Kd.R_alloc | apply Kd.R_drewN | apply Kd.R_drew)); exact HO_249006.out))) (below_size (by repeat (first | (with_reducible first | exact HB.out | apply below_alloc | apply bdN | apply bd1 | refine below_set ?_ GE229.out | refine below_set ?_ GE248.out) | exact HB.out)))); have n5_ := As0 (Kd.R_lower (Kd.R_new' (Kd.R_new' ho2 (Kd.R_lt (by (with_reducible repeat (first | apply Kd.R_alloc | apply Kd.R_drewN | apply Kd.R_drew)); exact HO_249004.out))) (Kd.R_lt (by (with_reducible repeat (first | apply Kd.R_alloc | apply Kd.R_drewN | apply Kd.R_drew)); exact HO_249006.out))) (below_size (by repeat (first | (with_reducible first | exact HB.out | apply below_alloc | apply bdN | apply bd1 | refine below_set ?_ GE229.out | refine below_set ?_ GE248.out) | exact HB.out)))); have n6_ := As0 (blk_below (g := gb229) (o := .cells #[.int .i64 a0_0, .int .i64 a0_1, .slice A0_2 l0_2.length c0_2] 34 (0, 0)) (by (with_reducible repeat (first | refine blk_drewN ?_ _ | refine blk_drew ?_ | refine blk_alloc ?_ _)); exact BK229.out) hb); have n7_ := As0 (blk_below (g := gb248) (o := .cells #[.int .i64 x249000_2, .int .i64 x249001_2, .int .i64 x249002_2, .int .i64 x249003_2, u249004, u249005, u249006, .int .i64 x249007_2] 39 (0, 0)) (by (with_reducible repeat (first | refine blk_drewN ?_ _ | refine blk_drew ?_ | refine blk_alloc ?_ _)); exact BK248.out) hb); have n8_ := As0 (below_step (by repeat (first | (with_reducible first | exact HB.out | apply below_alloc | apply bdN | apply bd1 | refine below_set ?_ GE229.out | refine below_set ?_ GE248.out) | exact HB.out)) hb); clear HO_249004; clear HO_249005; clear HO_249006; clear BK229; clear BK248; clear HB; have HO_249004 := n0_; have HO_249005 := n1_; have HO_249006 := n2_; have HO269 := n3_; have HO272 := n4_; have HO275 := n5_; have BK229 := n6_; have BK248 := n7_; have HB := n8_; clear n0_ n1_ n2_ n3_ n4_ n5_ n6_ n7_ n8_; (try clear hb); (try clear hb2); (try clear hk); (try clear hi); (try clear ho0); (try clear ho1); (try clear ho2)) | ((with_reducible refine gate_dst (N := 11) rfl ?_); (try (refine gate_guard (by rfl) ?_; dsimp only)); refine box_event ?hg (N := 11) ?hd (cs := #[.int .i64 0, .int .i64 0, .int .i64 0, .int .i64 0, .slice none 0 0, .slice none 0 0, .slice none 0 0, .int .i64 0]) (t := 39) ?hr ?_; (case hd => rfl); (case hg => rfl); (case hr => first | (go_simp; done) | (go_simp; rfl)); intro gb278 hg w64 hbox hb; have n0_ := As0 (Kd.R_below (by (with_reducible repeat (first | apply Kd.R_alloc | apply Kd.R_drewN | apply Kd.R_drew)); exact HO_249004.out) hb); have n1_ := As0 (Kd.V_below (Kd.V_elderB (by (with_reducible repeat (first | apply Kd.V_alloc | apply Kd.V_drewN | apply Kd.V_drew)); exact HO_249005.out) gb278 (Nat.le_of_eq hg.symm)) hb); have n2_ := As0 (Kd.R_below (by (with_reducible repeat (first | apply Kd.R_alloc | apply Kd.R_drewN | apply Kd.R_drew)); exact HO_249006.out) hb); have n3_ := As0 (Kd.R_below (by (with_reducible repeat (first | apply Kd.R_alloc | apply Kd.R_drewN | apply Kd.R_drew)); exact HO269.out) hb); have n4_ := As0 (Kd.R_below (by (with_reducible repeat (first | apply Kd.R_alloc | apply Kd.R_drewN | apply Kd.R_drew)); exact HO272.out) hb); have n5_ := As0 (Kd.R_below (by (with_reducible repeat (first | apply Kd.R_alloc | apply Kd.R_drewN | apply Kd.R_drew)); exact HO275.out) hb); have n6_ := As0 (blk_below (g := gb229) (o := .cells #[.int .i64 a0_0, .int .i64 a0_1, .slice A0_2 l0_2.length c0_2] 34 (0, 0)) (by (with_reducible repeat (first | refine blk_drewN ?_ _ | refine blk_drew ?_ | refine blk_alloc ?_ _)); exact BK229.out) hb); have n7_ := As0 (blk_below (g := gb248) (o := .cells #[.int .i64 x249000_2, .int .i64 x249001_2, .int .i64 x249002_2, .int .i64 x249003_2, u249004, u249005, u249006, .int .i64 x249007_2] 39 (0, 0)) (by (with_reducible repeat (first | refine blk_drewN ?_ _ | refine blk_drew ?_ | refine blk_alloc ?_ _)); exact BK248.out) hb); have n8_ := As0 (below_step (by repeat (first | (with_reducible first | exact HB.out | apply below_alloc | apply bdN | apply bd1 | refine below_set ?_ GE229.out | refine below_set ?_ GE248.out) | exact HB.out)) hb); have n9_ := As0 (hbox); have n10_ := As0 ((by rw [hg]; exact (below_size (by repeat (first | (with_reducible first | exact HB.out | apply below_alloc | apply bdN | apply bd1 | refine below_set ?_ GE229.out | refine below_set ?_ GE248.out) | exact HB.out))) : w.heap.size ≤ gb278)); have n11_ := As0 ((by rw [hg]; exact (below_size (by repeat (first | (with_reducible first | exact HB.out | apply below_alloc | apply bdN | apply bd1 | refine below_set ?_ GE229.out | refine below_set ?_ GE248.out) | exact HB.out))) : w.heap.size ≤ gb278)); have n12_ := As0 ((by rw [hg]; exact Nat.ne_of_lt (blk_lt (g := gb229) (o := .cells #[.int .i64 a0_0, .int .i64 a0_1, .slice A0_2 l0_2.length c0_2] 34 (0, 0)) (by (with_reducible repeat (first | refine blk_drewN ?_ _ | refine blk_drew ?_ | refine blk_alloc ?_ _)); exact BK229.out)) : gb229 ≠ gb278)); have n13_ := As0 ((by rw [hg]; exact Nat.ne_of_gt (blk_lt (g := gb229) (o := .cells #[.int .i64 a0_0, .int .i64 a0_1, .slice A0_2 l0_2.length c0_2] 34 (0, 0)) (by (with_reducible repeat (first | refine blk_drewN ?_ _ | refine blk_drew ?_ | refine blk_alloc ?_ _)); exact BK229.out)) : gb278 ≠ gb229)); have n14_ := As0 ((by rw [hg]; exact Nat.ne_of_lt (blk_lt (g := gb248) (o := .cells #[.int .i64 x249000_2, .int .i64 x249001_2, .int .i64 x249002_2, .int .i64 x249003_2, u249004, u249005, u249006, .int .i64 x249007_2] 39 (0, 0)) (by (with_reducible repeat (first | refine blk_drewN ?_ _ | refine blk_drew ?_ | refine blk_alloc ?_ _)); exact BK248.out)) : gb248 ≠ gb278)); have n15_ := As0 ((by rw [hg]; exact Nat.ne_of_gt (blk_lt (g := gb248) (o := .cells #[.int .i64 x249000_2, .int .i64 x249001_2, .int .i64 x249002_2, .int .i64 x249003_2, u249004, u249005, u249006, .int .i64 x249007_2] 39 (0, 0)) (by (with_reducible repeat (first | refine blk_drewN ?_ _ | refine blk_drew ?_ | refine blk_alloc ?_ _)); exact BK248.out)) : gb278 ≠ gb248)); clear HO_249004; clear HO_249005; clear HO_249006; clear HO269; clear HO272; clear HO275; clear BK229; clear BK248; clear HB; have HO_249004 := n0_; have HO_249005 := n1_; have HO_249006 := n2_; have HO269 := n3_; have HO272 := n4_; have HO275 := n5_; have BK229 := n6_; have BK248 := n7_; have HB := n8_; have BK278 := n9_; have GW278 := n10_; have GE278 := n11_; have NB229_278 := n12_; have NB278_229 := n13_; have NB248_278 := n14_; have NB278_248 := n15_; clear n0_ n1_ n2_ n3_ n4_ n5_ n6_ n7_ n8_ n9_ n10_ n11_ n12_ n13_ n14_ n15_; clear hb hbox hg; have hnb65 := NB278_229.out; have hnc65 := NB229_278.out; have hnb66 := NB278_248.out; have hnc66 := NB248_278.out; have hcz67_0 : w64.cell? ⟨gb278, 0, none⟩ = some (.int .i64 0) := (blk_cell BK278.out 0).trans rfl; have hcz67_1 : w64.cell? ⟨gb278, 1, none⟩ = some (.int .i64 0) := (blk_cell BK278.out 1).trans rfl; have hcz67_2 : w64.cell? ⟨gb278, 2, none⟩ = some (.int .i64 0) := (blk_cell BK278.out 2).trans rfl; have hcz67_3 : w64.cell? ⟨gb278, 3, none⟩ = some (.int .i64 0) := (blk_cell BK278.out 3).trans rfl; have hcz67_4 : w64.cell? ⟨gb278, 4, none⟩ = some (.slice none 0 0) := (blk_cell BK278.out 4).trans rfl; have hcz67_5 : w64.cell? ⟨gb278, 5, none⟩ = some (.slice none 0 0) := (blk_cell BK278.out 5).trans rfl; have hcz67_6 : w64.cell? ⟨gb278, 6, none⟩ = some (.slice none 0 0) := (blk_cell BK278.out 6).trans rfl; have hcz67_7 : w64.cell? ⟨gb278, 7, none⟩ = some (.int .i64 0) := (blk_cell BK278.out 7).trans rfl; have hfz67_0 := blk_frozen BK278.out 0; have hfz67_1 := blk_frozen BK278.out 1; have hfz67_2 := blk_frozen BK278.out 2; have hfz67_3 := blk_frozen BK278.out 3; have hfz67_4 := blk_frozen BK278.out 4; have hfz67_5 := blk_frozen BK278.out 5; have hfz67_6 := blk_frozen BK278.out 6; have hfz67_7 := blk_frozen BK278.out 7; obtain ⟨Ao68, co68, eo68⟩ := Kd.R_slice HO269.out; subst eo68; obtain ⟨Ao69, co69, eo69⟩ := Kd.R_slice HO272.out; subst eo69; obtain ⟨Ao70, co70, eo70⟩ := Kd.R_slice HO275.out; subst eo70; have hcz71_0 : w64.cell? ⟨gb248, 0, none⟩ = some (.int .i64 x249000_2) := (blk_cell BK248.out 0).trans rfl; have hcz71_1 : w64.cell? ⟨gb248, 1, none⟩ = some (.int .i64 x249001_2) := (blk_cell BK248.out 1).trans rfl; have hcz71_2 : w64.cell? ⟨gb248, 2, none⟩ = some (.int .i64 x249002_2) := (blk_cell BK248.out 2).trans rfl; have hcz71_3 : w64.cell? ⟨gb248, 3, none⟩ = some (.int .i64 x249003_2) := (blk_cell BK248.out 3).trans rfl; have hcz71_4 : w64.cell? ⟨gb248, 4, none⟩ = some (u249004) := (blk_cell BK248.out 4).trans rfl; have hcz71_5 : w64.cell? ⟨gb248, 5, none⟩ = some (u249005) := (blk_cell BK248.out 5).trans rfl; have hcz71_6 : w64.cell? ⟨gb248, 6, none⟩ = some (u249006) := (blk_cell BK248.out 6).trans rfl; have hcz71_7 : w64.cell? ⟨gb248, 7, none⟩ = some (.int .i64 x249007_2) := (blk_cell BK248.out 7).trans rfl; have hfz71_0 := blk_frozen BK248.out 0; have hfz71_1 := blk_frozen BK248.out 1; have hfz71_2 := blk_frozen BK248.out 2; have hfz71_3 := blk_frozen BK248.out 3; have hfz71_4 := blk_frozen BK248.out 4; have hfz71_5 := blk_frozen BK248.out 5; have hfz71_6 := blk_frozen BK248.out 6; have hfz71_7 := blk_frozen BK248.out 7; obtain ⟨Ao72, co72, eo72⟩ := Kd.R_slice HO_249004.out; subst eo72; obtain ⟨Ao73, co73, eo73⟩ := Kd.V_slice HO_249005.out; subst eo73; obtain ⟨Ao74, co74, eo74⟩ := Kd.R_slice HO_249006.out; subst eo74) | ((with_reducible refine gate_callee (f := 33) rfl ?_); refine goesL_ (some 74) rfl rfl Try.func33 (by kernel_rfl) rfl #[.agg #[.int .i64 x249000_2, .int .i64 x249001_2, .int .i64 x249002_2, .int .i64 x249003_2, .slice Ao72 x249004_2.length co72, .slice Ao73 x249005_2.length co73, .slice Ao74 x249006_2.length co74, .int .i64 x249007_2], .agg #[.int .i64 t263, .int .i64 t264, .int .i64 t265, .int .i64 t266, .slice Ao68 t267.length co68, .slice Ao69 t270.length co69, .slice Ao70 t273.length co70, .int .i64 t276]] rfl (by (try simp only [List.map_toArray, List.map_cons, List.map_nil]); first | done | rfl | (simp only [List.length_drop, List.length_take]; rfl)) ?_; (with_reducible refine (regcertref09_Same.calls k2 x249000_2 x249001_2 x249002_2 x249003_2 _ _ x249004_2 _ _ x249005_2 _ _ x249006_2 x249007_2 t263 t264 t265 t266 _ _ t267 _ _ t270 _ _ t273 t276 t279 _ ?side1 ?side2 ?side3 ?side4 ?side5 ?side6 ?side7 ?side8 ?side9 ?side10 ?side11 ?side12 A60.out).mono ?_); (case side1 => refine (Kd.R_reads' (e := 2) (base := w.heap.size) (ok := fun k_ => (((some k_ ≠ (.slice Ao74 x249006_2.length co74 : Value).ownBlock ∧ some k_ ≠ (.slice Ao68 t267.length co68 : Value).ownBlock) ∧ some k_ ≠ (.slice Ao69 t270.length co69 : Value).ownBlock) ∧ some k_ ≠ (.slice Ao70 t273.length co70 : Value).ownBlock)) (n := x249004_2.length) (c := co72) ?_).2.2; exact (by (with_reducible repeat (first | apply Kd.R_alloc | apply Kd.R_drewN | apply Kd.R_drew)); exact (Kd.R_mono (Kd.R_far (p := ⟨gb278, 7, none⟩) (Kd.R_far (p := ⟨gb278, 6, none⟩) (Kd.R_far (p := ⟨gb278, 5, none⟩) (Kd.R_far (p := ⟨gb278, 4, none⟩) (Kd.R_far (p := ⟨gb278, 3, none⟩) (Kd.R_far (p := ⟨gb278, 2, none⟩) (Kd.R_far (p := ⟨gb278, 1, none⟩) (Kd.R_far (p := ⟨gb278, 0, none⟩) (Kd.R_types HO_249004.out BK278.out (by decide)) (fun _ hk => hk.2) (.int .i64 t263)) (fun _ hk => hk.2) (.int .i64 t264)) (fun _ hk => hk.2) (.int .i64 t265)) (fun _ hk => hk.2) (.int .i64 t266)) (fun _ hk => hk.2) (.slice Ao68 t267.length co68)) (fun _ hk => hk.2) (.slice Ao69 t270.length co69)) (fun _ hk => hk.2) (.slice Ao70 t273.length co70)) (fun _ hk => hk.2) (.int .i64 t276)) (fun _ h_ => h_.1)))); (case side2 => exact (Kd.R_reads' HO_249004.out).2.1); (case side3 => refine (Kd.V_reads' (e := 2) (base := w.heap.size) (ok := fun k_ => (((((some k_ ≠ (.slice Ao72 x249004_2.length co72 : Value).ownBlock ∧ (some k_ ≠ (.slice Ao74 x249006_2.length co74 : Value).ownBlock ∧ (k_ ≠ gb229 ∧ k_ ≠ gb248))) ∧ some k_ ≠ (.slice Ao68 t267.length co68 : Value).ownBlock) ∧ some k_ ≠ (.slice Ao69 t270.length co69 : Value).ownBlock) ∧ some k_ ≠ (.slice Ao70 t273.length co70 : Value).ownBlock) ∧ k_ ≠ gb278)) (n := x249005_2.length) (c := co73) ?_).2.2; exact (by (with_reducible repeat (first | apply Kd.V_alloc | apply Kd.V_drewN | apply Kd.V_drew)); exact (Kd.V_mono (Kd.V_far (p := ⟨gb278, 7, none⟩) (Kd.V_far (p := ⟨gb278, 6, none⟩) (Kd.V_far (p := ⟨gb278, 5, none⟩) (Kd.V_far (p := ⟨gb278, 4, none⟩) (Kd.V_far (p := ⟨gb278, 3, none⟩) (Kd.V_far (p := ⟨gb278, 2, none⟩) (Kd.V_far (p := ⟨gb278, 1, none⟩) (Kd.V_far (p := ⟨gb278, 0, none⟩) (Kd.V_mono HO_249005.out (fun k_ hk => (⟨hk, hk.2⟩ : _ ∧ k_ ≠ gb278))) (fun _ hk => hk.2) (.int .i64 t263)) (fun _ hk => hk.2) (.int .i64 t264)) (fun _ hk => hk.2) (.int .i64 t265)) (fun _ hk => hk.2) (.int .i64 t266)) (fun _ hk => hk.2) (.slice Ao68 t267.length co68)) (fun _ hk => hk.2) (.slice Ao69 t270.length co69)) (fun _ hk => hk.2) (.slice Ao70 t273.length co70)) (fun _ hk => hk.2) (.int .i64 t276)) (fun _ h_ => h_.1)))); (case side4 => exact (Kd.V_reads' HO_249005.out).2.1); (case side5 => refine (Kd.R_reads' (e := 2) (base := w.heap.size) (ok := fun k_ => (((some k_ ≠ (.slice Ao72 x249004_2.length co72 : Value).ownBlock ∧ some k_ ≠ (.slice Ao68 t267.length co68 : Value).ownBlock) ∧ some k_ ≠ (.slice Ao69 t270.length co69 : Value).ownBlock) ∧ some k_ ≠ (.slice Ao70 t273.length co70 : Value).ownBlock)) (n := x249006_2.length) (c := co74) ?_).2.2; exact (by (with_reducible repeat (first | apply Kd.R_alloc | apply Kd.R_drewN | apply Kd.R_drew)); exact (Kd.R_mono (Kd.R_far (p := ⟨gb278, 7, none⟩) (Kd.R_far (p := ⟨gb278, 6, none⟩) (Kd.R_far (p := ⟨gb278, 5, none⟩) (Kd.R_far (p := ⟨gb278, 4, none⟩) (Kd.R_far (p := ⟨gb278, 3, none⟩) (Kd.R_far (p := ⟨gb278, 2, none⟩) (Kd.R_far (p := ⟨gb278, 1, none⟩) (Kd.R_far (p := ⟨gb278, 0, none⟩) (Kd.R_types HO_249006.out BK278.out (by decide)) (fun _ hk => hk.2) (.int .i64 t263)) (fun _ hk => hk.2) (.int .i64 t264)) (fun _ hk => hk.2) (.int .i64 t265)) (fun _ hk => hk.2) (.int .i64 t266)) (fun _ hk => hk.2) (.slice Ao68 t267.length co68)) (fun _ hk => hk.2) (.slice Ao69 t270.length co69)) (fun _ hk => hk.2) (.slice Ao70 t273.length co70)) (fun _ hk => hk.2) (.int .i64 t276)) (fun _ h_ => h_.1)))); (case side6 => exact (Kd.R_reads' HO_249006.out).2.1); (case side7 => refine (Kd.R_reads' (e := 2) (base := w.heap.size) (ok := fun k_ => (((some k_ ≠ (.slice Ao69 t270.length co69 : Value).ownBlock ∧ some k_ ≠ (.slice Ao70 t273.length co70 : Value).ownBlock) ∧ some k_ ≠ (.slice Ao72 x249004_2.length co72 : Value).ownBlock) ∧ some k_ ≠ (.slice Ao74 x249006_2.length co74 : Value).ownBlock)) (n := t267.length) (c := co68) ?_).2.2; exact (by (with_reducible repeat (first | apply Kd.R_alloc | apply Kd.R_drewN | apply Kd.R_drew)); exact (Kd.R_mono (Kd.R_far (p := ⟨gb278, 7, none⟩) (Kd.R_far (p := ⟨gb278, 6, none⟩) (Kd.R_far (p := ⟨gb278, 5, none⟩) (Kd.R_far (p := ⟨gb278, 4, none⟩) (Kd.R_far (p := ⟨gb278, 3, none⟩) (Kd.R_far (p := ⟨gb278, 2, none⟩) (Kd.R_far (p := ⟨gb278, 1, none⟩) (Kd.R_far (p := ⟨gb278, 0, none⟩) (Kd.R_types HO269.out BK278.out (by decide)) (fun _ hk => hk.2) (.int .i64 t263)) (fun _ hk => hk.2) (.int .i64 t264)) (fun _ hk => hk.2) (.int .i64 t265)) (fun _ hk => hk.2) (.int .i64 t266)) (fun _ hk => hk.2) (.slice Ao68 t267.length co68)) (fun _ hk => hk.2) (.slice Ao69 t270.length co69)) (fun _ hk => hk.2) (.slice Ao70 t273.length co70)) (fun _ hk => hk.2) (.int .i64 t276)) (fun _ h_ => h_.1)))); (case side8 => exact (Kd.R_reads' HO269.out).2.1); (case side9 => refine (Kd.R_reads' (e := 2) (base := w.heap.size) (ok := fun k_ => (((some k_ ≠ (.slice Ao68 t267.length co68 : Value).ownBlock ∧ some k_ ≠ (.slice Ao70 t273.length co70 : Value).ownBlock) ∧ some k_ ≠ (.slice Ao72 x249004_2.length co72 : Value).ownBlock) ∧ some k_ ≠ (.slice Ao74 x249006_2.length co74 : Value).ownBlock)) (n := t270.length) (c := co69) ?_).2.2; exact (by (with_reducible repeat (first | apply Kd.R_alloc | apply Kd.R_drewN | apply Kd.R_drew)); exact (Kd.R_mono (Kd.R_far (p := ⟨gb278, 7, none⟩) (Kd.R_far (p := ⟨gb278, 6, none⟩) (Kd.R_far (p := ⟨gb278, 5, none⟩) (Kd.R_far (p := ⟨gb278, 4, none⟩) (Kd.R_far (p := ⟨gb278, 3, none⟩) (Kd.R_far (p := ⟨gb278, 2, none⟩) (Kd.R_far (p := ⟨gb278, 1, none⟩) (Kd.R_far (p := ⟨gb278, 0, none⟩) (Kd.R_types HO272.out BK278.out (by decide)) (fun _ hk => hk.2) (.int .i64 t263)) (fun _ hk => hk.2) (.int .i64 t264)) (fun _ hk => hk.2) (.int .i64 t265)) (fun _ hk => hk.2) (.int .i64 t266)) (fun _ hk => hk.2) (.slice Ao68 t267.length co68)) (fun _ hk => hk.2) (.slice Ao69 t270.length co69)) (fun _ hk => hk.2) (.slice Ao70 t273.length co70)) (fun _ hk => hk.2) (.int .i64 t276)) (fun _ h_ => h_.1)))); (case side10 => exact (Kd.R_reads' HO272.out).2.1); (case side11 => refine (Kd.R_reads' (e := 2) (base := w.heap.size) (ok := fun k_ => (((some k_ ≠ (.slice Ao68 t267.length co68 : Value).ownBlock ∧ some k_ ≠ (.slice Ao69 t270.length co69 : Value).ownBlock) ∧ some k_ ≠ (.slice Ao72 x249004_2.length co72 : Value).ownBlock) ∧ some k_ ≠ (.slice Ao74 x249006_2.length co74 : Value).ownBlock)) (n := t273.length) (c := co70) ?_).2.2; exact (by (with_reducible repeat (first | apply Kd.R_alloc | apply Kd.R_drewN | apply Kd.R_drew)); exact (Kd.R_mono (Kd.R_far (p := ⟨gb278, 7, none⟩) (Kd.R_far (p := ⟨gb278, 6, none⟩) (Kd.R_far (p := ⟨gb278, 5, none⟩) (Kd.R_far (p := ⟨gb278, 4, none⟩) (Kd.R_far (p := ⟨gb278, 3, none⟩) (Kd.R_far (p := ⟨gb278, 2, none⟩) (Kd.R_far (p := ⟨gb278, 1, none⟩) (Kd.R_far (p := ⟨gb278, 0, none⟩) (Kd.R_types HO275.out BK278.out (by decide)) (fun _ hk => hk.2) (.int .i64 t263)) (fun _ hk => hk.2) (.int .i64 t264)) (fun _ hk => hk.2) (.int .i64 t265)) (fun _ hk => hk.2) (.int .i64 t266)) (fun _ hk => hk.2) (.slice Ao68 t267.length co68)) (fun _ hk => hk.2) (.slice Ao69 t270.length co69)) (fun _ hk => hk.2) (.slice Ao70 t273.length co70)) (fun _ hk => hk.2) (.int .i64 t276)) (fun _ h_ => h_.1)))); (case side12 => exact (Kd.R_reads' HO275.out).2.1); rintro e w75 ⟨rfl, hb⟩; refine ⟨_, rfl, ?_⟩; have n0_ := As0 (Kd.R_below (by (with_reducible repeat (first | apply Kd.R_alloc | apply Kd.R_drewN | apply Kd.R_drew)); exact (Kd.R_mono (Kd.R_far (p := ⟨gb278, 7, none⟩) (Kd.R_far (p := ⟨gb278, 6, none⟩) (Kd.R_far (p := ⟨gb278, 5, none⟩) (Kd.R_far (p := ⟨gb278, 4, none⟩) (Kd.R_far (p := ⟨gb278, 3, none⟩) (Kd.R_far (p := ⟨gb278, 2, none⟩) (Kd.R_far (p := ⟨gb278, 1, none⟩) (Kd.R_far (p := ⟨gb278, 0, none⟩) (Kd.R_types HO_249004.out BK278.out (by decide)) (fun _ hk => hk.2) (.int .i64 t263)) (fun _ hk => hk.2) (.int .i64 t264)) (fun _ hk => hk.2) (.int .i64 t265)) (fun _ hk => hk.2) (.int .i64 t266)) (fun _ hk => hk.2) (.slice Ao68 t267.length co68)) (fun _ hk => hk.2) (.slice Ao69 t270.length co69)) (fun _ hk => hk.2) (.slice Ao70 t273.length co70)) (fun _ hk => hk.2) (.int .i64 t276)) (fun _ h_ => h_.1))) hb); have n1_ := As0 (Kd.V_below (by (with_reducible repeat (first | apply Kd.V_alloc | apply Kd.V_drewN | apply Kd.V_drew)); exact (Kd.V_mono (Kd.V_far (p := ⟨gb278, 7, none⟩) (Kd.V_far (p := ⟨gb278, 6, none⟩) (Kd.V_far (p := ⟨gb278, 5, none⟩) (Kd.V_far (p := ⟨gb278, 4, none⟩) (Kd.V_far (p := ⟨gb278, 3, none⟩) (Kd.V_far (p := ⟨gb278, 2, none⟩) (Kd.V_far (p := ⟨gb278, 1, none⟩) (Kd.V_far (p := ⟨gb278, 0, none⟩) (Kd.V_mono HO_249005.out (fun k_ hk => (⟨hk, hk.2⟩ : _ ∧ k_ ≠ gb278))) (fun _ hk => hk.2) (.int .i64 t263)) (fun _ hk => hk.2) (.int .i64 t264)) (fun _ hk => hk.2) (.int .i64 t265)) (fun _ hk => hk.2) (.int .i64 t266)) (fun _ hk => hk.2) (.slice Ao68 t267.length co68)) (fun _ hk => hk.2) (.slice Ao69 t270.length co69)) (fun _ hk => hk.2) (.slice Ao70 t273.length co70)) (fun _ hk => hk.2) (.int .i64 t276)) (fun _ h_ => h_.1))) hb); have n2_ := As0 (Kd.R_below (by (with_reducible repeat (first | apply Kd.R_alloc | apply Kd.R_drewN | apply Kd.R_drew)); exact (Kd.R_mono (Kd.R_far (p := ⟨gb278, 7, none⟩) (Kd.R_far (p := ⟨gb278, 6, none⟩) (Kd.R_far (p := ⟨gb278, 5, none⟩) (Kd.R_far (p := ⟨gb278, 4, none⟩) (Kd.R_far (p := ⟨gb278, 3, none⟩) (Kd.R_far (p := ⟨gb278, 2, none⟩) (Kd.R_far (p := ⟨gb278, 1, none⟩) (Kd.R_far (p := ⟨gb278, 0, none⟩) (Kd.R_types HO_249006.out BK278.out (by decide)) (fun _ hk => hk.2) (.int .i64 t263)) (fun _ hk => hk.2) (.int .i64 t264)) (fun _ hk => hk.2) (.int .i64 t265)) (fun _ hk => hk.2) (.int .i64 t266)) (fun _ hk => hk.2) (.slice Ao68 t267.length co68)) (fun _ hk => hk.2) (.slice Ao69 t270.length co69)) (fun _ hk => hk.2) (.slice Ao70 t273.length co70)) (fun _ hk => hk.2) (.int .i64 t276)) (fun _ h_ => h_.1))) hb); have n3_ := As0 (Kd.R_below (by (with_reducible repeat (first | apply Kd.R_alloc | apply Kd.R_drewN | apply Kd.R_drew)); exact (Kd.R_mono (Kd.R_far (p := ⟨gb278, 7, none⟩) (Kd.R_far (p := ⟨gb278, 6, none⟩) (Kd.R_far (p := ⟨gb278, 5, none⟩) (Kd.R_far (p := ⟨gb278, 4, none⟩) (Kd.R_far (p := ⟨gb278, 3, none⟩) (Kd.R_far (p := ⟨gb278, 2, none⟩) (Kd.R_far (p := ⟨gb278, 1, none⟩) (Kd.R_far (p := ⟨gb278, 0, none⟩) (Kd.R_types HO269.out BK278.out (by decide)) (fun _ hk => hk.2) (.int .i64 t263)) (fun _ hk => hk.2) (.int .i64 t264)) (fun _ hk => hk.2) (.int .i64 t265)) (fun _ hk => hk.2) (.int .i64 t266)) (fun _ hk => hk.2) (.slice Ao68 t267.length co68)) (fun _ hk => hk.2) (.slice Ao69 t270.length co69)) (fun _ hk => hk.2) (.slice Ao70 t273.length co70)) (fun _ hk => hk.2) (.int .i64 t276)) (fun _ h_ => h_.1))) hb); have n4_ := As0 (Kd.R_below (by (with_reducible repeat (first | apply Kd.R_alloc | apply Kd.R_drewN | apply Kd.R_drew)); exact (Kd.R_mono (Kd.R_far (p := ⟨gb278, 7, none⟩) (Kd.R_far (p := ⟨gb278, 6, none⟩) (Kd.R_far (p := ⟨gb278, 5, none⟩) (Kd.R_far (p := ⟨gb278, 4, none⟩) (Kd.R_far (p := ⟨gb278, 3, none⟩) (Kd.R_far (p := ⟨gb278, 2, none⟩) (Kd.R_far (p := ⟨gb278, 1, none⟩) (Kd.R_far (p := ⟨gb278, 0, none⟩) (Kd.R_types HO272.out BK278.out (by decide)) (fun _ hk => hk.2) (.int .i64 t263)) (fun _ hk => hk.2) (.int .i64 t264)) (fun _ hk => hk.2) (.int .i64 t265)) (fun _ hk => hk.2) (.int .i64 t266)) (fun _ hk => hk.2) (.slice Ao68 t267.length co68)) (fun _ hk => hk.2) (.slice Ao69 t270.length co69)) (fun _ hk => hk.2) (.slice Ao70 t273.length co70)) (fun _ hk => hk.2) (.int .i64 t276)) (fun _ h_ => h_.1))) hb); have n5_ := As0 (Kd.R_below (by (with_reducible repeat (first | apply Kd.R_alloc | apply Kd.R_drewN | apply Kd.R_drew)); exact (Kd.R_mono (Kd.R_far (p := ⟨gb278, 7, none⟩) (Kd.R_far (p := ⟨gb278, 6, none⟩) (Kd.R_far (p := ⟨gb278, 5, none⟩) (Kd.R_far (p := ⟨gb278, 4, none⟩) (Kd.R_far (p := ⟨gb278, 3, none⟩) (Kd.R_far (p := ⟨gb278, 2, none⟩) (Kd.R_far (p := ⟨gb278, 1, none⟩) (Kd.R_far (p := ⟨gb278, 0, none⟩) (Kd.R_types HO275.out BK278.out (by decide)) (fun _ hk => hk.2) (.int .i64 t263)) (fun _ hk => hk.2) (.int .i64 t264)) (fun _ hk => hk.2) (.int .i64 t265)) (fun _ hk => hk.2) (.int .i64 t266)) (fun _ hk => hk.2) (.slice Ao68 t267.length co68)) (fun _ hk => hk.2) (.slice Ao69 t270.length co69)) (fun _ hk => hk.2) (.slice Ao70 t273.length co70)) (fun _ hk => hk.2) (.int .i64 t276)) (fun _ h_ => h_.1))) hb); have n6_ := As0 (blk_below (g := gb229) (o := .cells #[.int .i64 a0_0, .int .i64 a0_1, .slice A0_2 l0_2.length c0_2] 34 (0, 0)) (by (with_reducible repeat (first | refine blk_drewN ?_ _ | refine blk_drew ?_ | refine blk_alloc ?_ _)); refine blk_far ?_ NB229_278.out _; (with_reducible repeat (first | refine blk_drewN ?_ _ | refine blk_drew ?_ | refine blk_alloc ?_ _)); refine blk_far ?_ NB229_278.out _; (with_reducible repeat (first | refine blk_drewN ?_ _ | refine blk_drew ?_ | refine blk_alloc ?_ _)); refine blk_far ?_ NB229_278.out _; (with_reducible repeat (first | refine blk_drewN ?_ _ | refine blk_drew ?_ | refine blk_alloc ?_ _)); refine blk_far ?_ NB229_278.out _; (with_reducible repeat (first | refine blk_drewN ?_ _ | refine blk_drew ?_ | refine blk_alloc ?_ _)); refine blk_far ?_ NB229_278.out _; (with_reducible repeat (first | refine blk_drewN ?_ _ | refine blk_drew ?_ | refine blk_alloc ?_ _)); refine blk_far ?_ NB229_278.out _; (with_reducible repeat (first | refine blk_drewN ?_ _ | refine blk_drew ?_ | refine blk_alloc ?_ _)); refine blk_far ?_ NB229_278.out _; (with_reducible repeat (first | refine blk_drewN ?_ _ | refine blk_drew ?_ | refine blk_alloc ?_ _)); refine blk_far ?_ NB229_278.out _; (with_reducible repeat (first | refine blk_drewN ?_ _ | refine blk_drew ?_ | refine blk_alloc ?_ _)); exact BK229.out) hb); have n7_ := As0 (blk_below (g := gb248) (o := .cells #[.int .i64 x249000_2, .int .i64 x249001_2, .int .i64 x249002_2, .int .i64 x249003_2, .slice Ao72 x249004_2.length co72, .slice Ao73 x249005_2.length co73, .slice Ao74 x249006_2.length co74, .int .i64 x249007_2] 39 (0, 0)) (by (with_reducible repeat (first | refine blk_drewN ?_ _ | refine blk_drew ?_ | refine blk_alloc ?_ _)); refine blk_far ?_ NB248_278.out _; (with_reducible repeat (first | refine blk_drewN ?_ _ | refine blk_drew ?_ | refine blk_alloc ?_ _)); refine blk_far ?_ NB248_278.out _; (with_reducible repeat (first | refine blk_drewN ?_ _ | refine blk_drew ?_ | refine blk_alloc ?_ _)); refine blk_far ?_ NB248_278.out _; (with_reducible repeat (first | refine blk_drewN ?_ _ | refine blk_drew ?_ | refine blk_alloc ?_ _)); refine blk_far ?_ NB248_278.out _; (with_reducible repeat (first | refine blk_drewN ?_ _ | refine blk_drew ?_ | refine blk_alloc ?_ _)); refine blk_far ?_ NB248_278.out _; (with_reducible repeat (first | refine blk_drewN ?_ _ | refine blk_drew ?_ | refine blk_alloc ?_ _)); refine blk_far ?_ NB248_278.out _; (with_reducible repeat (first | refine blk_drewN ?_ _ | refine blk_drew ?_ | refine blk_alloc ?_ _)); refine blk_far ?_ NB248_278.out _; (with_reducible repeat (first | refine blk_drewN ?_ _ | refine blk_drew ?_ | refine blk_alloc ?_ _)); refine blk_far ?_ NB248_278.out _; (with_reducible repeat (first | refine blk_drewN ?_ _ | refine blk_drew ?_ | refine blk_alloc ?_ _)); exact BK248.out) hb); have n8_ := As0 (blk_below (g := gb278) (o := .cells #[.int .i64 t263, .int .i64 t264, .int .i64 t265, .int .i64 t266, .slice Ao68 t267.length co68, .slice Ao69 t270.length co69, .slice Ao70 t273.length co70, .int .i64 t276] 39 (0, 0)) (by (with_reducible repeat (first | refine blk_drewN ?_ _ | refine blk_drew ?_ | refine blk_alloc ?_ _)); refine blk_put (cs := #[.int .i64 t263, .int .i64 t264, .int .i64 t265, .int .i64 t266, .slice Ao68 t267.length co68, .slice Ao69 t270.length co69, .slice Ao70 t273.length co70, .int .i64 0]) ?_ 7 _ rfl; (with_reducible repeat (first | refine blk_drewN ?_ _ | refine blk_drew ?_ | refine blk_alloc ?_ _)); refine blk_put (cs := #[.int .i64 t263, .int .i64 t264, .int .i64 t265, .int .i64 t266, .slice Ao68 t267.length co68, .slice Ao69 t270.length co69, .slice none 0 0, .int .i64 0]) ?_ 6 _ rfl; (with_reducible repeat (first | refine blk_drewN ?_ _ | refine blk_drew ?_ | refine blk_alloc ?_ _)); refine blk_put (cs := #[.int .i64 t263, .int .i64 t264, .int .i64 t265, .int .i64 t266, .slice Ao68 t267.length co68, .slice none 0 0, .slice none 0 0, .int .i64 0]) ?_ 5 _ rfl; (with_reducible repeat (first | refine blk_drewN ?_ _ | refine blk_drew ?_ | refine blk_alloc ?_ _)); refine blk_put (cs := #[.int .i64 t263, .int .i64 t264, .int .i64 t265, .int .i64 t266, .slice none 0 0, .slice none 0 0, .slice none 0 0, .int .i64 0]) ?_ 4 _ rfl; (with_reducible repeat (first | refine blk_drewN ?_ _ | refine blk_drew ?_ | refine blk_alloc ?_ _)); refine blk_put (cs := #[.int .i64 t263, .int .i64 t264, .int .i64 t265, .int .i64 0, .slice none 0 0, .slice none 0 0, .slice none 0 0, .int .i64 0]) ?_ 3 _ rfl; (with_reducible repeat (first | refine blk_drewN ?_ _ | refine blk_drew ?_ | refine blk_alloc ?_ _)); refine blk_put (cs := #[.int .i64 t263, .int .i64 t264, .int .i64 0, .int .i64 0, .slice none 0 0, .slice none 0 0, .slice none 0 0, .int .i64 0]) ?_ 2 _ rfl; (with_reducible repeat (first | refine blk_drewN ?_ _ | refine blk_drew ?_ | refine blk_alloc ?_ _)); refine blk_put (cs := #[.int .i64 t263, .int .i64 0, .int .i64 0, .int .i64 0, .slice none 0 0, .slice none 0 0, .slice none 0 0, .int .i64 0]) ?_ 1 _ rfl; (with_reducible repeat (first | refine blk_drewN ?_ _ | refine blk_drew ?_ | refine blk_alloc ?_ _)); refine blk_put (cs := #[.int .i64 0, .int .i64 0, .int .i64 0, .int .i64 0, .slice none 0 0, .slice none 0 0, .slice none 0 0, .int .i64 0]) ?_ 0 _ rfl; (with_reducible repeat (first | refine blk_drewN ?_ _ | refine blk_drew ?_ | refine blk_alloc ?_ _)); exact BK278.out) hb); have n9_ := As0 (below_step (by repeat (first | (with_reducible first | exact HB.out | apply below_alloc | apply bdN | apply bd1 | refine below_set ?_ GE229.out | refine below_set ?_ GE248.out | refine below_set ?_ GE278.out) | exact HB.out)) hb); clear HO_249004; clear HO_249005; clear HO_249006; clear HO269; clear HO272; clear HO275; clear BK229; clear BK248; clear BK278; clear HB; have HO_249004 := n0_; have HO_249005 := n1_; have HO_249006 := n2_; have HO269 := n3_; have HO272 := n4_; have HO275 := n5_; have BK229 := n6_; have BK248 := n7_; have BK278 := n8_; have HB := n9_; clear n0_ n1_ n2_ n3_ n4_ n5_ n6_ n7_ n8_ n9_; (try clear hb); (try clear hb2); (try clear hk); (try clear hi)))
       go_ret
       exact ⟨by first | rfl | (simp [errW_none, errW_some] <;> rfl) | (simp [*, errW_none, errW_some] <;> rfl), by repeat (first | (with_reducible first | exact HB.out | apply below_alloc | apply bdN | apply bd1 | refine below_set ?_ GE229.out | refine below_set ?_ GE248.out | refine below_set ?_ GE278.out) | exact HB.out)⟩

end Go.Proofs.Ytgkmagfajalnhaa.Y
