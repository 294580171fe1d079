-- Written by a program of this session (xprint), out of the translation. Not trusted: Lean checks it.
import Derived.Test.YtgkmagfajalnhaaSE0
import Derived.Test.YtgkmagfajalnhaaSEAwk
import Derived.Test.YtgkmagfajalnhaaSEChk
import Derived.Test.YtgkmagfajalnhaaSEStepE
namespace Go.Proofs.Ytgkmagfajalnhaa.E
open Go.RowKit Go.Proofs.YtgkmagfajalnhaaW.PrintWords Go.Proofs.YtgkmagfajalnhaaW.PrintLast Go.Proofs.YtgkmagfajalnhaaW.PrintMore
attribute [local go_sem] max2_int min2_int max_two min_two max_three min_three max_four min_four   -- for this text's walks alone
set_option linter.unusedVariables false
set_option linter.unusedSimpArgs false

/-! ### regcertlaw10_ExecuteSteps: function 16 -/
mutual
def regcertlaw10_ExecuteSteps.j0 : Nat → List Int → Int → Bool → Int → Int → Int → List (S69) → Option (Bool)
 | 0, _, _, _, _, _, _, _ => none
 | k + 1, x1, x2, x27, x221000, x221001, x221002, x221003 => if x27 = true then ((regcertlaw10_awake.f k).bind fun t223 => (some t223)) else ((execute_Start.f x221000 x221001 x221002 x221003 x1).bind fun bt224 => (regcertlaw10_ExecuteSteps.l0 k x1 (Int.tmod (wrap64 (x2)) 60) 0 x221000 x221001 x221002 x221003 bt224.1 bt224.2.1 bt224.2.2.1 bt224.2.2.2.1 bt224.2.2.2.2.1 bt224.2.2.2.2.2.1 bt224.2.2.2.2.2.2.1 bt224.2.2.2.2.2.2.2.1))
def regcertlaw10_ExecuteSteps.l0 : Nat → List Int → Int → Int → Int → Int → Int → List (S69) → Int → Int → Int → Int → List Int → List Int → List Int → Int → Option (Bool)
 | 0, _, _, _, _, _, _, _, _, _, _, _, _, _, _, _ => none
 | k + 1, x1, x7, x10, x221000, x221001, x221002, x221003, x240000, x240001, x240002, x240003, x240004, x240005, x240006, x240007 => if x10 < x7 then (if (x240004.length : Int) = x221001 then (if (x240005.length : Int) = x221002 then (if x240001 < 0 then (regcertlaw10_ExecuteSteps.j2 k x1 x7 x10 true x221000 x221001 x221002 x221003 x240000 x240001 x240002 x240003 x240004 x240005 x240006 x240007) else (regcertlaw10_ExecuteSteps.j2 k x1 x7 x10 (decide (x240001 ≥ (x221003.length : Int))) x221000 x221001 x221002 x221003 x240000 x240001 x240002 x240003 x240004 x240005 x240006 x240007)) else (regcertlaw10_ExecuteSteps.j2 k x1 x7 x10 true x221000 x221001 x221002 x221003 x240000 x240001 x240002 x240003 x240004 x240005 x240006 x240007)) else (regcertlaw10_ExecuteSteps.j2 k x1 x7 x10 true x221000 x221001 x221002 x221003 x240000 x240001 x240002 x240003 x240004 x240005 x240006 x240007)) else ((execute_Exec.f k x221000 x221001 x221002 x221003 x1 x7).bind fun bt254 => ((regcertref09_Same.f k x240000 x240001 x240002 x240003 x240004 x240005 x240006 x240007 bt254.1 bt254.2.1 bt254.2.2.1 bt254.2.2.2.1 bt254.2.2.2.2.1 bt254.2.2.2.2.2.1 bt254.2.2.2.2.2.2.1 bt254.2.2.2.2.2.2.2.1).bind fun t270 => (some t270)))
def regcertlaw10_ExecuteSteps.j2 : Nat → List Int → Int → Int → Bool → Int → Int → Int → List (S69) → Int → Int → Int → Int → List Int → List Int → List Int → Int → Option (Bool)
 | 0, _, _, _, _, _, _, _, _, _, _, _, _, _, _, _, _ => none
 | k + 1, x1, x7, x10, x69, x221000, x221001, x221002, x221003, x240000, x240001, x240002, x240003, x240004, x240005, x240006, x240007 => if x69 = true then (none) else ((execute_Step.f x221000 x221001 x221002 x221003 x240000 x240001 x240002 x240003 x240004 x240005 x240006 x240007).bind fun bt240 => (regcertlaw10_ExecuteSteps.l0 k x1 x7 (wrap64 (x10 + 1)) x221000 x221001 x221002 x221003 bt240.1 bt240.2.1 bt240.2.2.1 bt240.2.2.2.1 bt240.2.2.2.2.1 bt240.2.2.2.2.2.1 bt240.2.2.2.2.2.2.1 bt240.2.2.2.2.2.2.2))
end
def regcertlaw10_ExecuteSteps.f (k : Nat) (a0_0 : Int) (a0_1 : Int) (a0_2 : Int) (l0_3 : List (S69)) (l1 : List Int) (a2 : Int) : Option (Bool) := (regcertlaw10_awake.f k).bind fun t221 => (if t221 = true then ((regcertref10_Right.f k a0_0 a0_1 a0_2 l0_3 l1 0).bind fun t222 => (if t222 = true then (regcertlaw10_ExecuteSteps.j0 k l1 a2 ((l1.length : Int) != a0_0) a0_0 a0_1 a0_2 l0_3) else (regcertlaw10_ExecuteSteps.j0 k l1 a2 true a0_0 a0_1 a0_2 l0_3))) else (regcertlaw10_ExecuteSteps.j0 k l1 a2 true a0_0 a0_1 a0_2 l0_3))
theorem regcertlaw10_ExecuteSteps.mono_l : ∀ k, (∀ y0 y1 y2 y3 y4 y5 y6, LeO (regcertlaw10_ExecuteSteps.j0 k y0 y1 y2 y3 y4 y5 y6) (regcertlaw10_ExecuteSteps.j0 (k + 1) y0 y1 y2 y3 y4 y5 y6)) ∧ (∀ y0 y1 y2 y3 y4 y5 y6 y7 y8 y9 y10 y11 y12 y13 y14, LeO (regcertlaw10_ExecuteSteps.l0 k y0 y1 y2 y3 y4 y5 y6 y7 y8 y9 y10 y11 y12 y13 y14) (regcertlaw10_ExecuteSteps.l0 (k + 1) y0 y1 y2 y3 y4 y5 y6 y7 y8 y9 y10 y11 y12 y13 y14)) ∧ (∀ y0 y1 y2 y3 y4 y5 y6 y7 y8 y9 y10 y11 y12 y13 y14 y15, LeO (regcertlaw10_ExecuteSteps.j2 k y0 y1 y2 y3 y4 y5 y6 y7 y8 y9 y10 y11 y12 y13 y14 y15) (regcertlaw10_ExecuteSteps.j2 (k + 1) y0 y1 y2 y3 y4 y5 y6 y7 y8 y9 y10 y11 y12 y13 y14 y15))
 | 0 => ⟨fun _ _ _ _ _ _ _ r h => by simp [regcertlaw10_ExecuteSteps.j0] at h, fun _ _ _ _ _ _ _ _ _ _ _ _ _ _ _ r h => by simp [regcertlaw10_ExecuteSteps.l0] at h, fun _ _ _ _ _ _ _ _ _ _ _ _ _ _ _ _ r h => by simp [regcertlaw10_ExecuteSteps.j2] at h⟩
 | k + 1 => by
  obtain ⟨ih0, ih1, ih2⟩ := regcertlaw10_ExecuteSteps.mono_l k
  refine ⟨?_, ?_, ?_⟩
  ·intro y0 y1 y2 y3 y4 y5 y6
   unfold regcertlaw10_ExecuteSteps.j0
   repeat' first
   | (with_reducible exact ih0 _ _ _ _ _ _ _)
   | (with_reducible exact ih1 _ _ _ _ _ _ _ _ _ _ _ _ _ _ _)
   | (with_reducible exact ih2 _ _ _ _ _ _ _ _ _ _ _ _ _ _ _ _)
   | (with_reducible exact execute_Exec.mono _ _ _ _ _ _ _)
   | (with_reducible exact regcertlaw10_awake.mono _)
   | (with_reducible exact regcertref09_Same.mono _ _ _ _ _ _ _ _ _ _ _ _ _ _ _ _ _)
   | (with_reducible exact regcertref10_Right.mono _ _ _ _ _ _ _)
   | (with_reducible exact LeO.refl _)
   | (with_reducible exact LeO.none _)
   | (with_reducible refine LeO.ite ?_ ?_)
   | (with_reducible refine LeO.bind ?_ (fun _ => ?_))
   | exact ih0 _ _ _ _ _ _ _
   | exact ih1 _ _ _ _ _ _ _ _ _ _ _ _ _ _ _
   | exact ih2 _ _ _ _ _ _ _ _ _ _ _ _ _ _ _ _
   | exact execute_Exec.mono _ _ _ _ _ _ _
   | exact regcertlaw10_awake.mono _
   | exact regcertref09_Same.mono _ _ _ _ _ _ _ _ _ _ _ _ _ _ _ _ _
   | exact regcertref10_Right.mono _ _ _ _ _ _ _
   | exact LeO.none _
   | refine LeO.ite ?_ ?_
   | refine LeO.bind ?_ (fun _ => ?_)
  ·intro y0 y1 y2 y3 y4 y5 y6 y7 y8 y9 y10 y11 y12 y13 y14
   unfold regcertlaw10_ExecuteSteps.l0
   repeat' first
   | (with_reducible exact ih0 _ _ _ _ _ _ _)
   | (with_reducible exact ih1 _ _ _ _ _ _ _ _ _ _ _ _ _ _ _)
   | (with_reducible exact ih2 _ _ _ _ _ _ _ _ _ _ _ _ _ _ _ _)
   | (with_reducible exact execute_Exec.mono _ _ _ _ _ _ _)
   | (with_reducible exact regcertlaw10_awake.mono _)
   | (with_reducible exact regcertref09_Same.mono _ _ _ _ _ _ _ _ _ _ _ _ _ _ _ _ _)
   | (with_reducible exact regcertref10_Right.mono _ _ _ _ _ _ _)
   | (with_reducible exact LeO.refl _)
   | (with_reducible exact LeO.none _)
   | (with_reducible refine LeO.ite ?_ ?_)
   | (with_reducible refine LeO.bind ?_ (fun _ => ?_))
   | exact ih0 _ _ _ _ _ _ _
   | exact ih1 _ _ _ _ _ _ _ _ _ _ _ _ _ _ _
   | exact ih2 _ _ _ _ _ _ _ _ _ _ _ _ _ _ _ _
   | exact execute_Exec.mono _ _ _ _ _ _ _
   | exact regcertlaw10_awake.mono _
   | exact regcertref09_Same.mono _ _ _ _ _ _ _ _ _ _ _ _ _ _ _ _ _
   | exact regcertref10_Right.mono _ _ _ _ _ _ _
   | exact LeO.none _
   | refine LeO.ite ?_ ?_
   | refine LeO.bind ?_ (fun _ => ?_)
  ·intro y0 y1 y2 y3 y4 y5 y6 y7 y8 y9 y10 y11 y12 y13 y14 y15
   unfold regcertlaw10_ExecuteSteps.j2
   repeat' first
   | (with_reducible exact ih0 _ _ _ _ _ _ _)
   | (with_reducible exact ih1 _ _ _ _ _ _ _ _ _ _ _ _ _ _ _)
   | (with_reducible exact ih2 _ _ _ _ _ _ _ _ _ _ _ _ _ _ _ _)
   | (with_reducible exact execute_Exec.mono _ _ _ _ _ _ _)
   | (with_reducible exact regcertlaw10_awake.mono _)
   | (with_reducible exact regcertref09_Same.mono _ _ _ _ _ _ _ _ _ _ _ _ _ _ _ _ _)
   | (with_reducible exact regcertref10_Right.mono _ _ _ _ _ _ _)
   | (with_reducible exact LeO.refl _)
   | (with_reducible exact LeO.none _)
   | (with_reducible refine LeO.ite ?_ ?_)
   | (with_reducible refine LeO.bind ?_ (fun _ => ?_))
   | exact ih0 _ _ _ _ _ _ _
   | exact ih1 _ _ _ _ _ _ _ _ _ _ _ _ _ _ _
   | exact ih2 _ _ _ _ _ _ _ _ _ _ _ _ _ _ _ _
   | exact execute_Exec.mono _ _ _ _ _ _ _
   | exact regcertlaw10_awake.mono _
   | exact regcertref09_Same.mono _ _ _ _ _ _ _ _ _ _ _ _ _ _ _ _ _
   | exact regcertref10_Right.mono _ _ _ _ _ _ _
   | exact LeO.none _
   | refine LeO.ite ?_ ?_
   | refine LeO.bind ?_ (fun _ => ?_)
theorem regcertlaw10_ExecuteSteps.mono : ∀ a0 a1 a2 a3 a4 a5 k, LeO (regcertlaw10_ExecuteSteps.f k a0 a1 a2 a3 a4 a5) (regcertlaw10_ExecuteSteps.f (k + 1) a0 a1 a2 a3 a4 a5) := by
 intro a0 a1 a2 a3 a4 a5 k
 obtain ⟨ih0, ih1, ih2⟩ := regcertlaw10_ExecuteSteps.mono_l k
 unfold regcertlaw10_ExecuteSteps.f
 repeat' first
   | (with_reducible exact ih0 _ _ _ _ _ _ _)
   | (with_reducible exact ih1 _ _ _ _ _ _ _ _ _ _ _ _ _ _ _)
   | (with_reducible exact ih2 _ _ _ _ _ _ _ _ _ _ _ _ _ _ _ _)
   | (with_reducible exact execute_Exec.mono _ _ _ _ _ _ _)
   | (with_reducible exact regcertlaw10_awake.mono _)
   | (with_reducible exact regcertref09_Same.mono _ _ _ _ _ _ _ _ _ _ _ _ _ _ _ _ _)
   | (with_reducible exact regcertref10_Right.mono _ _ _ _ _ _ _)
   | (with_reducible exact LeO.refl _)
   | (with_reducible exact LeO.none _)
   | (with_reducible refine LeO.ite ?_ ?_)
   | (with_reducible refine LeO.bind ?_ (fun _ => ?_))
   | exact ih0 _ _ _ _ _ _ _
   | exact ih1 _ _ _ _ _ _ _ _ _ _ _ _ _ _ _
   | exact ih2 _ _ _ _ _ _ _ _ _ _ _ _ _ _ _ _
   | exact execute_Exec.mono _ _ _ _ _ _ _
   | exact regcertlaw10_awake.mono _
   | exact regcertref09_Same.mono _ _ _ _ _ _ _ _ _ _ _ _ _ _ _ _ _
   | exact regcertref10_Right.mono _ _ _ _ _ _ _
   | exact LeO.none _
   | refine LeO.ite ?_ ?_
   | refine LeO.bind ?_ (fun _ => ?_)
set_option maxHeartbeats 8000000 in
set_option maxRecDepth 100000 in
theorem regcertlaw10_ExecuteSteps.calls (k : Nat) (a0_0 : Int) (a0_1 : Int) (a0_2 : Int) (A0_3 : Option Addr) (c0_3 : Nat) (l0_3 : List (S69)) (A1 : Option Addr) (c1 : Nat) (l1 : List Int) (a2 : Int) (r : Bool) (w : World) (hr0_3 : Kd.C k69 w A0_3 l0_3.length l0_3) (hc0_3 : l0_3.length ≤ c0_3) (hr1 : Kd.C (Kd.int .i64) w A1 l1.length l1) (hc1 : l1.length ≤ c1) (h : regcertlaw10_ExecuteSteps.f k a0_0 a0_1 a0_2 l0_3 l1 a2 = some r) :
  Calls Try.prog 16 #[.agg #[.int .i64 a0_0, .int .i64 a0_1, .int .i64 a0_2, .slice A0_3 l0_3.length c0_3], .slice A1 l1.length c1, .int .u8 a2] w fun e w' => e = .returned (.bool r) ∧ Below w.heap.size w w' := by
 have hu63 := Try.underlying63
 have hu39 := Try.underlying39
 have HR0_3 := As0 hr0_3
 have HC0_3 := As0 hc0_3
 clear hr0_3 hc0_3
 have HR1 := As0 hr1
 have HC1 := As0 hc1
 clear hr1 hc1
 have HB := As0 (Below.refl w.heap.size w)
 have H : ((regcertlaw10_awake.f k).bind fun t221 => (if t221 = true then ((regcertref10_Right.f k a0_0 a0_1 a0_2 l0_3 l1 0).bind fun t222 => (if t222 = true then (regcertlaw10_ExecuteSteps.j0 k l1 a2 ((l1.length : Int) != a0_0) a0_0 a0_1 a0_2 l0_3) else (regcertlaw10_ExecuteSteps.j0 k l1 a2 true a0_0 a0_1 a0_2 l0_3))) else (regcertlaw10_ExecuteSteps.j0 k l1 a2 true a0_0 a0_1 a0_2 l0_3))) = some r := h
 clear h
 have HC4 := As0 H
 clear H
 go_enter Try.func16, Try.ntmps16
 go_upto_region 1 with (first | ((with_reducible refine gate_dst (N := 3) rfl ?_); (try (refine gate_guard (by rfl) ?_; dsimp only)); refine box_event ?hg (N := 3) ?hd (cs := #[.int .i64 a0_0, .int .i64 a0_1, .int .i64 a0_2, .slice A0_3 l0_3.length c0_3]) (t := 63) ?hr ?_; (case hd => rfl); (case hg => rfl); (case hr => first | (go_simp; done) | (go_simp; rfl)); intro gb220 hg w5 hbox hb; have n0_ := As0 (below_step (by repeat (first | (with_reducible first | exact HB.out | apply below_alloc | apply bdN | apply bd1) | exact HB.out)) hb); have n1_ := As0 (hbox); have n2_ := As0 ((by rw [hg]; exact (below_size (by repeat (first | (with_reducible first | exact HB.out | apply below_alloc | apply bdN | apply bd1) | exact HB.out))) : w.heap.size ≤ gb220)); have n3_ := As0 ((by rw [hg]; exact (below_size (by repeat (first | (with_reducible first | exact HB.out | apply below_alloc | apply bdN | apply bd1) | exact HB.out))) : w.heap.size ≤ gb220)); clear HB; have HB := n0_; have BK220 := n1_; have GW220 := n2_; have GE220 := n3_; clear n0_ n1_ n2_ n3_ hb hbox hg))
 (try simp only [Act.put, sL1, sL2, sL3])
 go_cut [27] (fun v27 wc => ∃ (kq : Nat) (x27_3 : Bool), v27 = .bool x27_3 ∧ Aside0 (regcertlaw10_ExecuteSteps.j0 kq l1 a2 x27_3 a0_0 a0_1 a0_2 l0_3 = some r) ∧ Aside0 (kq ≤ k) ∧ Aside0 (wc.heap[gb220]? = some (.cells #[.int .i64 a0_0, .int .i64 a0_1, .int .i64 a0_2, (.slice A0_3 l0_3.length c0_3)] 63 (0, 0))) ∧ Aside0 (Below w.heap.size w wc))
 case first =>
  have H := HC4.out
  clear HC4
  replace H := Option.bind_eq_some_iff.mp H
  obtain ⟨t221, A60, H⟩ := H
  replace H : (if t221 = true then ((regcertref10_Right.f k a0_0 a0_1 a0_2 l0_3 l1 0).bind fun t222 => (if t222 = true then (regcertlaw10_ExecuteSteps.j0 k l1 a2 ((l1.length : Int) != a0_0) a0_0 a0_1 a0_2 l0_3) else (regcertlaw10_ExecuteSteps.j0 k l1 a2 true a0_0 a0_1 a0_2 l0_3))) else (regcertlaw10_ExecuteSteps.j0 k l1 a2 true a0_0 a0_1 a0_2 l0_3)) = some r := H
  have A6 := As0 A60
  clear A60
  by_cases c7 : t221 = true
  ·subst c7
   have H1 : ((regcertref10_Right.f k a0_0 a0_1 a0_2 l0_3 l1 0).bind fun t222 => (if t222 = true then (regcertlaw10_ExecuteSteps.j0 k l1 a2 ((l1.length : Int) != a0_0) a0_0 a0_1 a0_2 l0_3) else (regcertlaw10_ExecuteSteps.j0 k l1 a2 true a0_0 a0_1 a0_2 l0_3))) = some r := by rw [if_pos rfl] at H; exact H
   clear H
   have H := H1
   clear H1
   replace H := Option.bind_eq_some_iff.mp H
   obtain ⟨t222, A80, H⟩ := H
   replace H : (if t222 = true then (regcertlaw10_ExecuteSteps.j0 k l1 a2 ((l1.length : Int) != a0_0) a0_0 a0_1 a0_2 l0_3) else (regcertlaw10_ExecuteSteps.j0 k l1 a2 true a0_0 a0_1 a0_2 l0_3)) = some r := H
   have A8 := As0 A80
   clear A80
   by_cases c9 : t222 = true
   ·subst c9
    have H1 : (regcertlaw10_ExecuteSteps.j0 k l1 a2 ((l1.length : Int) != a0_0) a0_0 a0_1 a0_2 l0_3) = some r := by rw [if_pos rfl] at H; exact H
    clear H
    have H := H1
    clear H1
    have H' := As0 H
    clear H
    go_wp2_with (first | ((with_reducible refine gate_callee (f := 44) rfl ?_); refine goesL_ (some 13) rfl rfl Try.func44 (by kernel_rfl) rfl #[] rfl (by (try simp only [List.map_toArray, List.map_cons, List.map_nil]); first | done | rfl | (simp only [List.length_drop, List.length_take]; rfl)) ?_; (with_reducible refine (regcertlaw10_awake.calls k  true _ A6.out).mono ?_); rintro e w10 ⟨rfl, hb⟩; refine ⟨_, rfl, ?_⟩; have n0_ := As0 (blk_below (g := gb220) (o := .cells #[.int .i64 a0_0, .int .i64 a0_1, .int .i64 a0_2, .slice A0_3 l0_3.length c0_3] 63 (0, 0)) (by (with_reducible repeat (first | refine blk_drewN ?_ _ | refine blk_drew ?_ | refine blk_alloc ?_ _)); exact BK220.out) hb); have n1_ := As0 (below_step (by repeat (first | (with_reducible first | exact HB.out | apply below_alloc | apply bdN | apply bd1 | refine below_set ?_ GE220.out) | exact HB.out)) hb); clear BK220 HB; have BK220 := n0_; have HB := n1_; clear n0_ n1_; (try clear hb); (try clear hb2); (try clear hk); (try clear hi); have hcz11_0 : w10.cell? ⟨gb220, 0, none⟩ = some (.int .i64 a0_0) := (blk_cell BK220.out 0).trans rfl; have hcz11_1 : w10.cell? ⟨gb220, 1, none⟩ = some (.int .i64 a0_1) := (blk_cell BK220.out 1).trans rfl; have hcz11_2 : w10.cell? ⟨gb220, 2, none⟩ = some (.int .i64 a0_2) := (blk_cell BK220.out 2).trans rfl; have hcz11_3 : w10.cell? ⟨gb220, 3, none⟩ = some (.slice A0_3 l0_3.length c0_3) := (blk_cell BK220.out 3).trans rfl; have hfz11_0 := blk_frozen BK220.out 0; have hfz11_1 := blk_frozen BK220.out 1; have hfz11_2 := blk_frozen BK220.out 2; have hfz11_3 := blk_frozen BK220.out 3) | (go_at_call 45; (with_reducible refine (regcertref10_Right.calls k a0_0 a0_1 a0_2 _ _ l0_3 _ _ l1 0 true _ ?side1 ?side2 ?side3 ?side4 A8.out).mono ?_); (case side1 => repeat (first | exact (Kd.C_below HR0_3.out HB.out) | (with_reducible refine Kd.C_alloc ?_ _) | (with_reducible refine Kd.C_drewN ?_ _) | (with_reducible refine Kd.C_drew ?_))); (case side2 => exact HC0_3.out); (case side3 => repeat (first | exact (Kd.C_below HR1.out HB.out) | (with_reducible refine Kd.C_alloc ?_ _) | (with_reducible refine Kd.C_drewN ?_ _) | (with_reducible refine Kd.C_drew ?_))); (case side4 => exact HC1.out); rintro e w12 ⟨rfl, hb⟩; have n0_ := As0 (blk_below (g := gb220) (o := .cells #[.int .i64 a0_0, .int .i64 a0_1, .int .i64 a0_2, .slice A0_3 l0_3.length c0_3] 63 (0, 0)) (by (with_reducible repeat (first | refine blk_drewN ?_ _ | refine blk_drew ?_ | refine blk_alloc ?_ _)); exact BK220.out) hb); have n1_ := As0 (below_step (by repeat (first | (with_reducible first | exact HB.out | apply below_alloc | apply bdN | apply bd1 | refine below_set ?_ GE220.out) | exact HB.out)) hb); clear BK220 HB; have BK220 := n0_; have HB := n1_; clear n0_ n1_; (try clear hb); (try clear hb2); (try clear hk); (try clear hi); have hcz13_0 : w12.cell? ⟨gb220, 0, none⟩ = some (.int .i64 a0_0) := (blk_cell BK220.out 0).trans rfl; have hcz13_1 : w12.cell? ⟨gb220, 1, none⟩ = some (.int .i64 a0_1) := (blk_cell BK220.out 1).trans rfl; have hcz13_2 : w12.cell? ⟨gb220, 2, none⟩ = some (.int .i64 a0_2) := (blk_cell BK220.out 2).trans rfl; have hcz13_3 : w12.cell? ⟨gb220, 3, none⟩ = some (.slice A0_3 l0_3.length c0_3) := (blk_cell BK220.out 3).trans rfl; have hfz13_0 := blk_frozen BK220.out 0; have hfz13_1 := blk_frozen BK220.out 1; have hfz13_2 := blk_frozen BK220.out 2; have hfz13_3 := blk_frozen BK220.out 3))
    go_meet
    case rel => exact ⟨_, (((l1.length : Int) != a0_0)), (by first | rfl | (simp; done) | (simp [*]; done)), H', ⟨by first | omega | exact Nat.le_refl _⟩, ⟨by (with_reducible repeat (first | refine blk_drewN ?_ _ | refine blk_drew ?_ | refine blk_alloc ?_ _)); exact BK220.out⟩, ⟨by repeat (first | (with_reducible first | exact HB.out | apply below_alloc | apply bdN | apply bd1 | refine below_set ?_ GE220.out) | exact HB.out)⟩⟩
   ·replace c9 := Bool.eq_false_iff.mpr c9
    subst c9
    have H1 : (regcertlaw10_ExecuteSteps.j0 k l1 a2 true a0_0 a0_1 a0_2 l0_3) = some r := by rw [if_neg (show ¬ (false = true) by decide)] at H; exact H
    clear H
    have H := H1
    clear H1
    have H' := As0 H
    clear H
    go_wp2_with (first | ((with_reducible refine gate_callee (f := 44) rfl ?_); refine goesL_ (some 13) rfl rfl Try.func44 (by kernel_rfl) rfl #[] rfl (by (try simp only [List.map_toArray, List.map_cons, List.map_nil]); first | done | rfl | (simp only [List.length_drop, List.length_take]; rfl)) ?_; (with_reducible refine (regcertlaw10_awake.calls k  true _ A6.out).mono ?_); rintro e w14 ⟨rfl, hb⟩; refine ⟨_, rfl, ?_⟩; have n0_ := As0 (blk_below (g := gb220) (o := .cells #[.int .i64 a0_0, .int .i64 a0_1, .int .i64 a0_2, .slice A0_3 l0_3.length c0_3] 63 (0, 0)) (by (with_reducible repeat (first | refine blk_drewN ?_ _ | refine blk_drew ?_ | refine blk_alloc ?_ _)); exact BK220.out) hb); have n1_ := As0 (below_step (by repeat (first | (with_reducible first | exact HB.out | apply below_alloc | apply bdN | apply bd1 | refine below_set ?_ GE220.out) | exact HB.out)) hb); clear BK220 HB; have BK220 := n0_; have HB := n1_; clear n0_ n1_; (try clear hb); (try clear hb2); (try clear hk); (try clear hi); have hcz15_0 : w14.cell? ⟨gb220, 0, none⟩ = some (.int .i64 a0_0) := (blk_cell BK220.out 0).trans rfl; have hcz15_1 : w14.cell? ⟨gb220, 1, none⟩ = some (.int .i64 a0_1) := (blk_cell BK220.out 1).trans rfl; have hcz15_2 : w14.cell? ⟨gb220, 2, none⟩ = some (.int .i64 a0_2) := (blk_cell BK220.out 2).trans rfl; have hcz15_3 : w14.cell? ⟨gb220, 3, none⟩ = some (.slice A0_3 l0_3.length c0_3) := (blk_cell BK220.out 3).trans rfl; have hfz15_0 := blk_frozen BK220.out 0; have hfz15_1 := blk_frozen BK220.out 1; have hfz15_2 := blk_frozen BK220.out 2; have hfz15_3 := blk_frozen BK220.out 3) | (go_at_call 45; (with_reducible refine (regcertref10_Right.calls k a0_0 a0_1 a0_2 _ _ l0_3 _ _ l1 0 false _ ?side1 ?side2 ?side3 ?side4 A8.out).mono ?_); (case side1 => repeat (first | exact (Kd.C_below HR0_3.out HB.out) | (with_reducible refine Kd.C_alloc ?_ _) | (with_reducible refine Kd.C_drewN ?_ _) | (with_reducible refine Kd.C_drew ?_))); (case side2 => exact HC0_3.out); (case side3 => repeat (first | exact (Kd.C_below HR1.out HB.out) | (with_reducible refine Kd.C_alloc ?_ _) | (with_reducible refine Kd.C_drewN ?_ _) | (with_reducible refine Kd.C_drew ?_))); (case side4 => exact HC1.out); rintro e w16 ⟨rfl, hb⟩; have n0_ := As0 (blk_below (g := gb220) (o := .cells #[.int .i64 a0_0, .int .i64 a0_1, .int .i64 a0_2, .slice A0_3 l0_3.length c0_3] 63 (0, 0)) (by (with_reducible repeat (first | refine blk_drewN ?_ _ | refine blk_drew ?_ | refine blk_alloc ?_ _)); exact BK220.out) hb); have n1_ := As0 (below_step (by repeat (first | (with_reducible first | exact HB.out | apply below_alloc | apply bdN | apply bd1 | refine below_set ?_ GE220.out) | exact HB.out)) hb); clear BK220 HB; have BK220 := n0_; have HB := n1_; clear n0_ n1_; (try clear hb); (try clear hb2); (try clear hk); (try clear hi)))
    go_meet
    case rel => exact ⟨_, (true), (by first | rfl | (simp; done) | (simp [*]; done)), H', ⟨by first | omega | exact Nat.le_refl _⟩, ⟨by (with_reducible repeat (first | refine blk_drewN ?_ _ | refine blk_drew ?_ | refine blk_alloc ?_ _)); exact BK220.out⟩, ⟨by repeat (first | (with_reducible first | exact HB.out | apply below_alloc | apply bdN | apply bd1 | refine below_set ?_ GE220.out) | exact HB.out)⟩⟩
  ·replace c7 := Bool.eq_false_iff.mpr c7
   subst c7
   have H1 : (regcertlaw10_ExecuteSteps.j0 k l1 a2 true a0_0 a0_1 a0_2 l0_3) = some r := by rw [if_neg (show ¬ (false = true) by decide)] at H; exact H
   clear H
   have H := H1
   clear H1
   have H' := As0 H
   clear H
   go_wp2_with (first | ((with_reducible refine gate_callee (f := 44) rfl ?_); refine goesL_ (some 13) rfl rfl Try.func44 (by kernel_rfl) rfl #[] rfl (by (try simp only [List.map_toArray, List.map_cons, List.map_nil]); first | done | rfl | (simp only [List.length_drop, List.length_take]; rfl)) ?_; (with_reducible refine (regcertlaw10_awake.calls k  false _ A6.out).mono ?_); rintro e w17 ⟨rfl, hb⟩; refine ⟨_, rfl, ?_⟩; have n0_ := As0 (blk_below (g := gb220) (o := .cells #[.int .i64 a0_0, .int .i64 a0_1, .int .i64 a0_2, .slice A0_3 l0_3.length c0_3] 63 (0, 0)) (by (with_reducible repeat (first | refine blk_drewN ?_ _ | refine blk_drew ?_ | refine blk_alloc ?_ _)); exact BK220.out) hb); have n1_ := As0 (below_step (by repeat (first | (with_reducible first | exact HB.out | apply below_alloc | apply bdN | apply bd1 | refine below_set ?_ GE220.out) | exact HB.out)) hb); clear BK220 HB; have BK220 := n0_; have HB := n1_; clear n0_ n1_; (try clear hb); (try clear hb2); (try clear hk); (try clear hi)))
   go_meet
   case rel => exact ⟨_, (true), (by first | rfl | (simp; done) | (simp [*]; done)), H', ⟨by first | omega | exact Nat.le_refl _⟩, ⟨by (with_reducible repeat (first | refine blk_drewN ?_ _ | refine blk_drew ?_ | refine blk_alloc ?_ _)); exact BK220.out⟩, ⟨by repeat (first | (with_reducible first | exact HB.out | apply below_alloc | apply bdN | apply bd1 | refine below_set ?_ GE220.out) | exact HB.out)⟩⟩
 case rest =>
  clear HC4
  try clear c1
  try clear p2
  try clear c4
  try clear c7
  try clear c9
  try clear c16
  try clear hcz11_0
  try clear hcz11_1
  try clear hcz11_2
  try clear hcz11_3
  try clear hcz13_0
  try clear hcz13_1
  try clear hcz13_2
  try clear hcz13_3
  try clear hcz15_0
  try clear hcz15_1
  try clear hcz15_2
  try clear hcz15_3
  try clear hfz11_0
  try clear hfz11_1
  try clear hfz11_2
  try clear hfz11_3
  try clear hfz13_0
  try clear hfz13_1
  try clear hfz13_2
  try clear hfz13_3
  try clear hfz15_0
  try clear hfz15_1
  try clear hfz15_2
  try clear hfz15_3
  obtain ⟨kq, x27_3, rfl, HA, HJ3, BK220, HB⟩ := hcut
  cases kq with
  | zero => exact absurd HA.out (by simp [regcertlaw10_ExecuteSteps.j0])
  | succ kj3 =>
   have H := HA.out
   clear HA
   simp only [regcertlaw10_ExecuteSteps.j0] at H
   by_cases c18 : x27_3 = true
   ·subst c18
    have H1 : ((regcertlaw10_awake.f kj3).bind fun t223 => (some t223)) = some r := by rw [if_pos rfl] at H; exact H
    clear H
    have H := H1
    clear H1
    replace H := Option.bind_eq_some_iff.mp H
    obtain ⟨t223, A190, H⟩ := H
    replace H : (some t223) = some r := H
    have A19 := As0 A190
    clear A190
    obtain rfl := Option.some.inj H
    go_wp2_with (first | ((with_reducible refine gate_callee (f := 44) rfl ?_); refine goesL_ (some 28) rfl rfl Try.func44 (by kernel_rfl) rfl #[] rfl (by (try simp only [List.map_toArray, List.map_cons, List.map_nil]); first | done | rfl | (simp only [List.length_drop, List.length_take]; rfl)) ?_; (with_reducible refine (regcertlaw10_awake.calls kj3  t223 _ A19.out).mono ?_); rintro e w20 ⟨rfl, hb⟩; refine ⟨_, rfl, ?_⟩; have n0_ := As0 (blk_below (g := gb220) (o := .cells #[.int .i64 a0_0, .int .i64 a0_1, .int .i64 a0_2, .slice A0_3 l0_3.length c0_3] 63 (0, 0)) (by (with_reducible repeat (first | refine blk_drewN ?_ _ | refine blk_drew ?_ | refine blk_alloc ?_ _)); exact BK220.out) hb); have n1_ := As0 (below_step (by repeat (first | (with_reducible first | exact HB.out | apply below_alloc | apply bdN | apply bd1 | refine below_set ?_ GE220.out) | exact HB.out)) hb); clear BK220 HB; have BK220 := n0_; have HB := n1_; clear n0_ n1_; (try clear hb); (try clear hb2); (try clear hk); (try clear hi)))
    go_ret
    exact ⟨by first | rfl | (simp [errW_none, errW_some] <;> rfl) | (simp [*, errW_none, errW_some] <;> rfl), by repeat (first | (with_reducible first | exact HB.out | apply below_alloc | apply bdN | apply bd1 | refine below_set ?_ GE220.out) | exact HB.out)⟩
   ·replace c18 := Bool.eq_false_iff.mpr c18
    subst c18
    have H1 : ((execute_Start.f a0_0 a0_1 a0_2 l0_3 l1).bind fun bt224 => (regcertlaw10_ExecuteSteps.l0 kj3 l1 (Int.tmod (wrap64 (a2)) 60) 0 a0_0 a0_1 a0_2 l0_3 bt224.1 bt224.2.1 bt224.2.2.1 bt224.2.2.2.1 bt224.2.2.2.2.1 bt224.2.2.2.2.2.1 bt224.2.2.2.2.2.2.1 bt224.2.2.2.2.2.2.2.1)) = some r := by rw [if_neg (show ¬ (false = true) by decide)] at H; exact H
    clear H
    have H := H1
    clear H1
    replace H := Option.bind_eq_some_iff.mp H
    obtain ⟨⟨t224, t225, t226, t227, t228, t231, t234, t237, t238⟩, A210, H⟩ := H
    replace H : (regcertlaw10_ExecuteSteps.l0 kj3 l1 (Int.tmod (wrap64 (a2)) 60) 0 a0_0 a0_1 a0_2 l0_3 t224 t225 t226 t227 t228 t231 t234 t237) = some r := H
    have A21 := As0 A210
    clear A210
    have H' := As0 H
    clear H
    have hcz22_0 : wc.cell? ⟨gb220, 0, none⟩ = some (.int .i64 a0_0) := (blk_cell BK220.out 0).trans rfl
    have hcz22_1 : wc.cell? ⟨gb220, 1, none⟩ = some (.int .i64 a0_1) := (blk_cell BK220.out 1).trans rfl
    have hcz22_2 : wc.cell? ⟨gb220, 2, none⟩ = some (.int .i64 a0_2) := (blk_cell BK220.out 2).trans rfl
    have hcz22_3 : wc.cell? ⟨gb220, 3, none⟩ = some (.slice A0_3 l0_3.length c0_3) := (blk_cell BK220.out 3).trans rfl
    have hfz22_0 := blk_frozen BK220.out 0
    have hfz22_1 := blk_frozen BK220.out 1
    have hfz22_2 := blk_frozen BK220.out 2
    have hfz22_3 := blk_frozen BK220.out 3
    go_wp2_with (first | ((with_reducible refine gate_callee (f := 50) rfl ?_); refine goesL_ (some 35) rfl rfl Try.func50 (by kernel_rfl) rfl #[.agg #[.int .i64 a0_0, .int .i64 a0_1, .int .i64 a0_2, .slice A0_3 l0_3.length c0_3], .slice A1 l1.length c1] rfl (by (try simp only [List.map_toArray, List.map_cons, List.map_nil]); first | done | rfl | (simp only [List.length_drop, List.length_take]; rfl)) ?_; (with_reducible refine (execute_Start.calls a0_0 a0_1 a0_2 _ _ l0_3 _ _ l1 t224 t225 t226 t227 t228 t231 t234 t237 t238 _ ?side1 ?side2 ?side3 ?side4 A21.out).mono ?_); (case side1 => repeat (first | exact (Kd.C_below HR0_3.out HB.out) | (with_reducible refine Kd.C_alloc ?_ _) | (with_reducible refine Kd.C_drewN ?_ _) | (with_reducible refine Kd.C_drew ?_))); (case side2 => exact HC0_3.out); (case side3 => repeat (first | exact (Kd.C_below HR1.out HB.out) | (with_reducible refine Kd.C_alloc ?_ _) | (with_reducible refine Kd.C_drewN ?_ _) | (with_reducible refine Kd.C_drew ?_))); (case side4 => exact HC1.out); rintro e w23 ⟨v229, v232, v235, rfl, ho0, ho1, ho2, hb⟩; refine ⟨_, rfl, ?_⟩; have n0_ := As0 (Kd.R_lower ho0 (below_size (by repeat (first | (with_reducible first | exact HB.out | apply below_alloc | apply bdN | apply bd1 | refine below_set ?_ GE220.out) | exact HB.out)))); have n1_ := As0 (Kd.R_lower ho1 (below_size (by repeat (first | (with_reducible first | exact HB.out | apply below_alloc | apply bdN | apply bd1 | refine below_set ?_ GE220.out) | exact HB.out)))); have n2_ := As0 (Kd.R_lower ho2 (below_size (by repeat (first | (with_reducible first | exact HB.out | apply below_alloc | apply bdN | apply bd1 | refine below_set ?_ GE220.out) | exact HB.out)))); have n3_ := As0 (blk_below (g := gb220) (o := .cells #[.int .i64 a0_0, .int .i64 a0_1, .int .i64 a0_2, .slice A0_3 l0_3.length c0_3] 63 (0, 0)) (by (with_reducible repeat (first | refine blk_drewN ?_ _ | refine blk_drew ?_ | refine blk_alloc ?_ _)); exact BK220.out) hb); have n4_ := As0 (below_step (by repeat (first | (with_reducible first | exact HB.out | apply below_alloc | apply bdN | apply bd1 | refine below_set ?_ GE220.out) | exact HB.out)) hb); clear BK220 HB; have HO230 := n0_; have HO233 := n1_; have HO236 := n2_; have BK220 := n3_; have HB := n4_; clear n0_ n1_ n2_ n3_ n4_; (try clear hb); (try clear hb2); (try clear hk); (try clear hi); (try clear ho0); (try clear ho1); (try clear ho2)) | ((with_reducible refine gate_dst (N := 8) rfl ?_); (try (refine gate_guard (by rfl) ?_; dsimp only)); refine box_event ?hg (N := 8) ?hd (cs := #[.int .i64 0, .int .i64 0, .int .i64 0, .int .i64 0, .slice none 0 0, .slice none 0 0, .slice none 0 0, .int .i64 0]) (t := 39) ?hr ?_; (case hd => rfl); (case hg => rfl); (case hr => first | (go_simp; done) | (go_simp; rfl)); intro gb239 hg w24 hbox hb; have n0_ := As0 (Kd.R_below (by (with_reducible repeat (first | apply Kd.R_alloc | apply Kd.R_drewN | apply Kd.R_drew)); exact HO230.out) hb); have n1_ := As0 (Kd.R_below (by (with_reducible repeat (first | apply Kd.R_alloc | apply Kd.R_drewN | apply Kd.R_drew)); exact HO233.out) hb); have n2_ := As0 (Kd.R_below (by (with_reducible repeat (first | apply Kd.R_alloc | apply Kd.R_drewN | apply Kd.R_drew)); exact HO236.out) hb); have n3_ := As0 (blk_below (g := gb220) (o := .cells #[.int .i64 a0_0, .int .i64 a0_1, .int .i64 a0_2, .slice A0_3 l0_3.length c0_3] 63 (0, 0)) (by (with_reducible repeat (first | refine blk_drewN ?_ _ | refine blk_drew ?_ | refine blk_alloc ?_ _)); exact BK220.out) hb); have n4_ := As0 (below_step (by repeat (first | (with_reducible first | exact HB.out | apply below_alloc | apply bdN | apply bd1 | refine below_set ?_ GE220.out) | exact HB.out)) hb); have n5_ := As0 (hbox); have n6_ := As0 ((by rw [hg]; exact (below_size (by repeat (first | (with_reducible first | exact HB.out | apply below_alloc | apply bdN | apply bd1 | refine below_set ?_ GE220.out) | exact HB.out))) : w.heap.size ≤ gb239)); have n7_ := As0 ((by rw [hg]; exact (below_size (by repeat (first | (with_reducible first | exact HB.out | apply below_alloc | apply bdN | apply bd1 | refine below_set ?_ GE220.out) | exact HB.out))) : w.heap.size ≤ gb239)); have n8_ := As0 ((by rw [hg]; exact Nat.ne_of_lt (blk_lt (g := gb220) (o := .cells #[.int .i64 a0_0, .int .i64 a0_1, .int .i64 a0_2, .slice A0_3 l0_3.length c0_3] 63 (0, 0)) (by (with_reducible repeat (first | refine blk_drewN ?_ _ | refine blk_drew ?_ | refine blk_alloc ?_ _)); exact BK220.out)) : gb220 ≠ gb239)); have n9_ := As0 ((by rw [hg]; exact Nat.ne_of_gt (blk_lt (g := gb220) (o := .cells #[.int .i64 a0_0, .int .i64 a0_1, .int .i64 a0_2, .slice A0_3 l0_3.length c0_3] 63 (0, 0)) (by (with_reducible repeat (first | refine blk_drewN ?_ _ | refine blk_drew ?_ | refine blk_alloc ?_ _)); exact BK220.out)) : gb239 ≠ gb220)); clear HO230 HO233 HO236 BK220 HB; have HO230 := n0_; have HO233 := n1_; have HO236 := n2_; have BK220 := n3_; have HB := n4_; have BK239 := n5_; have GW239 := n6_; have GE239 := n7_; have NB220_239 := n8_; have NB239_220 := n9_; clear n0_ n1_ n2_ n3_ n4_ n5_ n6_ n7_ n8_ n9_ hb hbox hg; have hnb25 := NB239_220.out; have hnc25 := NB220_239.out; have hcz26_0 : w24.cell? ⟨gb239, 0, none⟩ = some (.int .i64 0) := (blk_cell BK239.out 0).trans rfl; have hcz26_1 : w24.cell? ⟨gb239, 1, none⟩ = some (.int .i64 0) := (blk_cell BK239.out 1).trans rfl; have hcz26_2 : w24.cell? ⟨gb239, 2, none⟩ = some (.int .i64 0) := (blk_cell BK239.out 2).trans rfl; have hcz26_3 : w24.cell? ⟨gb239, 3, none⟩ = some (.int .i64 0) := (blk_cell BK239.out 3).trans rfl; have hcz26_4 : w24.cell? ⟨gb239, 4, none⟩ = some (.slice none 0 0) := (blk_cell BK239.out 4).trans rfl; have hcz26_5 : w24.cell? ⟨gb239, 5, none⟩ = some (.slice none 0 0) := (blk_cell BK239.out 5).trans rfl; have hcz26_6 : w24.cell? ⟨gb239, 6, none⟩ = some (.slice none 0 0) := (blk_cell BK239.out 6).trans rfl; have hcz26_7 : w24.cell? ⟨gb239, 7, none⟩ = some (.int .i64 0) := (blk_cell BK239.out 7).trans rfl; have hfz26_0 := blk_frozen BK239.out 0; have hfz26_1 := blk_frozen BK239.out 1; have hfz26_2 := blk_frozen BK239.out 2; have hfz26_3 := blk_frozen BK239.out 3; have hfz26_4 := blk_frozen BK239.out 4; have hfz26_5 := blk_frozen BK239.out 5; have hfz26_6 := blk_frozen BK239.out 6; have hfz26_7 := blk_frozen BK239.out 7; obtain ⟨Ao27, co27, eo27⟩ := Kd.R_slice HO230.out; subst eo27; obtain ⟨Ao28, co28, eo28⟩ := Kd.R_slice HO233.out; subst eo28; obtain ⟨Ao29, co29, eo29⟩ := Kd.R_slice HO236.out; subst eo29))
    go_loopg [10] kj3 (fun kq v10 w' => ∃ (x10_2 : Int) (x240000_2 : Int) (x240001_2 : Int) (x240002_2 : Int) (x240003_2 : Int) (x240004_2 : List Int) (x240005_2 : List Int) (x240006_2 : List Int) (x240007_2 : Int) (u240004 : Value) (u240005 : Value) (u240006 : Value), v10 = .int .i64 x10_2 ∧ Aside0 (regcertlaw10_ExecuteSteps.l0 kq l1 (Int.tmod (wrap64 (a2)) 60) x10_2 a0_0 a0_1 a0_2 l0_3 x240000_2 x240001_2 x240002_2 x240003_2 x240004_2 x240005_2 x240006_2 x240007_2 = some r) ∧ Aside0 (kq ≤ kj3) ∧ Aside0 (Kd.R (Kd.int .i64) 2 w' w.heap.size (fun k_ => some k_ ≠ (u240005 : Value).ownBlock ∧ some k_ ≠ (u240006 : Value).ownBlock) u240004 x240004_2) ∧ Aside0 (Kd.R (Kd.int .i64) 2 w' w.heap.size (fun k_ => some k_ ≠ (u240004 : Value).ownBlock ∧ some k_ ≠ (u240006 : Value).ownBlock) u240005 x240005_2) ∧ Aside0 (Kd.R (Kd.int .i64) 2 w' w.heap.size (fun k_ => some k_ ≠ (u240004 : Value).ownBlock ∧ some k_ ≠ (u240005 : Value).ownBlock) u240006 x240006_2) ∧ Aside0 (w'.heap[gb220]? = some (.cells #[.int .i64 a0_0, .int .i64 a0_1, .int .i64 a0_2, (.slice A0_3 l0_3.length c0_3)] 63 (0, 0))) ∧ Aside0 (w'.heap[gb239]? = some (.cells #[.int .i64 x240000_2, .int .i64 x240001_2, .int .i64 x240002_2, .int .i64 x240003_2, u240004, u240005, u240006, .int .i64 x240007_2] 39 (0, 0))) ∧ Aside0 (Below w.heap.size w w'))
    case atStart => exact ⟨(0), (t224), (t225), (t226), (t227), (t228), (t231), (t234), (t237), (.slice Ao27 t228.length co27), (.slice Ao28 t231.length co28), (.slice Ao29 t234.length co29), (by first | rfl | (simp; done) | (simp [*]; done)), H', ⟨Nat.le_refl _⟩, ⟨by (with_reducible repeat (first | apply Kd.R_alloc | apply Kd.R_drewN | apply Kd.R_drew)); exact Kd.R_mono (RF gb239 7 (RF gb239 6 (RF gb239 5 (RF gb239 4 (RF gb239 3 (RF gb239 2 (RF gb239 1 (RF gb239 0 (Kd.R_types HO230.out BK239.out (by decide)) (.int .i64 t224)) (.int .i64 t225)) (.int .i64 t226)) (.int .i64 t227)) (.slice Ao27 t228.length co27)) (.slice Ao28 t231.length co28)) (.slice Ao29 t234.length co29)) (.int .i64 t237)) (fun _ hk => ⟨hk.1.1, hk.1.2⟩)⟩, ⟨by (with_reducible repeat (first | apply Kd.R_alloc | apply Kd.R_drewN | apply Kd.R_drew)); exact Kd.R_mono (RF gb239 7 (RF gb239 6 (RF gb239 5 (RF gb239 4 (RF gb239 3 (RF gb239 2 (RF gb239 1 (RF gb239 0 (Kd.R_types HO233.out BK239.out (by decide)) (.int .i64 t224)) (.int .i64 t225)) (.int .i64 t226)) (.int .i64 t227)) (.slice Ao27 t228.length co27)) (.slice Ao28 t231.length co28)) (.slice Ao29 t234.length co29)) (.int .i64 t237)) (fun _ hk => ⟨hk.1.1, hk.1.2⟩)⟩, ⟨by (with_reducible repeat (first | apply Kd.R_alloc | apply Kd.R_drewN | apply Kd.R_drew)); exact Kd.R_mono (RF gb239 7 (RF gb239 6 (RF gb239 5 (RF gb239 4 (RF gb239 3 (RF gb239 2 (RF gb239 1 (RF gb239 0 (Kd.R_types HO236.out BK239.out (by decide)) (.int .i64 t224)) (.int .i64 t225)) (.int .i64 t226)) (.int .i64 t227)) (.slice Ao27 t228.length co27)) (.slice Ao28 t231.length co28)) (.slice Ao29 t234.length co29)) (.int .i64 t237)) (fun _ hk => ⟨hk.1.1, hk.1.2⟩)⟩, ⟨by (with_reducible repeat (first | refine blk_drewN ?_ _ | refine blk_drew ?_ | refine blk_alloc ?_ _)); refine blk_far ?_ NB220_239.out _; (with_reducible repeat (first | refine blk_drewN ?_ _ | refine blk_drew ?_ | refine blk_alloc ?_ _)); refine blk_far ?_ NB220_239.out _; (with_reducible repeat (first | refine blk_drewN ?_ _ | refine blk_drew ?_ | refine blk_alloc ?_ _)); refine blk_far ?_ NB220_239.out _; (with_reducible repeat (first | refine blk_drewN ?_ _ | refine blk_drew ?_ | refine blk_alloc ?_ _)); refine blk_far ?_ NB220_239.out _; (with_reducible repeat (first | refine blk_drewN ?_ _ | refine blk_drew ?_ | refine blk_alloc ?_ _)); refine blk_far ?_ NB220_239.out _; (with_reducible repeat (first | refine blk_drewN ?_ _ | refine blk_drew ?_ | refine blk_alloc ?_ _)); refine blk_far ?_ NB220_239.out _; (with_reducible repeat (first | refine blk_drewN ?_ _ | refine blk_drew ?_ | refine blk_alloc ?_ _)); refine blk_far ?_ NB220_239.out _; (with_reducible repeat (first | refine blk_drewN ?_ _ | refine blk_drew ?_ | refine blk_alloc ?_ _)); refine blk_far ?_ NB220_239.out _; (with_reducible repeat (first | refine blk_drewN ?_ _ | refine blk_drew ?_ | refine blk_alloc ?_ _)); exact BK220.out⟩, ⟨by (with_reducible repeat (first | refine blk_drewN ?_ _ | refine blk_drew ?_ | refine blk_alloc ?_ _)); refine blk_put (cs := #[.int .i64 t224, .int .i64 t225, .int .i64 t226, .int .i64 t227, .slice Ao27 t228.length co27, .slice Ao28 t231.length co28, .slice Ao29 t234.length co29, .int .i64 0]) ?_ 7 _ rfl; (with_reducible repeat (first | refine blk_drewN ?_ _ | refine blk_drew ?_ | refine blk_alloc ?_ _)); refine blk_put (cs := #[.int .i64 t224, .int .i64 t225, .int .i64 t226, .int .i64 t227, .slice Ao27 t228.length co27, .slice Ao28 t231.length co28, .slice none 0 0, .int .i64 0]) ?_ 6 _ rfl; (with_reducible repeat (first | refine blk_drewN ?_ _ | refine blk_drew ?_ | refine blk_alloc ?_ _)); refine blk_put (cs := #[.int .i64 t224, .int .i64 t225, .int .i64 t226, .int .i64 t227, .slice Ao27 t228.length co27, .slice none 0 0, .slice none 0 0, .int .i64 0]) ?_ 5 _ rfl; (with_reducible repeat (first | refine blk_drewN ?_ _ | refine blk_drew ?_ | refine blk_alloc ?_ _)); refine blk_put (cs := #[.int .i64 t224, .int .i64 t225, .int .i64 t226, .int .i64 t227, .slice none 0 0, .slice none 0 0, .slice none 0 0, .int .i64 0]) ?_ 4 _ rfl; (with_reducible repeat (first | refine blk_drewN ?_ _ | refine blk_drew ?_ | refine blk_alloc ?_ _)); refine blk_put (cs := #[.int .i64 t224, .int .i64 t225, .int .i64 t226, .int .i64 0, .slice none 0 0, .slice none 0 0, .slice none 0 0, .int .i64 0]) ?_ 3 _ rfl; (with_reducible repeat (first | refine blk_drewN ?_ _ | refine blk_drew ?_ | refine blk_alloc ?_ _)); refine blk_put (cs := #[.int .i64 t224, .int .i64 t225, .int .i64 0, .int .i64 0, .slice none 0 0, .slice none 0 0, .slice none 0 0, .int .i64 0]) ?_ 2 _ rfl; (with_reducible repeat (first | refine blk_drewN ?_ _ | refine blk_drew ?_ | refine blk_alloc ?_ _)); refine blk_put (cs := #[.int .i64 t224, .int .i64 0, .int .i64 0, .int .i64 0, .slice none 0 0, .slice none 0 0, .slice none 0 0, .int .i64 0]) ?_ 1 _ rfl; (with_reducible repeat (first | refine blk_drewN ?_ _ | refine blk_drew ?_ | refine blk_alloc ?_ _)); refine blk_put (cs := #[.int .i64 0, .int .i64 0, .int .i64 0, .int .i64 0, .slice none 0 0, .slice none 0 0, .slice none 0 0, .int .i64 0]) ?_ 0 _ rfl; (with_reducible repeat (first | refine blk_drewN ?_ _ | refine blk_drew ?_ | refine blk_alloc ?_ _)); exact BK239.out⟩, ⟨by repeat (first | (with_reducible first | exact HB.out | apply below_alloc | apply bdN | apply bd1 | refine below_set ?_ GE220.out | refine below_set ?_ GE239.out) | exact HB.out)⟩⟩
    case round =>
     clear H'
     try clear c1
     try clear c2
     try clear p2
     try clear c4
     try clear c5
     try clear p6
     try clear c7
     try clear c9
     try clear c16
     try clear c18
     try clear c25
     try clear hcz11_0
     try clear hcz11_1
     try clear hcz11_2
     try clear hcz11_3
     try clear hcz13_0
     try clear hcz13_1
     try clear hcz13_2
     try clear hcz13_3
     try clear hcz15_0
     try clear hcz15_1
     try clear hcz15_2
     try clear hcz15_3
     try clear hcz22_0
     try clear hcz22_1
     try clear hcz22_2
     try clear hcz22_3
     try clear hcz26_0
     try clear hcz26_1
     try clear hcz26_2
     try clear hcz26_3
     try clear hcz26_4
     try clear hcz26_5
     try clear hcz26_6
     try clear hcz26_7
     try clear hfz11_0
     try clear hfz11_1
     try clear hfz11_2
     try clear hfz11_3
     try clear hfz13_0
     try clear hfz13_1
     try clear hfz13_2
     try clear hfz13_3
     try clear hfz15_0
     try clear hfz15_1
     try clear hfz15_2
     try clear hfz15_3
     try clear hfz22_0
     try clear hfz22_1
     try clear hfz22_2
     try clear hfz22_3
     try clear hfz26_0
     try clear hfz26_1
     try clear hfz26_2
     try clear hfz26_3
     try clear hfz26_4
     try clear hfz26_5
     try clear hfz26_6
     try clear hfz26_7
     try clear p2
     obtain ⟨x10_2, x240000_2, x240001_2, x240002_2, x240003_2, x240004_2, x240005_2, x240006_2, x240007_2, u240004, u240005, u240006, rfl, HA, HK2, HO_240004, HO_240005, HO_240006, BK220, BK239, HB⟩ := hrel
     cases gk with
     | zero => exact absurd HA.out (by simp [regcertlaw10_ExecuteSteps.l0])
     | succ k2 =>
      have H := HA.out
      clear HA
      simp only [regcertlaw10_ExecuteSteps.l0] at H
      by_cases c30 : x10_2 < (Int.tmod (wrap64 (a2)) 60)
      ·rw [if_pos c30] at H
       have c30b0 : decide (x10_2 < (Int.tmod (wrap64 (a2)) 60)) = true := decide_eq_true c30
       clear c30
       have HC31 := As0 H
       clear H
       go_upto_region 8 with (fail)
       go_cut [69] (fun v69 wc => ∃ (kq : Nat) (x69_30 : Bool), v69 = .bool x69_30 ∧ Aside0 (regcertlaw10_ExecuteSteps.j2 kq l1 (Int.tmod (wrap64 (a2)) 60) x10_2 x69_30 a0_0 a0_1 a0_2 l0_3 x240000_2 x240001_2 x240002_2 x240003_2 x240004_2 x240005_2 x240006_2 x240007_2 = some r) ∧ Aside0 (kq ≤ k2) ∧ Aside0 (Kd.R (Kd.int .i64) 2 wc w.heap.size (fun k_ => some k_ ≠ (u240005 : Value).ownBlock ∧ some k_ ≠ (u240006 : Value).ownBlock) u240004 x240004_2) ∧ Aside0 (Kd.R (Kd.int .i64) 2 wc w.heap.size (fun k_ => some k_ ≠ (u240004 : Value).ownBlock ∧ some k_ ≠ (u240006 : Value).ownBlock) u240005 x240005_2) ∧ Aside0 (Kd.R (Kd.int .i64) 2 wc w.heap.size (fun k_ => some k_ ≠ (u240004 : Value).ownBlock ∧ some k_ ≠ (u240005 : Value).ownBlock) u240006 x240006_2) ∧ Aside0 (wc.heap[gb220]? = some (.cells #[.int .i64 a0_0, .int .i64 a0_1, .int .i64 a0_2, (.slice A0_3 l0_3.length c0_3)] 63 (0, 0))) ∧ Aside0 (wc.heap[gb239]? = some (.cells #[.int .i64 x240000_2, .int .i64 x240001_2, .int .i64 x240002_2, .int .i64 x240003_2, u240004, u240005, u240006, .int .i64 x240007_2] 39 (0, 0))) ∧ Aside0 (Below w.heap.size w wc))
       case first =>
        have H := HC31.out
        clear HC31
        by_cases c32 : (x240004_2.length : Int) = a0_1
        ·rw [if_pos c32] at H
         have c32b0 : ((x240004_2.length : Int) == a0_1) = true := beq_iff_eq.mpr c32
         have c32b1 : ((x240004_2.length : Int) != a0_1) = false := bne_eq_false_iff_eq.mpr c32
         clear c32
         (first | rw [c32b0] | (simp only [i64_w, i32_w]; rw [c32b0]) | skip)
         by_cases c33 : (x240005_2.length : Int) = a0_2
         ·rw [if_pos c33] at H
          have c33b0 : ((x240005_2.length : Int) == a0_2) = true := beq_iff_eq.mpr c33
          have c33b1 : ((x240005_2.length : Int) != a0_2) = false := bne_eq_false_iff_eq.mpr c33
          clear c33
          by_cases c34 : x240001_2 < 0
          ·rw [if_pos c34] at H
           have c34b0 : decide (x240001_2 < 0) = true := decide_eq_true c34
           clear c34
           have H' := As0 H
           clear H
           have hnb35 := NB239_220.out
           have hnc35 := NB220_239.out
           have hcz36_0 : wr.cell? ⟨gb239, 0, none⟩ = some (.int .i64 x240000_2) := (blk_cell BK239.out 0).trans rfl
           have hcz36_1 : wr.cell? ⟨gb239, 1, none⟩ = some (.int .i64 x240001_2) := (blk_cell BK239.out 1).trans rfl
           have hcz36_2 : wr.cell? ⟨gb239, 2, none⟩ = some (.int .i64 x240002_2) := (blk_cell BK239.out 2).trans rfl
           have hcz36_3 : wr.cell? ⟨gb239, 3, none⟩ = some (.int .i64 x240003_2) := (blk_cell BK239.out 3).trans rfl
           have hcz36_4 : wr.cell? ⟨gb239, 4, none⟩ = some (u240004) := (blk_cell BK239.out 4).trans rfl
           have hcz36_5 : wr.cell? ⟨gb239, 5, none⟩ = some (u240005) := (blk_cell BK239.out 5).trans rfl
           have hcz36_6 : wr.cell? ⟨gb239, 6, none⟩ = some (u240006) := (blk_cell BK239.out 6).trans rfl
           have hcz36_7 : wr.cell? ⟨gb239, 7, none⟩ = some (.int .i64 x240007_2) := (blk_cell BK239.out 7).trans rfl
           have hfz36_0 := blk_frozen BK239.out 0
           have hfz36_1 := blk_frozen BK239.out 1
           have hfz36_2 := blk_frozen BK239.out 2
           have hfz36_3 := blk_frozen BK239.out 3
           have hfz36_4 := blk_frozen BK239.out 4
           have hfz36_5 := blk_frozen BK239.out 5
           have hfz36_6 := blk_frozen BK239.out 6
           have hfz36_7 := blk_frozen BK239.out 7
           obtain ⟨Ao37, co37, eo37⟩ := Kd.R_slice HO_240004.out
           subst eo37
           have hcz38_0 : wr.cell? ⟨gb220, 0, none⟩ = some (.int .i64 a0_0) := (blk_cell BK220.out 0).trans rfl
           have hcz38_1 : wr.cell? ⟨gb220, 1, none⟩ = some (.int .i64 a0_1) := (blk_cell BK220.out 1).trans rfl
           have hcz38_2 : wr.cell? ⟨gb220, 2, none⟩ = some (.int .i64 a0_2) := (blk_cell BK220.out 2).trans rfl
           have hcz38_3 : wr.cell? ⟨gb220, 3, none⟩ = some (.slice A0_3 l0_3.length c0_3) := (blk_cell BK220.out 3).trans rfl
           have hfz38_0 := blk_frozen BK220.out 0
           have hfz38_1 := blk_frozen BK220.out 1
           have hfz38_2 := blk_frozen BK220.out 2
           have hfz38_3 := blk_frozen BK220.out 3
           obtain ⟨Ao39, co39, eo39⟩ := Kd.R_slice HO_240005.out
           subst eo39
           go_wp2
           go_meet
           case rel => exact ⟨_, (true), (by first | rfl | (simp; done) | (simp [*]; done)), H', ⟨by have := HJ3.out; have := HK2.out; first | omega | exact Nat.le_refl _⟩, ⟨by (with_reducible repeat (first | apply Kd.R_alloc | apply Kd.R_drewN | apply Kd.R_drew)); exact HO_240004.out⟩, ⟨by (with_reducible repeat (first | apply Kd.R_alloc | apply Kd.R_drewN | apply Kd.R_drew)); exact HO_240005.out⟩, ⟨by (with_reducible repeat (first | apply Kd.R_alloc | apply Kd.R_drewN | apply Kd.R_drew)); exact HO_240006.out⟩, ⟨by (with_reducible repeat (first | refine blk_drewN ?_ _ | refine blk_drew ?_ | refine blk_alloc ?_ _)); exact BK220.out⟩, ⟨by (with_reducible repeat (first | refine blk_drewN ?_ _ | refine blk_drew ?_ | refine blk_alloc ?_ _)); exact BK239.out⟩, ⟨by repeat (first | (with_reducible first | exact HB.out | apply below_alloc | apply bdN | apply bd1 | refine below_set ?_ GE220.out | refine below_set ?_ GE239.out) | exact HB.out)⟩⟩
          ·rw [if_neg c34] at H
           have c34b0 : decide (x240001_2 < 0) = false := decide_eq_false c34
           clear c34
           have H' := As0 H
           clear H
           have hnb40 := NB239_220.out
           have hnc40 := NB220_239.out
           have hcz41_0 : wr.cell? ⟨gb239, 0, none⟩ = some (.int .i64 x240000_2) := (blk_cell BK239.out 0).trans rfl
           have hcz41_1 : wr.cell? ⟨gb239, 1, none⟩ = some (.int .i64 x240001_2) := (blk_cell BK239.out 1).trans rfl
           have hcz41_2 : wr.cell? ⟨gb239, 2, none⟩ = some (.int .i64 x240002_2) := (blk_cell BK239.out 2).trans rfl
           have hcz41_3 : wr.cell? ⟨gb239, 3, none⟩ = some (.int .i64 x240003_2) := (blk_cell BK239.out 3).trans rfl
           have hcz41_4 : wr.cell? ⟨gb239, 4, none⟩ = some (u240004) := (blk_cell BK239.out 4).trans rfl
           have hcz41_5 : wr.cell? ⟨gb239, 5, none⟩ = some (u240005) := (blk_cell BK239.out 5).trans rfl
           have hcz41_6 : wr.cell? ⟨gb239, 6, none⟩ = some (u240006) := (blk_cell BK239.out 6).trans rfl
           have hcz41_7 : wr.cell? ⟨gb239, 7, none⟩ = some (.int .i64 x240007_2) := (blk_cell BK239.out 7).trans rfl
           have hfz41_0 := blk_frozen BK239.out 0
           have hfz41_1 := blk_frozen BK239.out 1
           have hfz41_2 := blk_frozen BK239.out 2
           have hfz41_3 := blk_frozen BK239.out 3
           have hfz41_4 := blk_frozen BK239.out 4
           have hfz41_5 := blk_frozen BK239.out 5
           have hfz41_6 := blk_frozen BK239.out 6
           have hfz41_7 := blk_frozen BK239.out 7
           obtain ⟨Ao42, co42, eo42⟩ := Kd.R_slice HO_240004.out
           subst eo42
           have hcz43_0 : wr.cell? ⟨gb220, 0, none⟩ = some (.int .i64 a0_0) := (blk_cell BK220.out 0).trans rfl
           have hcz43_1 : wr.cell? ⟨gb220, 1, none⟩ = some (.int .i64 a0_1) := (blk_cell BK220.out 1).trans rfl
           have hcz43_2 : wr.cell? ⟨gb220, 2, none⟩ = some (.int .i64 a0_2) := (blk_cell BK220.out 2).trans rfl
           have hcz43_3 : wr.cell? ⟨gb220, 3, none⟩ = some (.slice A0_3 l0_3.length c0_3) := (blk_cell BK220.out 3).trans rfl
           have hfz43_0 := blk_frozen BK220.out 0
           have hfz43_1 := blk_frozen BK220.out 1
           have hfz43_2 := blk_frozen BK220.out 2
           have hfz43_3 := blk_frozen BK220.out 3
           obtain ⟨Ao44, co44, eo44⟩ := Kd.R_slice HO_240005.out
           subst eo44
           go_wp2
           go_meet
           case rel => exact ⟨_, (decide (x240001_2 ≥ (l0_3.length : Int))), (by first | rfl | (simp; done) | (simp [*]; done)), H', ⟨by have := HJ3.out; have := HK2.out; first | omega | exact Nat.le_refl _⟩, ⟨by (with_reducible repeat (first | apply Kd.R_alloc | apply Kd.R_drewN | apply Kd.R_drew)); exact HO_240004.out⟩, ⟨by (with_reducible repeat (first | apply Kd.R_alloc | apply Kd.R_drewN | apply Kd.R_drew)); exact HO_240005.out⟩, ⟨by (with_reducible repeat (first | apply Kd.R_alloc | apply Kd.R_drewN | apply Kd.R_drew)); exact HO_240006.out⟩, ⟨by (with_reducible repeat (first | refine blk_drewN ?_ _ | refine blk_drew ?_ | refine blk_alloc ?_ _)); exact BK220.out⟩, ⟨by (with_reducible repeat (first | refine blk_drewN ?_ _ | refine blk_drew ?_ | refine blk_alloc ?_ _)); exact BK239.out⟩, ⟨by repeat (first | (with_reducible first | exact HB.out | apply below_alloc | apply bdN | apply bd1 | refine below_set ?_ GE220.out | refine below_set ?_ GE239.out) | exact HB.out)⟩⟩
         ·rw [if_neg c33] at H
          have c33b0 : ((x240005_2.length : Int) == a0_2) = false := beq_eq_false_iff_ne.mpr c33
          have c33b1 : ((x240005_2.length : Int) != a0_2) = true := bne_iff_ne.mpr c33
          have H' := As0 H
          clear H
          have hnb45 := NB239_220.out
          have hnc45 := NB220_239.out
          have hcz46_0 : wr.cell? ⟨gb239, 0, none⟩ = some (.int .i64 x240000_2) := (blk_cell BK239.out 0).trans rfl
          have hcz46_1 : wr.cell? ⟨gb239, 1, none⟩ = some (.int .i64 x240001_2) := (blk_cell BK239.out 1).trans rfl
          have hcz46_2 : wr.cell? ⟨gb239, 2, none⟩ = some (.int .i64 x240002_2) := (blk_cell BK239.out 2).trans rfl
          have hcz46_3 : wr.cell? ⟨gb239, 3, none⟩ = some (.int .i64 x240003_2) := (blk_cell BK239.out 3).trans rfl
          have hcz46_4 : wr.cell? ⟨gb239, 4, none⟩ = some (u240004) := (blk_cell BK239.out 4).trans rfl
          have hcz46_5 : wr.cell? ⟨gb239, 5, none⟩ = some (u240005) := (blk_cell BK239.out 5).trans rfl
          have hcz46_6 : wr.cell? ⟨gb239, 6, none⟩ = some (u240006) := (blk_cell BK239.out 6).trans rfl
          have hcz46_7 : wr.cell? ⟨gb239, 7, none⟩ = some (.int .i64 x240007_2) := (blk_cell BK239.out 7).trans rfl
          have hfz46_0 := blk_frozen BK239.out 0
          have hfz46_1 := blk_frozen BK239.out 1
          have hfz46_2 := blk_frozen BK239.out 2
          have hfz46_3 := blk_frozen BK239.out 3
          have hfz46_4 := blk_frozen BK239.out 4
          have hfz46_5 := blk_frozen BK239.out 5
          have hfz46_6 := blk_frozen BK239.out 6
          have hfz46_7 := blk_frozen BK239.out 7
          obtain ⟨Ao47, co47, eo47⟩ := Kd.R_slice HO_240004.out
          subst eo47
          have hcz48_0 : wr.cell? ⟨gb220, 0, none⟩ = some (.int .i64 a0_0) := (blk_cell BK220.out 0).trans rfl
          have hcz48_1 : wr.cell? ⟨gb220, 1, none⟩ = some (.int .i64 a0_1) := (blk_cell BK220.out 1).trans rfl
          have hcz48_2 : wr.cell? ⟨gb220, 2, none⟩ = some (.int .i64 a0_2) := (blk_cell BK220.out 2).trans rfl
          have hcz48_3 : wr.cell? ⟨gb220, 3, none⟩ = some (.slice A0_3 l0_3.length c0_3) := (blk_cell BK220.out 3).trans rfl
          have hfz48_0 := blk_frozen BK220.out 0
          have hfz48_1 := blk_frozen BK220.out 1
          have hfz48_2 := blk_frozen BK220.out 2
          have hfz48_3 := blk_frozen BK220.out 3
          obtain ⟨Ao49, co49, eo49⟩ := Kd.R_slice HO_240005.out
          subst eo49
          go_wp2
          go_meet
          case rel => exact ⟨_, (true), (by first | rfl | (simp; done) | (simp [*]; done)), H', ⟨by have := HJ3.out; have := HK2.out; first | omega | exact Nat.le_refl _⟩, ⟨by (with_reducible repeat (first | apply Kd.R_alloc | apply Kd.R_drewN | apply Kd.R_drew)); exact HO_240004.out⟩, ⟨by (with_reducible repeat (first | apply Kd.R_alloc | apply Kd.R_drewN | apply Kd.R_drew)); exact HO_240005.out⟩, ⟨by (with_reducible repeat (first | apply Kd.R_alloc | apply Kd.R_drewN | apply Kd.R_drew)); exact HO_240006.out⟩, ⟨by (with_reducible repeat (first | refine blk_drewN ?_ _ | refine blk_drew ?_ | refine blk_alloc ?_ _)); exact BK220.out⟩, ⟨by (with_reducible repeat (first | refine blk_drewN ?_ _ | refine blk_drew ?_ | refine blk_alloc ?_ _)); exact BK239.out⟩, ⟨by repeat (first | (with_reducible first | exact HB.out | apply below_alloc | apply bdN | apply bd1 | refine below_set ?_ GE220.out | refine below_set ?_ GE239.out) | exact HB.out)⟩⟩
        ·rw [if_neg c32] at H
         have c32b0 : ((x240004_2.length : Int) == a0_1) = false := beq_eq_false_iff_ne.mpr c32
         have c32b1 : ((x240004_2.length : Int) != a0_1) = true := bne_iff_ne.mpr c32
         (first | rw [c32b0] | (simp only [i64_w, i32_w]; rw [c32b0]) | skip)
         have H' := As0 H
         clear H
         have hnb50 := NB239_220.out
         have hnc50 := NB220_239.out
         have hcz51_0 : wr.cell? ⟨gb239, 0, none⟩ = some (.int .i64 x240000_2) := (blk_cell BK239.out 0).trans rfl
         have hcz51_1 : wr.cell? ⟨gb239, 1, none⟩ = some (.int .i64 x240001_2) := (blk_cell BK239.out 1).trans rfl
         have hcz51_2 : wr.cell? ⟨gb239, 2, none⟩ = some (.int .i64 x240002_2) := (blk_cell BK239.out 2).trans rfl
         have hcz51_3 : wr.cell? ⟨gb239, 3, none⟩ = some (.int .i64 x240003_2) := (blk_cell BK239.out 3).trans rfl
         have hcz51_4 : wr.cell? ⟨gb239, 4, none⟩ = some (u240004) := (blk_cell BK239.out 4).trans rfl
         have hcz51_5 : wr.cell? ⟨gb239, 5, none⟩ = some (u240005) := (blk_cell BK239.out 5).trans rfl
         have hcz51_6 : wr.cell? ⟨gb239, 6, none⟩ = some (u240006) := (blk_cell BK239.out 6).trans rfl
         have hcz51_7 : wr.cell? ⟨gb239, 7, none⟩ = some (.int .i64 x240007_2) := (blk_cell BK239.out 7).trans rfl
         have hfz51_0 := blk_frozen BK239.out 0
         have hfz51_1 := blk_frozen BK239.out 1
         have hfz51_2 := blk_frozen BK239.out 2
         have hfz51_3 := blk_frozen BK239.out 3
         have hfz51_4 := blk_frozen BK239.out 4
         have hfz51_5 := blk_frozen BK239.out 5
         have hfz51_6 := blk_frozen BK239.out 6
         have hfz51_7 := blk_frozen BK239.out 7
         obtain ⟨Ao52, co52, eo52⟩ := Kd.R_slice HO_240004.out
         subst eo52
         have hcz53_0 : wr.cell? ⟨gb220, 0, none⟩ = some (.int .i64 a0_0) := (blk_cell BK220.out 0).trans rfl
         have hcz53_1 : wr.cell? ⟨gb220, 1, none⟩ = some (.int .i64 a0_1) := (blk_cell BK220.out 1).trans rfl
         have hcz53_2 : wr.cell? ⟨gb220, 2, none⟩ = some (.int .i64 a0_2) := (blk_cell BK220.out 2).trans rfl
         have hcz53_3 : wr.cell? ⟨gb220, 3, none⟩ = some (.slice A0_3 l0_3.length c0_3) := (blk_cell BK220.out 3).trans rfl
         have hfz53_0 := blk_frozen BK220.out 0
         have hfz53_1 := blk_frozen BK220.out 1
         have hfz53_2 := blk_frozen BK220.out 2
         have hfz53_3 := blk_frozen BK220.out 3
         go_wp2
         go_meet
         case rel => exact ⟨_, (true), (by first | rfl | (simp; done) | (simp [*]; done)), H', ⟨by have := HJ3.out; have := HK2.out; first | omega | exact Nat.le_refl _⟩, ⟨by (with_reducible repeat (first | apply Kd.R_alloc | apply Kd.R_drewN | apply Kd.R_drew)); exact HO_240004.out⟩, ⟨by (with_reducible repeat (first | apply Kd.R_alloc | apply Kd.R_drewN | apply Kd.R_drew)); exact HO_240005.out⟩, ⟨by (with_reducible repeat (first | apply Kd.R_alloc | apply Kd.R_drewN | apply Kd.R_drew)); exact HO_240006.out⟩, ⟨by (with_reducible repeat (first | refine blk_drewN ?_ _ | refine blk_drew ?_ | refine blk_alloc ?_ _)); exact BK220.out⟩, ⟨by (with_reducible repeat (first | refine blk_drewN ?_ _ | refine blk_drew ?_ | refine blk_alloc ?_ _)); exact BK239.out⟩, ⟨by repeat (first | (with_reducible first | exact HB.out | apply below_alloc | apply bdN | apply bd1 | refine below_set ?_ GE220.out | refine below_set ?_ GE239.out) | exact HB.out)⟩⟩
       case rest =>
        clear HC31
        try clear c1
        try clear c2
        try clear p2
        try clear c3
        try clear c4
        try clear c5
        try clear p6
        try clear c7
        try clear c9
        try clear c16
        try clear c18
        try clear c25
        try clear c30
        try clear c30b0
        try clear c32
        try clear c32b0
        try clear c32b1
        try clear c33
        try clear c33b0
        try clear c33b1
        try clear c34
        try clear c34b0
        try clear c35
        try clear c40
        try clear c44
        try clear c45
        try clear c50
        try clear hcz11_0
        try clear hcz11_1
        try clear hcz11_2
        try clear hcz11_3
        try clear hcz13_0
        try clear hcz13_1
        try clear hcz13_2
        try clear hcz13_3
        try clear hcz15_0
        try clear hcz15_1
        try clear hcz15_2
        try clear hcz15_3
        try clear hcz22_0
        try clear hcz22_1
        try clear hcz22_2
        try clear hcz22_3
        try clear hcz26_0
        try clear hcz26_1
        try clear hcz26_2
        try clear hcz26_3
        try clear hcz26_4
        try clear hcz26_5
        try clear hcz26_6
        try clear hcz26_7
        try clear hcz36_0
        try clear hcz36_1
        try clear hcz36_2
        try clear hcz36_3
        try clear hcz36_4
        try clear hcz36_5
        try clear hcz36_6
        try clear hcz36_7
        try clear hcz38_0
        try clear hcz38_1
        try clear hcz38_2
        try clear hcz38_3
        try clear hcz41_0
        try clear hcz41_1
        try clear hcz41_2
        try clear hcz41_3
        try clear hcz41_4
        try clear hcz41_5
        try clear hcz41_6
        try clear hcz41_7
        try clear hcz43_0
        try clear hcz43_1
        try clear hcz43_2
        try clear hcz43_3
        try clear hcz46_0
        try clear hcz46_1
        try clear hcz46_2
        try clear hcz46_3
        try clear hcz46_4
        try clear hcz46_5
        try clear hcz46_6
        try clear hcz46_7
        try clear hcz48_0
        try clear hcz48_1
        try clear hcz48_2
        try clear hcz48_3
        try clear hcz51_0
        try clear hcz51_1
        try clear hcz51_2
        try clear hcz51_3
        try clear hcz51_4
        try clear hcz51_5
        try clear hcz51_6
        try clear hcz51_7
        try clear hcz53_0
        try clear hcz53_1
        try clear hcz53_2
        try clear hcz53_3
        try clear hfz11_0
        try clear hfz11_1
        try clear hfz11_2
        try clear hfz11_3
        try clear hfz13_0
        try clear hfz13_1
        try clear hfz13_2
        try clear hfz13_3
        try clear hfz15_0
        try clear hfz15_1
        try clear hfz15_2
        try clear hfz15_3
        try clear hfz22_0
        try clear hfz22_1
        try clear hfz22_2
        try clear hfz22_3
        try clear hfz26_0
        try clear hfz26_1
        try clear hfz26_2
        try clear hfz26_3
        try clear hfz26_4
        try clear hfz26_5
        try clear hfz26_6
        try clear hfz26_7
        try clear hfz36_0
        try clear hfz36_1
        try clear hfz36_2
        try clear hfz36_3
        try clear hfz36_4
        try clear hfz36_5
        try clear hfz36_6
        try clear hfz36_7
        try clear hfz38_0
        try clear hfz38_1
        try clear hfz38_2
        try clear hfz38_3
        try clear hfz41_0
        try clear hfz41_1
        try clear hfz41_2
        try clear hfz41_3
        try clear hfz41_4
        try clear hfz41_5
        try clear hfz41_6
        try clear hfz41_7
        try clear hfz43_0
        try clear hfz43_1
        try clear hfz43_2
        try clear hfz43_3
        try clear hfz46_0
        try clear hfz46_1
        try clear hfz46_2
        try clear hfz46_3
        try clear hfz46_4
        try clear hfz46_5
        try clear hfz46_6
        try clear hfz46_7
        try clear hfz48_0
        try clear hfz48_1
        try clear hfz48_2
        try clear hfz48_3
        try clear hfz51_0
        try clear hfz51_1
        try clear hfz51_2
        try clear hfz51_3
        try clear hfz51_4
        try clear hfz51_5
        try clear hfz51_6
        try clear hfz51_7
        try clear hfz53_0
        try clear hfz53_1
        try clear hfz53_2
        try clear hfz53_3
        try clear p2
        try clear p6
        obtain ⟨kq, x69_30, rfl, HA, HJ30, HO_240004, HO_240005, HO_240006, BK220, BK239, HB⟩ := hcut
        cases kq with
        | zero => exact absurd HA.out (by simp [regcertlaw10_ExecuteSteps.j2])
        | succ kj30 =>
         have H := HA.out
         clear HA
         simp only [regcertlaw10_ExecuteSteps.j2] at H
         by_cases c54 : x69_30 = true
         ·subst c54
          have H1 : (none) = some r := by rw [if_pos rfl] at H; exact H
          clear H
          have H := H1
          clear H1
          exact absurd H (by simp)
         ·replace c54 := Bool.eq_false_iff.mpr c54
          subst c54
          have H1 : ((execute_Step.f a0_0 a0_1 a0_2 l0_3 x240000_2 x240001_2 x240002_2 x240003_2 x240004_2 x240005_2 x240006_2 x240007_2).bind fun bt240 => (regcertlaw10_ExecuteSteps.l0 kj30 l1 (Int.tmod (wrap64 (a2)) 60) (wrap64 (x10_2 + 1)) a0_0 a0_1 a0_2 l0_3 bt240.1 bt240.2.1 bt240.2.2.1 bt240.2.2.2.1 bt240.2.2.2.2.1 bt240.2.2.2.2.2.1 bt240.2.2.2.2.2.2.1 bt240.2.2.2.2.2.2.2)) = some r := by rw [if_neg (show ¬ (false = true) by decide)] at H; exact H
          clear H
          have H := H1
          clear H1
          replace H := Option.bind_eq_some_iff.mp H
          obtain ⟨⟨t240, t241, t242, t243, t244, t247, t250, t253⟩, A550, H⟩ := H
          replace H : (regcertlaw10_ExecuteSteps.l0 kj30 l1 (Int.tmod (wrap64 (a2)) 60) (wrap64 (x10_2 + 1)) a0_0 a0_1 a0_2 l0_3 t240 t241 t242 t243 t244 t247 t250 t253) = some r := H
          have A55 := As0 A550
          clear A550
          have H' := As0 H
          clear H
          have hnb56 := NB220_239.out
          have hnc56 := NB239_220.out
          have hcz57_0 : wc.cell? ⟨gb220, 0, none⟩ = some (.int .i64 a0_0) := (blk_cell BK220.out 0).trans rfl
          have hcz57_1 : wc.cell? ⟨gb220, 1, none⟩ = some (.int .i64 a0_1) := (blk_cell BK220.out 1).trans rfl
          have hcz57_2 : wc.cell? ⟨gb220, 2, none⟩ = some (.int .i64 a0_2) := (blk_cell BK220.out 2).trans rfl
          have hcz57_3 : wc.cell? ⟨gb220, 3, none⟩ = some (.slice A0_3 l0_3.length c0_3) := (blk_cell BK220.out 3).trans rfl
          have hfz57_0 := blk_frozen BK220.out 0
          have hfz57_1 := blk_frozen BK220.out 1
          have hfz57_2 := blk_frozen BK220.out 2
          have hfz57_3 := blk_frozen BK220.out 3
          have hcz58_0 : wc.cell? ⟨gb239, 0, none⟩ = some (.int .i64 x240000_2) := (blk_cell BK239.out 0).trans rfl
          have hcz58_1 : wc.cell? ⟨gb239, 1, none⟩ = some (.int .i64 x240001_2) := (blk_cell BK239.out 1).trans rfl
          have hcz58_2 : wc.cell? ⟨gb239, 2, none⟩ = some (.int .i64 x240002_2) := (blk_cell BK239.out 2).trans rfl
          have hcz58_3 : wc.cell? ⟨gb239, 3, none⟩ = some (.int .i64 x240003_2) := (blk_cell BK239.out 3).trans rfl
          have hcz58_4 : wc.cell? ⟨gb239, 4, none⟩ = some (u240004) := (blk_cell BK239.out 4).trans rfl
          have hcz58_5 : wc.cell? ⟨gb239, 5, none⟩ = some (u240005) := (blk_cell BK239.out 5).trans rfl
          have hcz58_6 : wc.cell? ⟨gb239, 6, none⟩ = some (u240006) := (blk_cell BK239.out 6).trans rfl
          have hcz58_7 : wc.cell? ⟨gb239, 7, none⟩ = some (.int .i64 x240007_2) := (blk_cell BK239.out 7).trans rfl
          have hfz58_0 := blk_frozen BK239.out 0
          have hfz58_1 := blk_frozen BK239.out 1
          have hfz58_2 := blk_frozen BK239.out 2
          have hfz58_3 := blk_frozen BK239.out 3
          have hfz58_4 := blk_frozen BK239.out 4
          have hfz58_5 := blk_frozen BK239.out 5
          have hfz58_6 := blk_frozen BK239.out 6
          have hfz58_7 := blk_frozen BK239.out 7
          obtain ⟨Ao59, co59, eo59⟩ := Kd.R_slice HO_240004.out
          subst eo59
          obtain ⟨Ao60, co60, eo60⟩ := Kd.R_slice HO_240005.out
          subst eo60
          obtain ⟨Ao61, co61, eo61⟩ := Kd.R_slice HO_240006.out
          subst eo61
          go_wp2_with (first | ((with_reducible refine gate_callee (f := 56) rfl ?_); refine goesL_ (some 72) rfl rfl Try.func56 (by kernel_rfl) rfl #[.agg #[.int .i64 a0_0, .int .i64 a0_1, .int .i64 a0_2, .slice A0_3 l0_3.length c0_3], .agg #[.int .i64 x240000_2, .int .i64 x240001_2, .int .i64 x240002_2, .int .i64 x240003_2, .slice Ao59 x240004_2.length co59, .slice Ao60 x240005_2.length co60, .slice Ao61 x240006_2.length co61, .int .i64 x240007_2]] rfl (by (try simp only [List.map_toArray, List.map_cons, List.map_nil]); first | done | rfl | (simp only [List.length_drop, List.length_take]; rfl)) ?_; (with_reducible refine (execute_Step.calls a0_0 a0_1 a0_2 _ _ l0_3 x240000_2 x240001_2 x240002_2 x240003_2 _ _ x240004_2 _ _ x240005_2 _ _ x240006_2 x240007_2 t240 t241 t242 t243 t244 t247 t250 t253 _ ?side1 ?side2 ?side3 ?side4 ?side5 ?side6 ?side7 ?side8 A55.out).mono ?_); (case side1 => repeat (first | exact (Kd.C_below HR0_3.out HB.out) | (with_reducible refine Kd.C_alloc ?_ _) | (with_reducible refine Kd.C_drewN ?_ _) | (with_reducible refine Kd.C_drew ?_))); (case side2 => exact HC0_3.out); (case side3 => repeat (first | exact (Kd.R_reads' HO_240004.out).2.2 | (with_reducible refine Kd.C_alloc ?_ _) | (with_reducible refine Kd.C_drewN ?_ _) | (with_reducible refine Kd.C_drew ?_))); (case side4 => exact (Kd.R_reads' HO_240004.out).2.1); (case side5 => repeat (first | exact (Kd.R_reads' HO_240005.out).2.2 | (with_reducible refine Kd.C_alloc ?_ _) | (with_reducible refine Kd.C_drewN ?_ _) | (with_reducible refine Kd.C_drew ?_))); (case side6 => exact (Kd.R_reads' HO_240005.out).2.1); (case side7 => repeat (first | exact (Kd.R_reads' HO_240006.out).2.2 | (with_reducible refine Kd.C_alloc ?_ _) | (with_reducible refine Kd.C_drewN ?_ _) | (with_reducible refine Kd.C_drew ?_))); (case side8 => exact (Kd.R_reads' HO_240006.out).2.1); rintro e w62 ⟨v245, v248, v251, rfl, ho0, ho1, ho2, hb⟩; refine ⟨_, rfl, ?_⟩; have n0_ := As0 (Kd.R_mono (Kd.R_told (Kd.R_told (Kd.R_told (Kd.R_old (by (with_reducible repeat (first | apply Kd.R_alloc | apply Kd.R_drewN | apply Kd.R_drew)); exact HO_240004.out) hb) (Kd.R_base ho0)) (Kd.R_base ho1)) (Kd.R_base ho2)) (fun _ h_ => h_.1)); have n1_ := As0 (Kd.R_mono (Kd.R_told (Kd.R_told (Kd.R_told (Kd.R_old (by (with_reducible repeat (first | apply Kd.R_alloc | apply Kd.R_drewN | apply Kd.R_drew)); exact HO_240005.out) hb) (Kd.R_base ho0)) (Kd.R_base ho1)) (Kd.R_base ho2)) (fun _ h_ => h_.1)); have n2_ := As0 (Kd.R_mono (Kd.R_told (Kd.R_told (Kd.R_told (Kd.R_old (by (with_reducible repeat (first | apply Kd.R_alloc | apply Kd.R_drewN | apply Kd.R_drew)); exact HO_240006.out) hb) (Kd.R_base ho0)) (Kd.R_base ho1)) (Kd.R_base ho2)) (fun _ h_ => h_.1)); have n3_ := As0 (Kd.R_lower (Kd.R_new' (Kd.R_new' (Kd.R_new' ho0 (Kd.R_lt (by (with_reducible repeat (first | apply Kd.R_alloc | apply Kd.R_drewN | apply Kd.R_drew)); exact HO_240004.out))) (Kd.R_lt (by (with_reducible repeat (first | apply Kd.R_alloc | apply Kd.R_drewN | apply Kd.R_drew)); exact HO_240005.out))) (Kd.R_lt (by (with_reducible repeat (first | apply Kd.R_alloc | apply Kd.R_drewN | apply Kd.R_drew)); exact HO_240006.out))) (below_size (by repeat (first | (with_reducible first | exact HB.out | apply below_alloc | apply bdN | apply bd1 | refine below_set ?_ GE220.out | refine below_set ?_ GE239.out) | exact HB.out)))); have n4_ := As0 (Kd.R_lower (Kd.R_new' (Kd.R_new' (Kd.R_new' ho1 (Kd.R_lt (by (with_reducible repeat (first | apply Kd.R_alloc | apply Kd.R_drewN | apply Kd.R_drew)); exact HO_240004.out))) (Kd.R_lt (by (with_reducible repeat (first | apply Kd.R_alloc | apply Kd.R_drewN | apply Kd.R_drew)); exact HO_240005.out))) (Kd.R_lt (by (with_reducible repeat (first | apply Kd.R_alloc | apply Kd.R_drewN | apply Kd.R_drew)); exact HO_240006.out))) (below_size (by repeat (first | (with_reducible first | exact HB.out | apply below_alloc | apply bdN | apply bd1 | refine below_set ?_ GE220.out | refine below_set ?_ GE239.out) | exact HB.out)))); have n5_ := As0 (Kd.R_lower (Kd.R_new' (Kd.R_new' (Kd.R_new' ho2 (Kd.R_lt (by (with_reducible repeat (first | apply Kd.R_alloc | apply Kd.R_drewN | apply Kd.R_drew)); exact HO_240004.out))) (Kd.R_lt (by (with_reducible repeat (first | apply Kd.R_alloc | apply Kd.R_drewN | apply Kd.R_drew)); exact HO_240005.out))) (Kd.R_lt (by (with_reducible repeat (first | apply Kd.R_alloc | apply Kd.R_drewN | apply Kd.R_drew)); exact HO_240006.out))) (below_size (by repeat (first | (with_reducible first | exact HB.out | apply below_alloc | apply bdN | apply bd1 | refine below_set ?_ GE220.out | refine below_set ?_ GE239.out) | exact HB.out)))); have n6_ := As0 (blk_below (g := gb220) (o := .cells #[.int .i64 a0_0, .int .i64 a0_1, .int .i64 a0_2, .slice A0_3 l0_3.length c0_3] 63 (0, 0)) (by (with_reducible repeat (first | refine blk_drewN ?_ _ | refine blk_drew ?_ | refine blk_alloc ?_ _)); exact BK220.out) hb); have n7_ := As0 (blk_below (g := gb239) (o := .cells #[.int .i64 x240000_2, .int .i64 x240001_2, .int .i64 x240002_2, .int .i64 x240003_2, .slice Ao59 x240004_2.length co59, .slice Ao60 x240005_2.length co60, .slice Ao61 x240006_2.length co61, .int .i64 x240007_2] 39 (0, 0)) (by (with_reducible repeat (first | refine blk_drewN ?_ _ | refine blk_drew ?_ | refine blk_alloc ?_ _)); exact BK239.out) hb); have n8_ := As0 (below_step (by repeat (first | (with_reducible first | exact HB.out | apply below_alloc | apply bdN | apply bd1 | refine below_set ?_ GE220.out | refine below_set ?_ GE239.out) | exact HB.out)) hb); clear HO_240004 HO_240005 HO_240006 BK220 BK239 HB; have HO_240004 := n0_; have HO_240005 := n1_; have HO_240006 := n2_; have HO246 := n3_; have HO249 := n4_; have HO252 := n5_; have BK220 := n6_; have BK239 := n7_; have HB := n8_; clear n0_ n1_ n2_ n3_ n4_ n5_ n6_ n7_ n8_; (try clear hb); (try clear hb2); (try clear hk); (try clear hi); (try clear ho0); (try clear ho1); (try clear ho2); have hcz63_0 : w62.cell? ⟨gb239, 0, none⟩ = some (.int .i64 x240000_2) := (blk_cell BK239.out 0).trans rfl; have hcz63_1 : w62.cell? ⟨gb239, 1, none⟩ = some (.int .i64 x240001_2) := (blk_cell BK239.out 1).trans rfl; have hcz63_2 : w62.cell? ⟨gb239, 2, none⟩ = some (.int .i64 x240002_2) := (blk_cell BK239.out 2).trans rfl; have hcz63_3 : w62.cell? ⟨gb239, 3, none⟩ = some (.int .i64 x240003_2) := (blk_cell BK239.out 3).trans rfl; have hcz63_4 : w62.cell? ⟨gb239, 4, none⟩ = some (.slice Ao59 x240004_2.length co59) := (blk_cell BK239.out 4).trans rfl; have hcz63_5 : w62.cell? ⟨gb239, 5, none⟩ = some (.slice Ao60 x240005_2.length co60) := (blk_cell BK239.out 5).trans rfl; have hcz63_6 : w62.cell? ⟨gb239, 6, none⟩ = some (.slice Ao61 x240006_2.length co61) := (blk_cell BK239.out 6).trans rfl; have hcz63_7 : w62.cell? ⟨gb239, 7, none⟩ = some (.int .i64 x240007_2) := (blk_cell BK239.out 7).trans rfl; have hfz63_0 := blk_frozen BK239.out 0; have hfz63_1 := blk_frozen BK239.out 1; have hfz63_2 := blk_frozen BK239.out 2; have hfz63_3 := blk_frozen BK239.out 3; have hfz63_4 := blk_frozen BK239.out 4; have hfz63_5 := blk_frozen BK239.out 5; have hfz63_6 := blk_frozen BK239.out 6; have hfz63_7 := blk_frozen BK239.out 7; obtain ⟨Ao64, co64, eo64⟩ := Kd.R_slice HO246.out; subst eo64; obtain ⟨Ao65, co65, eo65⟩ := Kd.R_slice HO249.out; subst eo65; obtain ⟨Ao66, co66, eo66⟩ := Kd.R_slice HO252.out; subst eo66))
          go_roundg kj30
          case measure => have := HJ3.out; have := HK2.out; have := HJ30.out; omega
          case rel => exact ⟨(wrap64 (x10_2 + 1)), (t240), (t241), (t242), (t243), (t244), (t247), (t250), (t253), (.slice Ao64 t244.length co64), (.slice Ao65 t247.length co65), (.slice Ao66 t250.length co66), (by first | rfl | (simp; done) | (simp [*]; done)), H', ⟨by have := HJ3.out; have := HK2.out; have := HJ30.out; omega⟩, ⟨by (with_reducible repeat (first | apply Kd.R_alloc | apply Kd.R_drewN | apply Kd.R_drew)); exact Kd.R_mono (RF gb239 7 (RF gb239 6 (RF gb239 5 (RF gb239 4 (RF gb239 3 (RF gb239 2 (RF gb239 1 (RF gb239 0 (Kd.R_types HO246.out BK239.out (by decide)) (.int .i64 t240)) (.int .i64 t241)) (.int .i64 t242)) (.int .i64 t243)) (.slice Ao64 t244.length co64)) (.slice Ao65 t247.length co65)) (.slice Ao66 t250.length co66)) (.int .i64 t253)) (fun _ hk => ⟨hk.1.1.1.1.1, hk.1.1.1.1.2⟩)⟩, ⟨by (with_reducible repeat (first | apply Kd.R_alloc | apply Kd.R_drewN | apply Kd.R_drew)); exact Kd.R_mono (RF gb239 7 (RF gb239 6 (RF gb239 5 (RF gb239 4 (RF gb239 3 (RF gb239 2 (RF gb239 1 (RF gb239 0 (Kd.R_types HO249.out BK239.out (by decide)) (.int .i64 t240)) (.int .i64 t241)) (.int .i64 t242)) (.int .i64 t243)) (.slice Ao64 t244.length co64)) (.slice Ao65 t247.length co65)) (.slice Ao66 t250.length co66)) (.int .i64 t253)) (fun _ hk => ⟨hk.1.1.1.1.1, hk.1.1.1.1.2⟩)⟩, ⟨by (with_reducible repeat (first | apply Kd.R_alloc | apply Kd.R_drewN | apply Kd.R_drew)); exact Kd.R_mono (RF gb239 7 (RF gb239 6 (RF gb239 5 (RF gb239 4 (RF gb239 3 (RF gb239 2 (RF gb239 1 (RF gb239 0 (Kd.R_types HO252.out BK239.out (by decide)) (.int .i64 t240)) (.int .i64 t241)) (.int .i64 t242)) (.int .i64 t243)) (.slice Ao64 t244.length co64)) (.slice Ao65 t247.length co65)) (.slice Ao66 t250.length co66)) (.int .i64 t253)) (fun _ hk => ⟨hk.1.1.1.1.1, hk.1.1.1.1.2⟩)⟩, ⟨by (with_reducible repeat (first | refine blk_drewN ?_ _ | refine blk_drew ?_ | refine blk_alloc ?_ _)); refine blk_far ?_ NB220_239.out _; (with_reducible repeat (first | refine blk_drewN ?_ _ | refine blk_drew ?_ | refine blk_alloc ?_ _)); refine blk_far ?_ NB220_239.out _; (with_reducible repeat (first | refine blk_drewN ?_ _ | refine blk_drew ?_ | refine blk_alloc ?_ _)); refine blk_far ?_ NB220_239.out _; (with_reducible repeat (first | refine blk_drewN ?_ _ | refine blk_drew ?_ | refine blk_alloc ?_ _)); refine blk_far ?_ NB220_239.out _; (with_reducible repeat (first | refine blk_drewN ?_ _ | refine blk_drew ?_ | refine blk_alloc ?_ _)); refine blk_far ?_ NB220_239.out _; (with_reducible repeat (first | refine blk_drewN ?_ _ | refine blk_drew ?_ | refine blk_alloc ?_ _)); refine blk_far ?_ NB220_239.out _; (with_reducible repeat (first | refine blk_drewN ?_ _ | refine blk_drew ?_ | refine blk_alloc ?_ _)); refine blk_far ?_ NB220_239.out _; (with_reducible repeat (first | refine blk_drewN ?_ _ | refine blk_drew ?_ | refine blk_alloc ?_ _)); refine blk_far ?_ NB220_239.out _; (with_reducible repeat (first | refine blk_drewN ?_ _ | refine blk_drew ?_ | refine blk_alloc ?_ _)); exact BK220.out⟩, ⟨by (with_reducible repeat (first | refine blk_drewN ?_ _ | refine blk_drew ?_ | refine blk_alloc ?_ _)); refine blk_put (cs := #[.int .i64 t240, .int .i64 t241, .int .i64 t242, .int .i64 t243, .slice Ao64 t244.length co64, .slice Ao65 t247.length co65, .slice Ao66 t250.length co66, .int .i64 x240007_2]) ?_ 7 _ rfl; (with_reducible repeat (first | refine blk_drewN ?_ _ | refine blk_drew ?_ | refine blk_alloc ?_ _)); refine blk_put (cs := #[.int .i64 t240, .int .i64 t241, .int .i64 t242, .int .i64 t243, .slice Ao64 t244.length co64, .slice Ao65 t247.length co65, .slice Ao61 x240006_2.length co61, .int .i64 x240007_2]) ?_ 6 _ rfl; (with_reducible repeat (first | refine blk_drewN ?_ _ | refine blk_drew ?_ | refine blk_alloc ?_ _)); refine blk_put (cs := #[.int .i64 t240, .int .i64 t241, .int .i64 t242, .int .i64 t243, .slice Ao64 t244.length co64, .slice Ao60 x240005_2.length co60, .slice Ao61 x240006_2.length co61, .int .i64 x240007_2]) ?_ 5 _ rfl; (with_reducible repeat (first | refine blk_drewN ?_ _ | refine blk_drew ?_ | refine blk_alloc ?_ _)); refine blk_put (cs := #[.int .i64 t240, .int .i64 t241, .int .i64 t242, .int .i64 t243, .slice Ao59 x240004_2.length co59, .slice Ao60 x240005_2.length co60, .slice Ao61 x240006_2.length co61, .int .i64 x240007_2]) ?_ 4 _ rfl; (with_reducible repeat (first | refine blk_drewN ?_ _ | refine blk_drew ?_ | refine blk_alloc ?_ _)); refine blk_put (cs := #[.int .i64 t240, .int .i64 t241, .int .i64 t242, .int .i64 x240003_2, .slice Ao59 x240004_2.length co59, .slice Ao60 x240005_2.length co60, .slice Ao61 x240006_2.length co61, .int .i64 x240007_2]) ?_ 3 _ rfl; (with_reducible repeat (first | refine blk_drewN ?_ _ | refine blk_drew ?_ | refine blk_alloc ?_ _)); refine blk_put (cs := #[.int .i64 t240, .int .i64 t241, .int .i64 x240002_2, .int .i64 x240003_2, .slice Ao59 x240004_2.length co59, .slice Ao60 x240005_2.length co60, .slice Ao61 x240006_2.length co61, .int .i64 x240007_2]) ?_ 2 _ rfl; (with_reducible repeat (first | refine blk_drewN ?_ _ | refine blk_drew ?_ | refine blk_alloc ?_ _)); refine blk_put (cs := #[.int .i64 t240, .int .i64 x240001_2, .int .i64 x240002_2, .int .i64 x240003_2, .slice Ao59 x240004_2.length co59, .slice Ao60 x240005_2.length co60, .slice Ao61 x240006_2.length co61, .int .i64 x240007_2]) ?_ 1 _ rfl; (with_reducible repeat (first | refine blk_drewN ?_ _ | refine blk_drew ?_ | refine blk_alloc ?_ _)); refine blk_put (cs := #[.int .i64 x240000_2, .int .i64 x240001_2, .int .i64 x240002_2, .int .i64 x240003_2, .slice Ao59 x240004_2.length co59, .slice Ao60 x240005_2.length co60, .slice Ao61 x240006_2.length co61, .int .i64 x240007_2]) ?_ 0 _ rfl; (with_reducible repeat (first | refine blk_drewN ?_ _ | refine blk_drew ?_ | refine blk_alloc ?_ _)); exact BK239.out⟩, ⟨by repeat (first | (with_reducible first | exact HB.out | apply below_alloc | apply bdN | apply bd1 | refine below_set ?_ GE220.out | refine below_set ?_ GE239.out) | exact HB.out)⟩⟩
      ·rw [if_neg c30] at H
       have c30b0 : decide (x10_2 < (Int.tmod (wrap64 (a2)) 60)) = false := decide_eq_false c30
       clear c30
       replace H := Option.bind_eq_some_iff.mp H
       obtain ⟨⟨t254, t255, t256, t257, t258, t261, t264, t267, t268⟩, A670, H⟩ := H
       replace H : ((regcertref09_Same.f k2 x240000_2 x240001_2 x240002_2 x240003_2 x240004_2 x240005_2 x240006_2 x240007_2 t254 t255 t256 t257 t258 t261 t264 t267).bind fun t270 => (some t270)) = some r := H
       have A67 := As0 A670
       clear A670
       replace H := Option.bind_eq_some_iff.mp H
       obtain ⟨t270, A680, H⟩ := H
       replace H : (some t270) = some r := H
       have A68 := As0 A680
       clear A680
       obtain rfl := Option.some.inj H
       have hnb69 := NB220_239.out
       have hnc69 := NB239_220.out
       have hcz70_0 : wr.cell? ⟨gb220, 0, none⟩ = some (.int .i64 a0_0) := (blk_cell BK220.out 0).trans rfl
       have hcz70_1 : wr.cell? ⟨gb220, 1, none⟩ = some (.int .i64 a0_1) := (blk_cell BK220.out 1).trans rfl
       have hcz70_2 : wr.cell? ⟨gb220, 2, none⟩ = some (.int .i64 a0_2) := (blk_cell BK220.out 2).trans rfl
       have hcz70_3 : wr.cell? ⟨gb220, 3, none⟩ = some (.slice A0_3 l0_3.length c0_3) := (blk_cell BK220.out 3).trans rfl
       have hfz70_0 := blk_frozen BK220.out 0
       have hfz70_1 := blk_frozen BK220.out 1
       have hfz70_2 := blk_frozen BK220.out 2
       have hfz70_3 := blk_frozen BK220.out 3
       go_wp2_with (first | ((with_reducible refine gate_callee (f := 46) rfl ?_); refine goesL_ (some 77) rfl rfl Try.func46 (by kernel_rfl) rfl #[.agg #[.int .i64 a0_0, .int .i64 a0_1, .int .i64 a0_2, .slice A0_3 l0_3.length c0_3], .slice A1 l1.length c1, .int .i64 (Int.tmod (wrap64 (a2)) 60)] rfl (by (try simp only [List.map_toArray, List.map_cons, List.map_nil]); first | done | rfl | (simp only [List.length_drop, List.length_take]; rfl)) ?_; (with_reducible refine (execute_Exec.calls k2 a0_0 a0_1 a0_2 _ _ l0_3 _ _ l1 (Int.tmod (wrap64 (a2)) 60) t254 t255 t256 t257 t258 t261 t264 t267 t268 _ ?side1 ?side2 ?side3 ?side4 A67.out).mono ?_); (case side1 => repeat (first | exact (Kd.C_below HR0_3.out HB.out) | (with_reducible refine Kd.C_alloc ?_ _) | (with_reducible refine Kd.C_drewN ?_ _) | (with_reducible refine Kd.C_drew ?_))); (case side2 => exact HC0_3.out); (case side3 => repeat (first | exact (Kd.C_below HR1.out HB.out) | (with_reducible refine Kd.C_alloc ?_ _) | (with_reducible refine Kd.C_drewN ?_ _) | (with_reducible refine Kd.C_drew ?_))); (case side4 => exact HC1.out); rintro e w71 ⟨v259, v262, v265, rfl, ho0, ho1, ho2, hb⟩; refine ⟨_, rfl, ?_⟩; have n0_ := As0 (Kd.R_mono (Kd.R_told (Kd.R_told (Kd.R_told (Kd.R_old (by (with_reducible repeat (first | apply Kd.R_alloc | apply Kd.R_drewN | apply Kd.R_drew)); exact HO_240004.out) hb) (Kd.R_base ho0)) (Kd.R_base ho1)) (Kd.R_base ho2)) (fun _ h_ => h_.1)); have n1_ := As0 (Kd.R_mono (Kd.R_told (Kd.R_told (Kd.R_told (Kd.R_old (by (with_reducible repeat (first | apply Kd.R_alloc | apply Kd.R_drewN | apply Kd.R_drew)); exact HO_240005.out) hb) (Kd.R_base ho0)) (Kd.R_base ho1)) (Kd.R_base ho2)) (fun _ h_ => h_.1)); have n2_ := As0 (Kd.R_mono (Kd.R_told (Kd.R_told (Kd.R_told (Kd.R_old (by (with_reducible repeat (first | apply Kd.R_alloc | apply Kd.R_drewN | apply Kd.R_drew)); exact HO_240006.out) hb) (Kd.R_base ho0)) (Kd.R_base ho1)) (Kd.R_base ho2)) (fun _ h_ => h_.1)); have n3_ := As0 (Kd.R_lower (Kd.R_new' (Kd.R_new' (Kd.R_new' ho0 (Kd.R_lt (by (with_reducible repeat (first | apply Kd.R_alloc | apply Kd.R_drewN | apply Kd.R_drew)); exact HO_240004.out))) (Kd.R_lt (by (with_reducible repeat (first | apply Kd.R_alloc | apply Kd.R_drewN | apply Kd.R_drew)); exact HO_240005.out))) (Kd.R_lt (by (with_reducible repeat (first | apply Kd.R_alloc | apply Kd.R_drewN | apply Kd.R_drew)); exact HO_240006.out))) (below_size (by repeat (first | (with_reducible first | exact HB.out | apply below_alloc | apply bdN | apply bd1 | refine below_set ?_ GE220.out | refine below_set ?_ GE239.out) | exact HB.out)))); have n4_ := As0 (Kd.R_lower (Kd.R_new' (Kd.R_new' (Kd.R_new' ho1 (Kd.R_lt (by (with_reducible repeat (first | apply Kd.R_alloc | apply Kd.R_drewN | apply Kd.R_drew)); exact HO_240004.out))) (Kd.R_lt (by (with_reducible repeat (first | apply Kd.R_alloc | apply Kd.R_drewN | apply Kd.R_drew)); exact HO_240005.out))) (Kd.R_lt (by (with_reducible repeat (first | apply Kd.R_alloc | apply Kd.R_drewN | apply Kd.R_drew)); exact HO_240006.out))) (below_size (by repeat (first | (with_reducible first | exact HB.out | apply below_alloc | apply bdN | apply bd1 | refine below_set ?_ GE220.out | refine below_set ?_ GE239.out) | exact HB.out)))); have n5_ := As0 (Kd.R_lower (Kd.R_new' (Kd.R_new' (Kd.R_new' ho2 (Kd.R_lt (by (with_reducible repeat (first | apply Kd.R_alloc | apply Kd.R_drewN | apply Kd.R_drew)); exact HO_240004.out))) (Kd.R_lt (by (with_reducible repeat (first | apply Kd.R_alloc | apply Kd.R_drewN | apply Kd.R_drew)); exact HO_240005.out))) (Kd.R_lt (by (with_reducible repeat (first | apply Kd.R_alloc | apply Kd.R_drewN | apply Kd.R_drew)); exact HO_240006.out))) (below_size (by repeat (first | (with_reducible first | exact HB.out | apply below_alloc | apply bdN | apply bd1 | refine below_set ?_ GE220.out | refine below_set ?_ GE239.out) | exact HB.out)))); have n6_ := As0 (blk_below (g := gb220) (o := .cells #[.int .i64 a0_0, .int .i64 a0_1, .int .i64 a0_2, .slice A0_3 l0_3.length c0_3] 63 (0, 0)) (by (with_reducible repeat (first | refine blk_drewN ?_ _ | refine blk_drew ?_ | refine blk_alloc ?_ _)); exact BK220.out) hb); have n7_ := As0 (blk_below (g := gb239) (o := .cells #[.int .i64 x240000_2, .int .i64 x240001_2, .int .i64 x240002_2, .int .i64 x240003_2, u240004, u240005, u240006, .int .i64 x240007_2] 39 (0, 0)) (by (with_reducible repeat (first | refine blk_drewN ?_ _ | refine blk_drew ?_ | refine blk_alloc ?_ _)); exact BK239.out) hb); have n8_ := As0 (below_step (by repeat (first | (with_reducible first | exact HB.out | apply below_alloc | apply bdN | apply bd1 | refine below_set ?_ GE220.out | refine below_set ?_ GE239.out) | exact HB.out)) hb); clear HO_240004 HO_240005 HO_240006 BK220 BK239 HB; have HO_240004 := n0_; have HO_240005 := n1_; have HO_240006 := n2_; have HO260 := n3_; have HO263 := n4_; have HO266 := n5_; have BK220 := n6_; have BK239 := n7_; have HB := n8_; clear n0_ n1_ n2_ n3_ n4_ n5_ n6_ n7_ n8_; (try clear hb); (try clear hb2); (try clear hk); (try clear hi); (try clear ho0); (try clear ho1); (try clear ho2)) | ((with_reducible refine gate_dst (N := 11) rfl ?_); (try (refine gate_guard (by rfl) ?_; dsimp only)); refine box_event ?hg (N := 11) ?hd (cs := #[.int .i64 0, .int .i64 0, .int .i64 0, .int .i64 0, .slice none 0 0, .slice none 0 0, .slice none 0 0, .int .i64 0]) (t := 39) ?hr ?_; (case hd => rfl); (case hg => rfl); (case hr => first | (go_simp; done) | (go_simp; rfl)); intro gb269 hg w72 hbox hb; have n0_ := As0 (Kd.R_below (by (with_reducible repeat (first | apply Kd.R_alloc | apply Kd.R_drewN | apply Kd.R_drew)); exact HO_240004.out) hb); have n1_ := As0 (Kd.R_below (by (with_reducible repeat (first | apply Kd.R_alloc | apply Kd.R_drewN | apply Kd.R_drew)); exact HO_240005.out) hb); have n2_ := As0 (Kd.R_below (by (with_reducible repeat (first | apply Kd.R_alloc | apply Kd.R_drewN | apply Kd.R_drew)); exact HO_240006.out) hb); have n3_ := As0 (Kd.R_below (by (with_reducible repeat (first | apply Kd.R_alloc | apply Kd.R_drewN | apply Kd.R_drew)); exact HO260.out) hb); have n4_ := As0 (Kd.R_below (by (with_reducible repeat (first | apply Kd.R_alloc | apply Kd.R_drewN | apply Kd.R_drew)); exact HO263.out) hb); have n5_ := As0 (Kd.R_below (by (with_reducible repeat (first | apply Kd.R_alloc | apply Kd.R_drewN | apply Kd.R_drew)); exact HO266.out) hb); have n6_ := As0 (blk_below (g := gb220) (o := .cells #[.int .i64 a0_0, .int .i64 a0_1, .int .i64 a0_2, .slice A0_3 l0_3.length c0_3] 63 (0, 0)) (by (with_reducible repeat (first | refine blk_drewN ?_ _ | refine blk_drew ?_ | refine blk_alloc ?_ _)); exact BK220.out) hb); have n7_ := As0 (blk_below (g := gb239) (o := .cells #[.int .i64 x240000_2, .int .i64 x240001_2, .int .i64 x240002_2, .int .i64 x240003_2, u240004, u240005, u240006, .int .i64 x240007_2] 39 (0, 0)) (by (with_reducible repeat (first | refine blk_drewN ?_ _ | refine blk_drew ?_ | refine blk_alloc ?_ _)); exact BK239.out) hb); have n8_ := As0 (below_step (by repeat (first | (with_reducible first | exact HB.out | apply below_alloc | apply bdN | apply bd1 | refine below_set ?_ GE220.out | refine below_set ?_ GE239.out) | exact HB.out)) hb); have n9_ := As0 (hbox); have n10_ := As0 ((by rw [hg]; exact (below_size (by repeat (first | (with_reducible first | exact HB.out | apply below_alloc | apply bdN | apply bd1 | refine below_set ?_ GE220.out | refine below_set ?_ GE239.out) | exact HB.out))) : w.heap.size ≤ gb269)); have n11_ := As0 ((by rw [hg]; exact (below_size (by repeat (first | (with_reducible first | exact HB.out | apply below_alloc | apply bdN | apply bd1 | refine below_set ?_ GE220.out | refine below_set ?_ GE239.out) | exact HB.out))) : w.heap.size ≤ gb269)); have n12_ := As0 ((by rw [hg]; exact Nat.ne_of_lt (blk_lt (g := gb220) (o := .cells #[.int .i64 a0_0, .int .i64 a0_1, .int .i64 a0_2, .slice A0_3 l0_3.length c0_3] 63 (0, 0)) (by (with_reducible repeat (first | refine blk_drewN ?_ _ | refine blk_drew ?_ | refine blk_alloc ?_ _)); exact BK220.out)) : gb220 ≠ gb269)); have n13_ := As0 ((by rw [hg]; exact Nat.ne_of_gt (blk_lt (g := gb220) (o := .cells #[.int .i64 a0_0, .int .i64 a0_1, .int .i64 a0_2, .slice A0_3 l0_3.length c0_3] 63 (0, 0)) (by (with_reducible repeat (first | refine blk_drewN ?_ _ | refine blk_drew ?_ | refine blk_alloc ?_ _)); exact BK220.out)) : gb269 ≠ gb220)); have n14_ := As0 ((by rw [hg]; exact Nat.ne_of_lt (blk_lt (g := gb239) (o := .cells #[.int .i64 x240000_2, .int .i64 x240001_2, .int .i64 x240002_2, .int .i64 x240003_2, u240004, u240005, u240006, .int .i64 x240007_2] 39 (0, 0)) (by (with_reducible repeat (first | refine blk_drewN ?_ _ | refine blk_drew ?_ | refine blk_alloc ?_ _)); exact BK239.out)) : gb239 ≠ gb269)); have n15_ := As0 ((by rw [hg]; exact Nat.ne_of_gt (blk_lt (g := gb239) (o := .cells #[.int .i64 x240000_2, .int .i64 x240001_2, .int .i64 x240002_2, .int .i64 x240003_2, u240004, u240005, u240006, .int .i64 x240007_2] 39 (0, 0)) (by (with_reducible repeat (first | refine blk_drewN ?_ _ | refine blk_drew ?_ | refine blk_alloc ?_ _)); exact BK239.out)) : gb269 ≠ gb239)); clear HO_240004 HO_240005 HO_240006 HO260 HO263 HO266 BK220 BK239 HB; have HO_240004 := n0_; have HO_240005 := n1_; have HO_240006 := n2_; have HO260 := n3_; have HO263 := n4_; have HO266 := n5_; have BK220 := n6_; have BK239 := n7_; have HB := n8_; have BK269 := n9_; have GW269 := n10_; have GE269 := n11_; have NB220_269 := n12_; have NB269_220 := n13_; have NB239_269 := n14_; have NB269_239 := n15_; clear n0_ n1_ n2_ n3_ n4_ n5_ n6_ n7_ n8_ n9_ n10_ n11_ n12_ n13_ n14_ n15_ hb hbox hg; have hnb73 := NB269_220.out; have hnc73 := NB220_269.out; have hnb74 := NB269_239.out; have hnc74 := NB239_269.out; have hcz75_0 : w72.cell? ⟨gb269, 0, none⟩ = some (.int .i64 0) := (blk_cell BK269.out 0).trans rfl; have hcz75_1 : w72.cell? ⟨gb269, 1, none⟩ = some (.int .i64 0) := (blk_cell BK269.out 1).trans rfl; have hcz75_2 : w72.cell? ⟨gb269, 2, none⟩ = some (.int .i64 0) := (blk_cell BK269.out 2).trans rfl; have hcz75_3 : w72.cell? ⟨gb269, 3, none⟩ = some (.int .i64 0) := (blk_cell BK269.out 3).trans rfl; have hcz75_4 : w72.cell? ⟨gb269, 4, none⟩ = some (.slice none 0 0) := (blk_cell BK269.out 4).trans rfl; have hcz75_5 : w72.cell? ⟨gb269, 5, none⟩ = some (.slice none 0 0) := (blk_cell BK269.out 5).trans rfl; have hcz75_6 : w72.cell? ⟨gb269, 6, none⟩ = some (.slice none 0 0) := (blk_cell BK269.out 6).trans rfl; have hcz75_7 : w72.cell? ⟨gb269, 7, none⟩ = some (.int .i64 0) := (blk_cell BK269.out 7).trans rfl; have hfz75_0 := blk_frozen BK269.out 0; have hfz75_1 := blk_frozen BK269.out 1; have hfz75_2 := blk_frozen BK269.out 2; have hfz75_3 := blk_frozen BK269.out 3; have hfz75_4 := blk_frozen BK269.out 4; have hfz75_5 := blk_frozen BK269.out 5; have hfz75_6 := blk_frozen BK269.out 6; have hfz75_7 := blk_frozen BK269.out 7; obtain ⟨Ao76, co76, eo76⟩ := Kd.R_slice HO260.out; subst eo76; obtain ⟨Ao77, co77, eo77⟩ := Kd.R_slice HO263.out; subst eo77; obtain ⟨Ao78, co78, eo78⟩ := Kd.R_slice HO266.out; subst eo78; have hcz79_0 : w72.cell? ⟨gb239, 0, none⟩ = some (.int .i64 x240000_2) := (blk_cell BK239.out 0).trans rfl; have hcz79_1 : w72.cell? ⟨gb239, 1, none⟩ = some (.int .i64 x240001_2) := (blk_cell BK239.out 1).trans rfl; have hcz79_2 : w72.cell? ⟨gb239, 2, none⟩ = some (.int .i64 x240002_2) := (blk_cell BK239.out 2).trans rfl; have hcz79_3 : w72.cell? ⟨gb239, 3, none⟩ = some (.int .i64 x240003_2) := (blk_cell BK239.out 3).trans rfl; have hcz79_4 : w72.cell? ⟨gb239, 4, none⟩ = some (u240004) := (blk_cell BK239.out 4).trans rfl; have hcz79_5 : w72.cell? ⟨gb239, 5, none⟩ = some (u240005) := (blk_cell BK239.out 5).trans rfl; have hcz79_6 : w72.cell? ⟨gb239, 6, none⟩ = some (u240006) := (blk_cell BK239.out 6).trans rfl; have hcz79_7 : w72.cell? ⟨gb239, 7, none⟩ = some (.int .i64 x240007_2) := (blk_cell BK239.out 7).trans rfl; have hfz79_0 := blk_frozen BK239.out 0; have hfz79_1 := blk_frozen BK239.out 1; have hfz79_2 := blk_frozen BK239.out 2; have hfz79_3 := blk_frozen BK239.out 3; have hfz79_4 := blk_frozen BK239.out 4; have hfz79_5 := blk_frozen BK239.out 5; have hfz79_6 := blk_frozen BK239.out 6; have hfz79_7 := blk_frozen BK239.out 7; obtain ⟨Ao80, co80, eo80⟩ := Kd.R_slice HO_240004.out; subst eo80; obtain ⟨Ao81, co81, eo81⟩ := Kd.R_slice HO_240005.out; subst eo81; obtain ⟨Ao82, co82, eo82⟩ := Kd.R_slice HO_240006.out; subst eo82) | ((with_reducible refine gate_callee (f := 33) rfl ?_); refine goesL_ (some 82) rfl rfl Try.func33 (by kernel_rfl) rfl #[.agg #[.int .i64 x240000_2, .int .i64 x240001_2, .int .i64 x240002_2, .int .i64 x240003_2, .slice Ao80 x240004_2.length co80, .slice Ao81 x240005_2.length co81, .slice Ao82 x240006_2.length co82, .int .i64 x240007_2], .agg #[.int .i64 t254, .int .i64 t255, .int .i64 t256, .int .i64 t257, .slice Ao76 t258.length co76, .slice Ao77 t261.length co77, .slice Ao78 t264.length co78, .int .i64 t267]] rfl (by (try simp only [List.map_toArray, List.map_cons, List.map_nil]); first | done | rfl | (simp only [List.length_drop, List.length_take]; rfl)) ?_; (with_reducible refine (regcertref09_Same.calls k2 x240000_2 x240001_2 x240002_2 x240003_2 _ _ x240004_2 _ _ x240005_2 _ _ x240006_2 x240007_2 t254 t255 t256 t257 _ _ t258 _ _ t261 _ _ t264 t267 t270 _ ?side1 ?side2 ?side3 ?side4 ?side5 ?side6 ?side7 ?side8 ?side9 ?side10 ?side11 ?side12 A68.out).mono ?_); (case side1 => refine (Kd.R_reads' (e := 2) (base := w.heap.size) (ok := fun k_ => ((((some k_ ≠ (.slice Ao81 x240005_2.length co81 : Value).ownBlock ∧ some k_ ≠ (.slice Ao82 x240006_2.length co82 : Value).ownBlock) ∧ some k_ ≠ (.slice Ao76 t258.length co76 : Value).ownBlock) ∧ some k_ ≠ (.slice Ao77 t261.length co77 : Value).ownBlock) ∧ some k_ ≠ (.slice Ao78 t264.length co78 : Value).ownBlock)) (n := x240004_2.length) (c := co80) ?_).2.2; exact (by (with_reducible repeat (first | apply Kd.R_alloc | apply Kd.R_drewN | apply Kd.R_drew)); exact (Kd.R_mono (RF gb269 7 (RF gb269 6 (RF gb269 5 (RF gb269 4 (RF gb269 3 (RF gb269 2 (RF gb269 1 (RF gb269 0 (Kd.R_types HO_240004.out BK269.out (by decide)) (.int .i64 t254)) (.int .i64 t255)) (.int .i64 t256)) (.int .i64 t257)) (.slice Ao76 t258.length co76)) (.slice Ao77 t261.length co77)) (.slice Ao78 t264.length co78)) (.int .i64 t267)) (fun _ h_ => h_.1)))); (case side2 => exact (Kd.R_reads' HO_240004.out).2.1); (case side3 => refine (Kd.R_reads' (e := 2) (base := w.heap.size) (ok := fun k_ => ((((some k_ ≠ (.slice Ao80 x240004_2.length co80 : Value).ownBlock ∧ some k_ ≠ (.slice Ao82 x240006_2.length co82 : Value).ownBlock) ∧ some k_ ≠ (.slice Ao76 t258.length co76 : Value).ownBlock) ∧ some k_ ≠ (.slice Ao77 t261.length co77 : Value).ownBlock) ∧ some k_ ≠ (.slice Ao78 t264.length co78 : Value).ownBlock)) (n := x240005_2.length) (c := co81) ?_).2.2; exact (by (with_reducible repeat (first | apply Kd.R_alloc | apply Kd.R_drewN | apply Kd.R_drew)); exact (Kd.R_mono (RF gb269 7 (RF gb269 6 (RF gb269 5 (RF gb269 4 (RF gb269 3 (RF gb269 2 (RF gb269 1 (RF gb269 0 (Kd.R_types HO_240005.out BK269.out (by decide)) (.int .i64 t254)) (.int .i64 t255)) (.int .i64 t256)) (.int .i64 t257)) (.slice Ao76 t258.length co76)) (.slice Ao77 t261.length co77)) (.slice Ao78 t264.length co78)) (.int .i64 t267)) (fun _ h_ => h_.1)))); (case side4 => exact (Kd.R_reads' HO_240005.out).2.1); (case side5 => refine (Kd.R_reads' (e := 2) (base := w.heap.size) (ok := fun k_ => ((((some k_ ≠ (.slice Ao80 x240004_2.length co80 : Value).ownBlock ∧ some k_ ≠ (.slice Ao81 x240005_2.length co81 : Value).ownBlock) ∧ some k_ ≠ (.slice Ao76 t258.length co76 : Value).ownBlock) ∧ some k_ ≠ (.slice Ao77 t261.length co77 : Value).ownBlock) ∧ some k_ ≠ (.slice Ao78 t264.length co78 : Value).ownBlock)) (n := x240006_2.length) (c := co82) ?_).2.2; exact (by (with_reducible repeat (first | apply Kd.R_alloc | apply Kd.R_drewN | apply Kd.R_drew)); exact (Kd.R_mono (RF gb269 7 (RF gb269 6 (RF gb269 5 (RF gb269 4 (RF gb269 3 (RF gb269 2 (RF gb269 1 (RF gb269 0 (Kd.R_types HO_240006.out BK269.out (by decide)) (.int .i64 t254)) (.int .i64 t255)) (.int .i64 t256)) (.int .i64 t257)) (.slice Ao76 t258.length co76)) (.slice Ao77 t261.length co77)) (.slice Ao78 t264.length co78)) (.int .i64 t267)) (fun _ h_ => h_.1)))); (case side6 => exact (Kd.R_reads' HO_240006.out).2.1); (case side7 => refine (Kd.R_reads' (e := 2) (base := w.heap.size) (ok := fun k_ => ((((some k_ ≠ (.slice Ao77 t261.length co77 : Value).ownBlock ∧ some k_ ≠ (.slice Ao78 t264.length co78 : Value).ownBlock) ∧ some k_ ≠ (.slice Ao80 x240004_2.length co80 : Value).ownBlock) ∧ some k_ ≠ (.slice Ao81 x240005_2.length co81 : Value).ownBlock) ∧ some k_ ≠ (.slice Ao82 x240006_2.length co82 : Value).ownBlock)) (n := t258.length) (c := co76) ?_).2.2; exact (by (with_reducible repeat (first | apply Kd.R_alloc | apply Kd.R_drewN | apply Kd.R_drew)); exact (Kd.R_mono (RF gb269 7 (RF gb269 6 (RF gb269 5 (RF gb269 4 (RF gb269 3 (RF gb269 2 (RF gb269 1 (RF gb269 0 (Kd.R_types HO260.out BK269.out (by decide)) (.int .i64 t254)) (.int .i64 t255)) (.int .i64 t256)) (.int .i64 t257)) (.slice Ao76 t258.length co76)) (.slice Ao77 t261.length co77)) (.slice Ao78 t264.length co78)) (.int .i64 t267)) (fun _ h_ => h_.1)))); (case side8 => exact (Kd.R_reads' HO260.out).2.1); (case side9 => refine (Kd.R_reads' (e := 2) (base := w.heap.size) (ok := fun k_ => ((((some k_ ≠ (.slice Ao76 t258.length co76 : Value).ownBlock ∧ some k_ ≠ (.slice Ao78 t264.length co78 : Value).ownBlock) ∧ some k_ ≠ (.slice Ao80 x240004_2.length co80 : Value).ownBlock) ∧ some k_ ≠ (.slice Ao81 x240005_2.length co81 : Value).ownBlock) ∧ some k_ ≠ (.slice Ao82 x240006_2.length co82 : Value).ownBlock)) (n := t261.length) (c := co77) ?_).2.2; exact (by (with_reducible repeat (first | apply Kd.R_alloc | apply Kd.R_drewN | apply Kd.R_drew)); exact (Kd.R_mono (RF gb269 7 (RF gb269 6 (RF gb269 5 (RF gb269 4 (RF gb269 3 (RF gb269 2 (RF gb269 1 (RF gb269 0 (Kd.R_types HO263.out BK269.out (by decide)) (.int .i64 t254)) (.int .i64 t255)) (.int .i64 t256)) (.int .i64 t257)) (.slice Ao76 t258.length co76)) (.slice Ao77 t261.length co77)) (.slice Ao78 t264.length co78)) (.int .i64 t267)) (fun _ h_ => h_.1)))); (case side10 => exact (Kd.R_reads' HO263.out).2.1); (case side11 => refine (Kd.R_reads' (e := 2) (base := w.heap.size) (ok := fun k_ => ((((some k_ ≠ (.slice Ao76 t258.length co76 : Value).ownBlock ∧ some k_ ≠ (.slice Ao77 t261.length co77 : Value).ownBlock) ∧ some k_ ≠ (.slice Ao80 x240004_2.length co80 : Value).ownBlock) ∧ some k_ ≠ (.slice Ao81 x240005_2.length co81 : Value).ownBlock) ∧ some k_ ≠ (.slice Ao82 x240006_2.length co82 : Value).ownBlock)) (n := t264.length) (c := co78) ?_).2.2; exact (by (with_reducible repeat (first | apply Kd.R_alloc | apply Kd.R_drewN | apply Kd.R_drew)); exact (Kd.R_mono (RF gb269 7 (RF gb269 6 (RF gb269 5 (RF gb269 4 (RF gb269 3 (RF gb269 2 (RF gb269 1 (RF gb269 0 (Kd.R_types HO266.out BK269.out (by decide)) (.int .i64 t254)) (.int .i64 t255)) (.int .i64 t256)) (.int .i64 t257)) (.slice Ao76 t258.length co76)) (.slice Ao77 t261.length co77)) (.slice Ao78 t264.length co78)) (.int .i64 t267)) (fun _ h_ => h_.1)))); (case side12 => exact (Kd.R_reads' HO266.out).2.1); rintro e w83 ⟨rfl, hb⟩; refine ⟨_, rfl, ?_⟩; have n0_ := As0 (Kd.R_below (by (with_reducible repeat (first | apply Kd.R_alloc | apply Kd.R_drewN | apply Kd.R_drew)); exact (Kd.R_mono (RF gb269 7 (RF gb269 6 (RF gb269 5 (RF gb269 4 (RF gb269 3 (RF gb269 2 (RF gb269 1 (RF gb269 0 (Kd.R_types HO_240004.out BK269.out (by decide)) (.int .i64 t254)) (.int .i64 t255)) (.int .i64 t256)) (.int .i64 t257)) (.slice Ao76 t258.length co76)) (.slice Ao77 t261.length co77)) (.slice Ao78 t264.length co78)) (.int .i64 t267)) (fun _ h_ => h_.1))) hb); have n1_ := As0 (Kd.R_below (by (with_reducible repeat (first | apply Kd.R_alloc | apply Kd.R_drewN | apply Kd.R_drew)); exact (Kd.R_mono (RF gb269 7 (RF gb269 6 (RF gb269 5 (RF gb269 4 (RF gb269 3 (RF gb269 2 (RF gb269 1 (RF gb269 0 (Kd.R_types HO_240005.out BK269.out (by decide)) (.int .i64 t254)) (.int .i64 t255)) (.int .i64 t256)) (.int .i64 t257)) (.slice Ao76 t258.length co76)) (.slice Ao77 t261.length co77)) (.slice Ao78 t264.length co78)) (.int .i64 t267)) (fun _ h_ => h_.1))) hb); have n2_ := As0 (Kd.R_below (by (with_reducible repeat (first | apply Kd.R_alloc | apply Kd.R_drewN | apply Kd.R_drew)); exact (Kd.R_mono (RF gb269 7 (RF gb269 6 (RF gb269 5 (RF gb269 4 (RF gb269 3 (RF gb269 2 (RF gb269 1 (RF gb269 0 (Kd.R_types HO_240006.out BK269.out (by decide)) (.int .i64 t254)) (.int .i64 t255)) (.int .i64 t256)) (.int .i64 t257)) (.slice Ao76 t258.length co76)) (.slice Ao77 t261.length co77)) (.slice Ao78 t264.length co78)) (.int .i64 t267)) (fun _ h_ => h_.1))) hb); have n3_ := As0 (Kd.R_below (by (with_reducible repeat (first | apply Kd.R_alloc | apply Kd.R_drewN | apply Kd.R_drew)); exact (Kd.R_mono (RF gb269 7 (RF gb269 6 (RF gb269 5 (RF gb269 4 (RF gb269 3 (RF gb269 2 (RF gb269 1 (RF gb269 0 (Kd.R_types HO260.out BK269.out (by decide)) (.int .i64 t254)) (.int .i64 t255)) (.int .i64 t256)) (.int .i64 t257)) (.slice Ao76 t258.length co76)) (.slice Ao77 t261.length co77)) (.slice Ao78 t264.length co78)) (.int .i64 t267)) (fun _ h_ => h_.1))) hb); have n4_ := As0 (Kd.R_below (by (with_reducible repeat (first | apply Kd.R_alloc | apply Kd.R_drewN | apply Kd.R_drew)); exact (Kd.R_mono (RF gb269 7 (RF gb269 6 (RF gb269 5 (RF gb269 4 (RF gb269 3 (RF gb269 2 (RF gb269 1 (RF gb269 0 (Kd.R_types HO263.out BK269.out (by decide)) (.int .i64 t254)) (.int .i64 t255)) (.int .i64 t256)) (.int .i64 t257)) (.slice Ao76 t258.length co76)) (.slice Ao77 t261.length co77)) (.slice Ao78 t264.length co78)) (.int .i64 t267)) (fun _ h_ => h_.1))) hb); have n5_ := As0 (Kd.R_below (by (with_reducible repeat (first | apply Kd.R_alloc | apply Kd.R_drewN | apply Kd.R_drew)); exact (Kd.R_mono (RF gb269 7 (RF gb269 6 (RF gb269 5 (RF gb269 4 (RF gb269 3 (RF gb269 2 (RF gb269 1 (RF gb269 0 (Kd.R_types HO266.out BK269.out (by decide)) (.int .i64 t254)) (.int .i64 t255)) (.int .i64 t256)) (.int .i64 t257)) (.slice Ao76 t258.length co76)) (.slice Ao77 t261.length co77)) (.slice Ao78 t264.length co78)) (.int .i64 t267)) (fun _ h_ => h_.1))) hb); have n6_ := As0 (blk_below (g := gb220) (o := .cells #[.int .i64 a0_0, .int .i64 a0_1, .int .i64 a0_2, .slice A0_3 l0_3.length c0_3] 63 (0, 0)) (by (with_reducible repeat (first | refine blk_drewN ?_ _ | refine blk_drew ?_ | refine blk_alloc ?_ _)); refine blk_far ?_ NB220_269.out _; (with_reducible repeat (first | refine blk_drewN ?_ _ | refine blk_drew ?_ | refine blk_alloc ?_ _)); refine blk_far ?_ NB220_269.out _; (with_reducible repeat (first | refine blk_drewN ?_ _ | refine blk_drew ?_ | refine blk_alloc ?_ _)); refine blk_far ?_ NB220_269.out _; (with_reducible repeat (first | refine blk_drewN ?_ _ | refine blk_drew ?_ | refine blk_alloc ?_ _)); refine blk_far ?_ NB220_269.out _; (with_reducible repeat (first | refine blk_drewN ?_ _ | refine blk_drew ?_ | refine blk_alloc ?_ _)); refine blk_far ?_ NB220_269.out _; (with_reducible repeat (first | refine blk_drewN ?_ _ | refine blk_drew ?_ | refine blk_alloc ?_ _)); refine blk_far ?_ NB220_269.out _; (with_reducible repeat (first | refine blk_drewN ?_ _ | refine blk_drew ?_ | refine blk_alloc ?_ _)); refine blk_far ?_ NB220_269.out _; (with_reducible repeat (first | refine blk_drewN ?_ _ | refine blk_drew ?_ | refine blk_alloc ?_ _)); refine blk_far ?_ NB220_269.out _; (with_reducible repeat (first | refine blk_drewN ?_ _ | refine blk_drew ?_ | refine blk_alloc ?_ _)); exact BK220.out) hb); have n7_ := As0 (blk_below (g := gb239) (o := .cells #[.int .i64 x240000_2, .int .i64 x240001_2, .int .i64 x240002_2, .int .i64 x240003_2, .slice Ao80 x240004_2.length co80, .slice Ao81 x240005_2.length co81, .slice Ao82 x240006_2.length co82, .int .i64 x240007_2] 39 (0, 0)) (by (with_reducible repeat (first | refine blk_drewN ?_ _ | refine blk_drew ?_ | refine blk_alloc ?_ _)); refine blk_far ?_ NB239_269.out _; (with_reducible repeat (first | refine blk_drewN ?_ _ | refine blk_drew ?_ | refine blk_alloc ?_ _)); refine blk_far ?_ NB239_269.out _; (with_reducible repeat (first | refine blk_drewN ?_ _ | refine blk_drew ?_ | refine blk_alloc ?_ _)); refine blk_far ?_ NB239_269.out _; (with_reducible repeat (first | refine blk_drewN ?_ _ | refine blk_drew ?_ | refine blk_alloc ?_ _)); refine blk_far ?_ NB239_269.out _; (with_reducible repeat (first | refine blk_drewN ?_ _ | refine blk_drew ?_ | refine blk_alloc ?_ _)); refine blk_far ?_ NB239_269.out _; (with_reducible repeat (first | refine blk_drewN ?_ _ | refine blk_drew ?_ | refine blk_alloc ?_ _)); refine blk_far ?_ NB239_269.out _; (with_reducible repeat (first | refine blk_drewN ?_ _ | refine blk_drew ?_ | refine blk_alloc ?_ _)); refine blk_far ?_ NB239_269.out _; (with_reducible repeat (first | refine blk_drewN ?_ _ | refine blk_drew ?_ | refine blk_alloc ?_ _)); refine blk_far ?_ NB239_269.out _; (with_reducible repeat (first | refine blk_drewN ?_ _ | refine blk_drew ?_ | refine blk_alloc ?_ _)); exact BK239.out) hb); have n8_ := As0 (blk_below (g := gb269) (o := .cells #[.int .i64 t254, .int .i64 t255, .int .i64 t256, .int .i64 t257, .slice Ao76 t258.length co76, .slice Ao77 t261.length co77, .slice Ao78 t264.length co78, .int .i64 t267] 39 (0, 0)) (by (with_reducible repeat (first | refine blk_drewN ?_ _ | refine blk_drew ?_ | refine blk_alloc ?_ _)); refine blk_put (cs := #[.int .i64 t254, .int .i64 t255, .int .i64 t256, .int .i64 t257, .slice Ao76 t258.length co76, .slice Ao77 t261.length co77, .slice Ao78 t264.length co78, .int .i64 0]) ?_ 7 _ rfl; (with_reducible repeat (first | refine blk_drewN ?_ _ | refine blk_drew ?_ | refine blk_alloc ?_ _)); refine blk_put (cs := #[.int .i64 t254, .int .i64 t255, .int .i64 t256, .int .i64 t257, .slice Ao76 t258.length co76, .slice Ao77 t261.length co77, .slice none 0 0, .int .i64 0]) ?_ 6 _ rfl; (with_reducible repeat (first | refine blk_drewN ?_ _ | refine blk_drew ?_ | refine blk_alloc ?_ _)); refine blk_put (cs := #[.int .i64 t254, .int .i64 t255, .int .i64 t256, .int .i64 t257, .slice Ao76 t258.length co76, .slice none 0 0, .slice none 0 0, .int .i64 0]) ?_ 5 _ rfl; (with_reducible repeat (first | refine blk_drewN ?_ _ | refine blk_drew ?_ | refine blk_alloc ?_ _)); refine blk_put (cs := #[.int .i64 t254, .int .i64 t255, .int .i64 t256, .int .i64 t257, .slice none 0 0, .slice none 0 0, .slice none 0 0, .int .i64 0]) ?_ 4 _ rfl; (with_reducible repeat (first | refine blk_drewN ?_ _ | refine blk_drew ?_ | refine blk_alloc ?_ _)); refine blk_put (cs := #[.int .i64 t254, .int .i64 t255, .int .i64 t256, .int .i64 0, .slice none 0 0, .slice none 0 0, .slice none 0 0, .int .i64 0]) ?_ 3 _ rfl; (with_reducible repeat (first | refine blk_drewN ?_ _ | refine blk_drew ?_ | refine blk_alloc ?_ _)); refine blk_put (cs := #[.int .i64 t254, .int .i64 t255, .int .i64 0, .int .i64 0, .slice none 0 0, .slice none 0 0, .slice none 0 0, .int .i64 0]) ?_ 2 _ rfl; (with_reducible repeat (first | refine blk_drewN ?_ _ | refine blk_drew ?_ | refine blk_alloc ?_ _)); refine blk_put (cs := #[.int .i64 t254, .int .i64 0, .int .i64 0, .int .i64 0, .slice none 0 0, .slice none 0 0, .slice none 0 0, .int .i64 0]) ?_ 1 _ rfl; (with_reducible repeat (first | refine blk_drewN ?_ _ | refine blk_drew ?_ | refine blk_alloc ?_ _)); refine blk_put (cs := #[.int .i64 0, .int .i64 0, .int .i64 0, .int .i64 0, .slice none 0 0, .slice none 0 0, .slice none 0 0, .int .i64 0]) ?_ 0 _ rfl; (with_reducible repeat (first | refine blk_drewN ?_ _ | refine blk_drew ?_ | refine blk_alloc ?_ _)); exact BK269.out) hb); have n9_ := As0 (below_step (by repeat (first | (with_reducible first | exact HB.out | apply below_alloc | apply bdN | apply bd1 | refine below_set ?_ GE220.out | refine below_set ?_ GE239.out | refine below_set ?_ GE269.out) | exact HB.out)) hb); clear HO_240004 HO_240005 HO_240006 HO260 HO263 HO266 BK220 BK239 BK269 HB; have HO_240004 := n0_; have HO_240005 := n1_; have HO_240006 := n2_; have HO260 := n3_; have HO263 := n4_; have HO266 := n5_; have BK220 := n6_; have BK239 := n7_; have BK269 := n8_; have HB := n9_; clear n0_ n1_ n2_ n3_ n4_ n5_ n6_ n7_ n8_ n9_; (try clear hb); (try clear hb2); (try clear hk); (try clear hi)))
       go_ret
       exact ⟨by first | rfl | (simp [errW_none, errW_some] <;> rfl) | (simp [*, errW_none, errW_some] <;> rfl), by repeat (first | (with_reducible first | exact HB.out | apply below_alloc | apply bdN | apply bd1 | refine below_set ?_ GE220.out | refine below_set ?_ GE239.out | refine below_set ?_ GE269.out) | exact HB.out)⟩

end Go.Proofs.Ytgkmagfajalnhaa.E
