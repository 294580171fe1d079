-- Written by a program of this session (xprint), out of the translation. Not trusted: Lean checks it.
import Derived.Test.YtgkmagfajalnhaaSE0
import Derived.Test.YtgkmagfajalnhaaSEAwk
import Derived.Test.YtgkmagfajalnhaaSEChk
import Derived.Test.YtgkmagfajalnhaaSEPrefix
namespace Go.Proofs.Ytgkmagfajalnhaa.E
open Go.RowKit Go.Proofs.YtgkmagfajalnhaaW.PrintWords Go.Proofs.YtgkmagfajalnhaaW.PrintLast Go.Proofs.YtgkmagfajalnhaaW.PrintMore
attribute [local go_sem] max2_int min2_int max_two min_two max_three min_three max_four min_four   -- for this text's walks alone
set_option linter.unusedVariables false
set_option linter.unusedSimpArgs false

/-! ### regcertlaw10_ExecuteFuel: function 13 -/
mutual
def regcertlaw10_ExecuteFuel.j0 : Nat → List Int → Int → Int → Bool → Int → Int → Int → List (S69) → Option (Bool)
 | 0, _, _, _, _, _, _, _, _ => none
 | k + 1, x1, x2, x3, x29, x221000, x221001, x221002, x221003 => if x29 = true then ((regcertlaw10_awake.f k).bind fun t223 => (some t223)) else ((execute_Exec.f k x221000 x221001 x221002 x221003 x1 (Int.tmod (wrap64 (x2)) 200)).bind fun bt224 => ((execute_Exec.f k x221000 x221001 x221002 x221003 x1 (wrap64 ((Int.tmod (wrap64 (x2)) 200) + (Int.tmod (wrap64 (x3)) 200)))).bind fun bt240 => (if bt224.2.2.2.2.2.2.2.1 > (Int.tmod (wrap64 (x2)) 200) then (regcertlaw10_ExecuteFuel.j1 k true bt224.1 bt224.2.1 bt224.2.2.1 bt224.2.2.2.1 bt224.2.2.2.2.1 bt224.2.2.2.2.2.1 bt224.2.2.2.2.2.2.1 bt224.2.2.2.2.2.2.2.1 bt240.1 bt240.2.1 bt240.2.2.1 bt240.2.2.2.1 bt240.2.2.2.2.1 bt240.2.2.2.2.2.1 bt240.2.2.2.2.2.2.1 bt240.2.2.2.2.2.2.2.1) else (if bt240.2.2.2.2.2.2.2.1 > (wrap64 ((Int.tmod (wrap64 (x2)) 200) + (Int.tmod (wrap64 (x3)) 200))) then (regcertlaw10_ExecuteFuel.j1 k true bt224.1 bt224.2.1 bt224.2.2.1 bt224.2.2.2.1 bt224.2.2.2.2.1 bt224.2.2.2.2.2.1 bt224.2.2.2.2.2.2.1 bt224.2.2.2.2.2.2.2.1 bt240.1 bt240.2.1 bt240.2.2.1 bt240.2.2.2.1 bt240.2.2.2.2.1 bt240.2.2.2.2.2.1 bt240.2.2.2.2.2.2.1 bt240.2.2.2.2.2.2.2.1) else ((regcertref09_Prefix.f k bt224.2.2.2.2.2.2.1 bt240.2.2.2.2.2.2.1).bind fun t256 => (if t256 = true then (if bt224.1 = 0 then (regcertlaw10_ExecuteFuel.j1 k (bt224.2.2.2.2.2.2.2.1 != (Int.tmod (wrap64 (x2)) 200)) bt224.1 bt224.2.1 bt224.2.2.1 bt224.2.2.2.1 bt224.2.2.2.2.1 bt224.2.2.2.2.2.1 bt224.2.2.2.2.2.2.1 bt224.2.2.2.2.2.2.2.1 bt240.1 bt240.2.1 bt240.2.2.1 bt240.2.2.2.1 bt240.2.2.2.2.1 bt240.2.2.2.2.2.1 bt240.2.2.2.2.2.2.1 bt240.2.2.2.2.2.2.2.1) else (regcertlaw10_ExecuteFuel.j1 k false bt224.1 bt224.2.1 bt224.2.2.1 bt224.2.2.2.1 bt224.2.2.2.2.1 bt224.2.2.2.2.2.1 bt224.2.2.2.2.2.2.1 bt224.2.2.2.2.2.2.2.1 bt240.1 bt240.2.1 bt240.2.2.1 bt240.2.2.2.1 bt240.2.2.2.2.1 bt240.2.2.2.2.2.1 bt240.2.2.2.2.2.2.1 bt240.2.2.2.2.2.2.2.1)) else (regcertlaw10_ExecuteFuel.j1 k true bt224.1 bt224.2.1 bt224.2.2.1 bt224.2.2.2.1 bt224.2.2.2.2.1 bt224.2.2.2.2.2.1 bt224.2.2.2.2.2.2.1 bt224.2.2.2.2.2.2.2.1 bt240.1 bt240.2.1 bt240.2.2.1 bt240.2.2.2.1 bt240.2.2.2.2.1 bt240.2.2.2.2.2.1 bt240.2.2.2.2.2.2.1 bt240.2.2.2.2.2.2.2.1)))))))
def regcertlaw10_ExecuteFuel.j1 : Nat → Bool → Int → Int → Int → Int → List Int → List Int → List Int → Int → Int → Int → Int → Int → List Int → List Int → List Int → Int → Option (Bool)
 | 0, _, _, _, _, _, _, _, _, _, _, _, _, _, _, _, _, _ => none
 | k + 1, x81, x240000, x240001, x240002, x240003, x240004, x240005, x240006, x240007, x256000, x256001, x256002, x256003, x256004, x256005, x256006, x256007 => if x81 = true then (none) else (if x240000 = 0 then (if x256007 ≥ x240007 then (some true) else ((regcertref09_Same.f k x240000 x240001 x240002 x240003 x240004 x240005 x240006 x240007 x256000 x256001 x256002 x256003 x256004 x256005 x256006 x256007).bind fun t257 => (some t257))) else ((regcertref09_Same.f k x240000 x240001 x240002 x240003 x240004 x240005 x240006 x240007 x256000 x256001 x256002 x256003 x256004 x256005 x256006 x256007).bind fun t258 => (some t258)))
end
def regcertlaw10_ExecuteFuel.f (k : Nat) (a0_0 : Int) (a0_1 : Int) (a0_2 : Int) (l0_3 : List (S69)) (l1 : List Int) (a2 : Int) (a3 : Int) : Option (Bool) := (regcertlaw10_awake.f k).bind fun t221 => (if t221 = true then ((regcertref10_Right.f k a0_0 a0_1 a0_2 l0_3 l1 0).bind fun t222 => (if t222 = true then (regcertlaw10_ExecuteFuel.j0 k l1 a2 a3 ((l1.length : Int) != a0_0) a0_0 a0_1 a0_2 l0_3) else (regcertlaw10_ExecuteFuel.j0 k l1 a2 a3 true a0_0 a0_1 a0_2 l0_3))) else (regcertlaw10_ExecuteFuel.j0 k l1 a2 a3 true a0_0 a0_1 a0_2 l0_3))
theorem regcertlaw10_ExecuteFuel.mono_l : ∀ k, (∀ y0 y1 y2 y3 y4 y5 y6 y7, LeO (regcertlaw10_ExecuteFuel.j0 k y0 y1 y2 y3 y4 y5 y6 y7) (regcertlaw10_ExecuteFuel.j0 (k + 1) y0 y1 y2 y3 y4 y5 y6 y7)) ∧ (∀ y0 y1 y2 y3 y4 y5 y6 y7 y8 y9 y10 y11 y12 y13 y14 y15 y16, LeO (regcertlaw10_ExecuteFuel.j1 k y0 y1 y2 y3 y4 y5 y6 y7 y8 y9 y10 y11 y12 y13 y14 y15 y16) (regcertlaw10_ExecuteFuel.j1 (k + 1) y0 y1 y2 y3 y4 y5 y6 y7 y8 y9 y10 y11 y12 y13 y14 y15 y16))
 | 0 => ⟨fun _ _ _ _ _ _ _ _ r h => by simp [regcertlaw10_ExecuteFuel.j0] at h, fun _ _ _ _ _ _ _ _ _ _ _ _ _ _ _ _ _ r h => by simp [regcertlaw10_ExecuteFuel.j1] at h⟩
 | k + 1 => by
  obtain ⟨ih0, ih1⟩ := regcertlaw10_ExecuteFuel.mono_l k
  refine ⟨?_, ?_⟩
  ·intro y0 y1 y2 y3 y4 y5 y6 y7
   unfold regcertlaw10_ExecuteFuel.j0
   repeat' first
   | (with_reducible exact ih0 _ _ _ _ _ _ _ _)
   | (with_reducible exact ih1 _ _ _ _ _ _ _ _ _ _ _ _ _ _ _ _ _)
   | (with_reducible exact execute_Exec.mono _ _ _ _ _ _ _)
   | (with_reducible exact regcertlaw10_awake.mono _)
   | (with_reducible exact regcertref09_Prefix.mono _ _ _)
   | (with_reducible exact regcertref09_Same.mono _ _ _ _ _ _ _ _ _ _ _ _ _ _ _ _ _)
   | (with_reducible exact regcertref10_Right.mono _ _ _ _ _ _ _)
   | (with_reducible exact LeO.refl _)
   | (with_reducible exact LeO.none _)
   | (with_reducible refine LeO.ite ?_ ?_)
   | (with_reducible refine LeO.bind ?_ (fun _ => ?_))
   | exact ih0 _ _ _ _ _ _ _ _
   | exact ih1 _ _ _ _ _ _ _ _ _ _ _ _ _ _ _ _ _
   | exact execute_Exec.mono _ _ _ _ _ _ _
   | exact regcertlaw10_awake.mono _
   | exact regcertref09_Prefix.mono _ _ _
   | exact regcertref09_Same.mono _ _ _ _ _ _ _ _ _ _ _ _ _ _ _ _ _
   | exact regcertref10_Right.mono _ _ _ _ _ _ _
   | exact LeO.none _
   | refine LeO.ite ?_ ?_
   | refine LeO.bind ?_ (fun _ => ?_)
  ·intro y0 y1 y2 y3 y4 y5 y6 y7 y8 y9 y10 y11 y12 y13 y14 y15 y16
   unfold regcertlaw10_ExecuteFuel.j1
   repeat' first
   | (with_reducible exact ih0 _ _ _ _ _ _ _ _)
   | (with_reducible exact ih1 _ _ _ _ _ _ _ _ _ _ _ _ _ _ _ _ _)
   | (with_reducible exact execute_Exec.mono _ _ _ _ _ _ _)
   | (with_reducible exact regcertlaw10_awake.mono _)
   | (with_reducible exact regcertref09_Prefix.mono _ _ _)
   | (with_reducible exact regcertref09_Same.mono _ _ _ _ _ _ _ _ _ _ _ _ _ _ _ _ _)
   | (with_reducible exact regcertref10_Right.mono _ _ _ _ _ _ _)
   | (with_reducible exact LeO.refl _)
   | (with_reducible exact LeO.none _)
   | (with_reducible refine LeO.ite ?_ ?_)
   | (with_reducible refine LeO.bind ?_ (fun _ => ?_))
   | exact ih0 _ _ _ _ _ _ _ _
   | exact ih1 _ _ _ _ _ _ _ _ _ _ _ _ _ _ _ _ _
   | exact execute_Exec.mono _ _ _ _ _ _ _
   | exact regcertlaw10_awake.mono _
   | exact regcertref09_Prefix.mono _ _ _
   | exact regcertref09_Same.mono _ _ _ _ _ _ _ _ _ _ _ _ _ _ _ _ _
   | exact regcertref10_Right.mono _ _ _ _ _ _ _
   | exact LeO.none _
   | refine LeO.ite ?_ ?_
   | refine LeO.bind ?_ (fun _ => ?_)
theorem regcertlaw10_ExecuteFuel.mono : ∀ a0 a1 a2 a3 a4 a5 a6 k, LeO (regcertlaw10_ExecuteFuel.f k a0 a1 a2 a3 a4 a5 a6) (regcertlaw10_ExecuteFuel.f (k + 1) a0 a1 a2 a3 a4 a5 a6) := by
 intro a0 a1 a2 a3 a4 a5 a6 k
 obtain ⟨ih0, ih1⟩ := regcertlaw10_ExecuteFuel.mono_l k
 unfold regcertlaw10_ExecuteFuel.f
 repeat' first
   | (with_reducible exact ih0 _ _ _ _ _ _ _ _)
   | (with_reducible exact ih1 _ _ _ _ _ _ _ _ _ _ _ _ _ _ _ _ _)
   | (with_reducible exact execute_Exec.mono _ _ _ _ _ _ _)
   | (with_reducible exact regcertlaw10_awake.mono _)
   | (with_reducible exact regcertref09_Prefix.mono _ _ _)
   | (with_reducible exact regcertref09_Same.mono _ _ _ _ _ _ _ _ _ _ _ _ _ _ _ _ _)
   | (with_reducible exact regcertref10_Right.mono _ _ _ _ _ _ _)
   | (with_reducible exact LeO.refl _)
   | (with_reducible exact LeO.none _)
   | (with_reducible refine LeO.ite ?_ ?_)
   | (with_reducible refine LeO.bind ?_ (fun _ => ?_))
   | exact ih0 _ _ _ _ _ _ _ _
   | exact ih1 _ _ _ _ _ _ _ _ _ _ _ _ _ _ _ _ _
   | exact execute_Exec.mono _ _ _ _ _ _ _
   | exact regcertlaw10_awake.mono _
   | exact regcertref09_Prefix.mono _ _ _
   | exact regcertref09_Same.mono _ _ _ _ _ _ _ _ _ _ _ _ _ _ _ _ _
   | exact regcertref10_Right.mono _ _ _ _ _ _ _
   | exact LeO.none _
   | refine LeO.ite ?_ ?_
   | refine LeO.bind ?_ (fun _ => ?_)
set_option maxHeartbeats 8000000 in
set_option maxRecDepth 100000 in
theorem regcertlaw10_ExecuteFuel.calls (k : Nat) (a0_0 : Int) (a0_1 : Int) (a0_2 : Int) (A0_3 : Option Addr) (c0_3 : Nat) (l0_3 : List (S69)) (A1 : Option Addr) (c1 : Nat) (l1 : List Int) (a2 : Int) (a3 : Int) (r : Bool) (w : World) (hr0_3 : Kd.C k69 w A0_3 l0_3.length l0_3) (hc0_3 : l0_3.length ≤ c0_3) (hr1 : Kd.C (Kd.int .i64) w A1 l1.length l1) (hc1 : l1.length ≤ c1) (h : regcertlaw10_ExecuteFuel.f k a0_0 a0_1 a0_2 l0_3 l1 a2 a3 = some r) :
  Calls Try.prog 13 #[.agg #[.int .i64 a0_0, .int .i64 a0_1, .int .i64 a0_2, .slice A0_3 l0_3.length c0_3], .slice A1 l1.length c1, .int .u16 a2, .int .u16 a3] w fun e w' => e = .returned (.bool r) ∧ Below w.heap.size w w' := by
 have hu63 := Try.underlying63
 have hu39 := Try.underlying39
 have HR0_3 := As0 hr0_3
 have HC0_3 := As0 hc0_3
 clear hr0_3 hc0_3
 have HR1 := As0 hr1
 have HC1 := As0 hc1
 clear hr1 hc1
 have HB := As0 (Below.refl w.heap.size w)
 have H : ((regcertlaw10_awake.f k).bind fun t221 => (if t221 = true then ((regcertref10_Right.f k a0_0 a0_1 a0_2 l0_3 l1 0).bind fun t222 => (if t222 = true then (regcertlaw10_ExecuteFuel.j0 k l1 a2 a3 ((l1.length : Int) != a0_0) a0_0 a0_1 a0_2 l0_3) else (regcertlaw10_ExecuteFuel.j0 k l1 a2 a3 true a0_0 a0_1 a0_2 l0_3))) else (regcertlaw10_ExecuteFuel.j0 k l1 a2 a3 true a0_0 a0_1 a0_2 l0_3))) = some r := h
 clear h
 have HC5 := As0 H
 clear H
 go_enter Try.func13, Try.ntmps13
 go_upto_region 1 with (first | ((with_reducible refine gate_dst (N := 4) rfl ?_); (try (refine gate_guard (by rfl) ?_; dsimp only)); refine box_event ?hg (N := 4) ?hd (cs := #[.int .i64 a0_0, .int .i64 a0_1, .int .i64 a0_2, .slice A0_3 l0_3.length c0_3]) (t := 63) ?hr ?_; (case hd => rfl); (case hg => rfl); (case hr => first | (go_simp; done) | (go_simp; rfl)); intro gb220 hg w6 hbox hb; have n0_ := As0 (below_step (by repeat (first | (with_reducible first | exact HB.out | apply below_alloc | apply bdN | apply bd1) | exact HB.out)) hb); have n1_ := As0 (hbox); have n2_ := As0 ((by rw [hg]; exact (below_size (by repeat (first | (with_reducible first | exact HB.out | apply below_alloc | apply bdN | apply bd1) | exact HB.out))) : w.heap.size ≤ gb220)); have n3_ := As0 ((by rw [hg]; exact (below_size (by repeat (first | (with_reducible first | exact HB.out | apply below_alloc | apply bdN | apply bd1) | exact HB.out))) : w.heap.size ≤ gb220)); clear HB; have HB := n0_; have BK220 := n1_; have GW220 := n2_; have GE220 := n3_; clear n0_ n1_ n2_ n3_ hb hbox hg))
 (try simp only [Act.put, sL1, sL2, sL3])
 go_cut [29] (fun v29 wc => ∃ (kq : Nat) (x29_4 : Bool), v29 = .bool x29_4 ∧ Aside0 (regcertlaw10_ExecuteFuel.j0 kq l1 a2 a3 x29_4 a0_0 a0_1 a0_2 l0_3 = some r) ∧ Aside0 (kq ≤ k) ∧ Aside0 (wc.heap[gb220]? = some (.cells #[.int .i64 a0_0, .int .i64 a0_1, .int .i64 a0_2, (.slice A0_3 l0_3.length c0_3)] 63 (0, 0))) ∧ Aside0 (Below w.heap.size w wc))
 case first =>
  have H := HC5.out
  clear HC5
  replace H := Option.bind_eq_some_iff.mp H
  obtain ⟨t221, A70, H⟩ := H
  replace H : (if t221 = true then ((regcertref10_Right.f k a0_0 a0_1 a0_2 l0_3 l1 0).bind fun t222 => (if t222 = true then (regcertlaw10_ExecuteFuel.j0 k l1 a2 a3 ((l1.length : Int) != a0_0) a0_0 a0_1 a0_2 l0_3) else (regcertlaw10_ExecuteFuel.j0 k l1 a2 a3 true a0_0 a0_1 a0_2 l0_3))) else (regcertlaw10_ExecuteFuel.j0 k l1 a2 a3 true a0_0 a0_1 a0_2 l0_3)) = some r := H
  have A7 := As0 A70
  clear A70
  by_cases c8 : t221 = true
  ·subst c8
   have H1 : ((regcertref10_Right.f k a0_0 a0_1 a0_2 l0_3 l1 0).bind fun t222 => (if t222 = true then (regcertlaw10_ExecuteFuel.j0 k l1 a2 a3 ((l1.length : Int) != a0_0) a0_0 a0_1 a0_2 l0_3) else (regcertlaw10_ExecuteFuel.j0 k l1 a2 a3 true a0_0 a0_1 a0_2 l0_3))) = some r := by rw [if_pos rfl] at H; exact H
   clear H
   have H := H1
   clear H1
   replace H := Option.bind_eq_some_iff.mp H
   obtain ⟨t222, A90, H⟩ := H
   replace H : (if t222 = true then (regcertlaw10_ExecuteFuel.j0 k l1 a2 a3 ((l1.length : Int) != a0_0) a0_0 a0_1 a0_2 l0_3) else (regcertlaw10_ExecuteFuel.j0 k l1 a2 a3 true a0_0 a0_1 a0_2 l0_3)) = some r := H
   have A9 := As0 A90
   clear A90
   by_cases c10 : t222 = true
   ·subst c10
    have H1 : (regcertlaw10_ExecuteFuel.j0 k l1 a2 a3 ((l1.length : Int) != a0_0) a0_0 a0_1 a0_2 l0_3) = some r := by rw [if_pos rfl] at H; exact H
    clear H
    have H := H1
    clear H1
    have H' := As0 H
    clear H
    go_wp2_with (first | ((with_reducible refine gate_callee (f := 44) rfl ?_); refine goesL_ (some 15) rfl rfl Try.func44 (by kernel_rfl) rfl #[] rfl (by (try simp only [List.map_toArray, List.map_cons, List.map_nil]); first | done | rfl | (simp only [List.length_drop, List.length_take]; rfl)) ?_; (with_reducible refine (regcertlaw10_awake.calls k  true _ A7.out).mono ?_); rintro e w11 ⟨rfl, hb⟩; refine ⟨_, rfl, ?_⟩; have n0_ := As0 (blk_below (g := gb220) (o := .cells #[.int .i64 a0_0, .int .i64 a0_1, .int .i64 a0_2, .slice A0_3 l0_3.length c0_3] 63 (0, 0)) (by (with_reducible repeat (first | refine blk_drewN ?_ _ | refine blk_drew ?_ | refine blk_alloc ?_ _)); exact BK220.out) hb); have n1_ := As0 (below_step (by repeat (first | (with_reducible first | exact HB.out | apply below_alloc | apply bdN | apply bd1 | refine below_set ?_ GE220.out) | exact HB.out)) hb); clear BK220 HB; have BK220 := n0_; have HB := n1_; clear n0_ n1_; (try clear hb); (try clear hb2); (try clear hk); (try clear hi); have hcz12_0 : w11.cell? ⟨gb220, 0, none⟩ = some (.int .i64 a0_0) := (blk_cell BK220.out 0).trans rfl; have hcz12_1 : w11.cell? ⟨gb220, 1, none⟩ = some (.int .i64 a0_1) := (blk_cell BK220.out 1).trans rfl; have hcz12_2 : w11.cell? ⟨gb220, 2, none⟩ = some (.int .i64 a0_2) := (blk_cell BK220.out 2).trans rfl; have hcz12_3 : w11.cell? ⟨gb220, 3, none⟩ = some (.slice A0_3 l0_3.length c0_3) := (blk_cell BK220.out 3).trans rfl; have hfz12_0 := blk_frozen BK220.out 0; have hfz12_1 := blk_frozen BK220.out 1; have hfz12_2 := blk_frozen BK220.out 2; have hfz12_3 := blk_frozen BK220.out 3) | (go_at_call 45; (with_reducible refine (regcertref10_Right.calls k a0_0 a0_1 a0_2 _ _ l0_3 _ _ l1 0 true _ ?side1 ?side2 ?side3 ?side4 A9.out).mono ?_); (case side1 => repeat (first | exact (Kd.C_below HR0_3.out HB.out) | (with_reducible refine Kd.C_alloc ?_ _) | (with_reducible refine Kd.C_drewN ?_ _) | (with_reducible refine Kd.C_drew ?_))); (case side2 => exact HC0_3.out); (case side3 => repeat (first | exact (Kd.C_below HR1.out HB.out) | (with_reducible refine Kd.C_alloc ?_ _) | (with_reducible refine Kd.C_drewN ?_ _) | (with_reducible refine Kd.C_drew ?_))); (case side4 => exact HC1.out); rintro e w13 ⟨rfl, hb⟩; have n0_ := As0 (blk_below (g := gb220) (o := .cells #[.int .i64 a0_0, .int .i64 a0_1, .int .i64 a0_2, .slice A0_3 l0_3.length c0_3] 63 (0, 0)) (by (with_reducible repeat (first | refine blk_drewN ?_ _ | refine blk_drew ?_ | refine blk_alloc ?_ _)); exact BK220.out) hb); have n1_ := As0 (below_step (by repeat (first | (with_reducible first | exact HB.out | apply below_alloc | apply bdN | apply bd1 | refine below_set ?_ GE220.out) | exact HB.out)) hb); clear BK220 HB; have BK220 := n0_; have HB := n1_; clear n0_ n1_; (try clear hb); (try clear hb2); (try clear hk); (try clear hi); have hcz14_0 : w13.cell? ⟨gb220, 0, none⟩ = some (.int .i64 a0_0) := (blk_cell BK220.out 0).trans rfl; have hcz14_1 : w13.cell? ⟨gb220, 1, none⟩ = some (.int .i64 a0_1) := (blk_cell BK220.out 1).trans rfl; have hcz14_2 : w13.cell? ⟨gb220, 2, none⟩ = some (.int .i64 a0_2) := (blk_cell BK220.out 2).trans rfl; have hcz14_3 : w13.cell? ⟨gb220, 3, none⟩ = some (.slice A0_3 l0_3.length c0_3) := (blk_cell BK220.out 3).trans rfl; have hfz14_0 := blk_frozen BK220.out 0; have hfz14_1 := blk_frozen BK220.out 1; have hfz14_2 := blk_frozen BK220.out 2; have hfz14_3 := blk_frozen BK220.out 3))
    go_meet
    case rel => exact ⟨_, (((l1.length : Int) != a0_0)), (by first | rfl | (simp; done) | (simp [*]; done)), H', ⟨by first | omega | exact Nat.le_refl _⟩, ⟨by (with_reducible repeat (first | refine blk_drewN ?_ _ | refine blk_drew ?_ | refine blk_alloc ?_ _)); exact BK220.out⟩, ⟨by repeat (first | (with_reducible first | exact HB.out | apply below_alloc | apply bdN | apply bd1 | refine below_set ?_ GE220.out) | exact HB.out)⟩⟩
   ·replace c10 := Bool.eq_false_iff.mpr c10
    subst c10
    have H1 : (regcertlaw10_ExecuteFuel.j0 k l1 a2 a3 true a0_0 a0_1 a0_2 l0_3) = some r := by rw [if_neg (show ¬ (false = true) by decide)] at H; exact H
    clear H
    have H := H1
    clear H1
    have H' := As0 H
    clear H
    go_wp2_with (first | ((with_reducible refine gate_callee (f := 44) rfl ?_); refine goesL_ (some 15) rfl rfl Try.func44 (by kernel_rfl) rfl #[] rfl (by (try simp only [List.map_toArray, List.map_cons, List.map_nil]); first | done | rfl | (simp only [List.length_drop, List.length_take]; rfl)) ?_; (with_reducible refine (regcertlaw10_awake.calls k  true _ A7.out).mono ?_); rintro e w15 ⟨rfl, hb⟩; refine ⟨_, rfl, ?_⟩; have n0_ := As0 (blk_below (g := gb220) (o := .cells #[.int .i64 a0_0, .int .i64 a0_1, .int .i64 a0_2, .slice A0_3 l0_3.length c0_3] 63 (0, 0)) (by (with_reducible repeat (first | refine blk_drewN ?_ _ | refine blk_drew ?_ | refine blk_alloc ?_ _)); exact BK220.out) hb); have n1_ := As0 (below_step (by repeat (first | (with_reducible first | exact HB.out | apply below_alloc | apply bdN | apply bd1 | refine below_set ?_ GE220.out) | exact HB.out)) hb); clear BK220 HB; have BK220 := n0_; have HB := n1_; clear n0_ n1_; (try clear hb); (try clear hb2); (try clear hk); (try clear hi); have hcz16_0 : w15.cell? ⟨gb220, 0, none⟩ = some (.int .i64 a0_0) := (blk_cell BK220.out 0).trans rfl; have hcz16_1 : w15.cell? ⟨gb220, 1, none⟩ = some (.int .i64 a0_1) := (blk_cell BK220.out 1).trans rfl; have hcz16_2 : w15.cell? ⟨gb220, 2, none⟩ = some (.int .i64 a0_2) := (blk_cell BK220.out 2).trans rfl; have hcz16_3 : w15.cell? ⟨gb220, 3, none⟩ = some (.slice A0_3 l0_3.length c0_3) := (blk_cell BK220.out 3).trans rfl; have hfz16_0 := blk_frozen BK220.out 0; have hfz16_1 := blk_frozen BK220.out 1; have hfz16_2 := blk_frozen BK220.out 2; have hfz16_3 := blk_frozen BK220.out 3) | (go_at_call 45; (with_reducible refine (regcertref10_Right.calls k a0_0 a0_1 a0_2 _ _ l0_3 _ _ l1 0 false _ ?side1 ?side2 ?side3 ?side4 A9.out).mono ?_); (case side1 => repeat (first | exact (Kd.C_below HR0_3.out HB.out) | (with_reducible refine Kd.C_alloc ?_ _) | (with_reducible refine Kd.C_drewN ?_ _) | (with_reducible refine Kd.C_drew ?_))); (case side2 => exact HC0_3.out); (case side3 => repeat (first | exact (Kd.C_below HR1.out HB.out) | (with_reducible refine Kd.C_alloc ?_ _) | (with_reducible refine Kd.C_drewN ?_ _) | (with_reducible refine Kd.C_drew ?_))); (case side4 => exact HC1.out); rintro e w17 ⟨rfl, hb⟩; have n0_ := As0 (blk_below (g := gb220) (o := .cells #[.int .i64 a0_0, .int .i64 a0_1, .int .i64 a0_2, .slice A0_3 l0_3.length c0_3] 63 (0, 0)) (by (with_reducible repeat (first | refine blk_drewN ?_ _ | refine blk_drew ?_ | refine blk_alloc ?_ _)); exact BK220.out) hb); have n1_ := As0 (below_step (by repeat (first | (with_reducible first | exact HB.out | apply below_alloc | apply bdN | apply bd1 | refine below_set ?_ GE220.out) | exact HB.out)) hb); clear BK220 HB; have BK220 := n0_; have HB := n1_; clear n0_ n1_; (try clear hb); (try clear hb2); (try clear hk); (try clear hi)))
    go_meet
    case rel => exact ⟨_, (true), (by first | rfl | (simp; done) | (simp [*]; done)), H', ⟨by first | omega | exact Nat.le_refl _⟩, ⟨by (with_reducible repeat (first | refine blk_drewN ?_ _ | refine blk_drew ?_ | refine blk_alloc ?_ _)); exact BK220.out⟩, ⟨by repeat (first | (with_reducible first | exact HB.out | apply below_alloc | apply bdN | apply bd1 | refine below_set ?_ GE220.out) | exact HB.out)⟩⟩
  ·replace c8 := Bool.eq_false_iff.mpr c8
   subst c8
   have H1 : (regcertlaw10_ExecuteFuel.j0 k l1 a2 a3 true a0_0 a0_1 a0_2 l0_3) = some r := by rw [if_neg (show ¬ (false = true) by decide)] at H; exact H
   clear H
   have H := H1
   clear H1
   have H' := As0 H
   clear H
   go_wp2_with (first | ((with_reducible refine gate_callee (f := 44) rfl ?_); refine goesL_ (some 15) rfl rfl Try.func44 (by kernel_rfl) rfl #[] rfl (by (try simp only [List.map_toArray, List.map_cons, List.map_nil]); first | done | rfl | (simp only [List.length_drop, List.length_take]; rfl)) ?_; (with_reducible refine (regcertlaw10_awake.calls k  false _ A7.out).mono ?_); rintro e w18 ⟨rfl, hb⟩; refine ⟨_, rfl, ?_⟩; have n0_ := As0 (blk_below (g := gb220) (o := .cells #[.int .i64 a0_0, .int .i64 a0_1, .int .i64 a0_2, .slice A0_3 l0_3.length c0_3] 63 (0, 0)) (by (with_reducible repeat (first | refine blk_drewN ?_ _ | refine blk_drew ?_ | refine blk_alloc ?_ _)); exact BK220.out) hb); have n1_ := As0 (below_step (by repeat (first | (with_reducible first | exact HB.out | apply below_alloc | apply bdN | apply bd1 | refine below_set ?_ GE220.out) | exact HB.out)) hb); clear BK220 HB; have BK220 := n0_; have HB := n1_; clear n0_ n1_; (try clear hb); (try clear hb2); (try clear hk); (try clear hi)))
   go_meet
   case rel => exact ⟨_, (true), (by first | rfl | (simp; done) | (simp [*]; done)), H', ⟨by first | omega | exact Nat.le_refl _⟩, ⟨by (with_reducible repeat (first | refine blk_drewN ?_ _ | refine blk_drew ?_ | refine blk_alloc ?_ _)); exact BK220.out⟩, ⟨by repeat (first | (with_reducible first | exact HB.out | apply below_alloc | apply bdN | apply bd1 | refine below_set ?_ GE220.out) | exact HB.out)⟩⟩
 case rest =>
  clear HC5
  try clear c1
  try clear p2
  try clear c4
  try clear c8
  try clear c10
  try clear c13
  try clear hcz12_0
  try clear hcz12_1
  try clear hcz12_2
  try clear hcz12_3
  try clear hcz14_0
  try clear hcz14_1
  try clear hcz14_2
  try clear hcz14_3
  try clear hcz16_0
  try clear hcz16_1
  try clear hcz16_2
  try clear hcz16_3
  try clear hfz12_0
  try clear hfz12_1
  try clear hfz12_2
  try clear hfz12_3
  try clear hfz14_0
  try clear hfz14_1
  try clear hfz14_2
  try clear hfz14_3
  try clear hfz16_0
  try clear hfz16_1
  try clear hfz16_2
  try clear hfz16_3
  obtain ⟨kq, x29_4, rfl, HA, HJ4, BK220, HB⟩ := hcut
  cases kq with
  | zero => exact absurd HA.out (by simp [regcertlaw10_ExecuteFuel.j0])
  | succ kj4 =>
   have H := HA.out
   clear HA
   simp only [regcertlaw10_ExecuteFuel.j0] at H
   by_cases c19 : x29_4 = true
   ·subst c19
    have H1 : ((regcertlaw10_awake.f kj4).bind fun t223 => (some t223)) = some r := by rw [if_pos rfl] at H; exact H
    clear H
    have H := H1
    clear H1
    replace H := Option.bind_eq_some_iff.mp H
    obtain ⟨t223, A200, H⟩ := H
    replace H : (some t223) = some r := H
    have A20 := As0 A200
    clear A200
    obtain rfl := Option.some.inj H
    go_wp2_with (first | ((with_reducible refine gate_callee (f := 44) rfl ?_); refine goesL_ (some 30) rfl rfl Try.func44 (by kernel_rfl) rfl #[] rfl (by (try simp only [List.map_toArray, List.map_cons, List.map_nil]); first | done | rfl | (simp only [List.length_drop, List.length_take]; rfl)) ?_; (with_reducible refine (regcertlaw10_awake.calls kj4  t223 _ A20.out).mono ?_); rintro e w21 ⟨rfl, hb⟩; refine ⟨_, rfl, ?_⟩; have n0_ := As0 (blk_below (g := gb220) (o := .cells #[.int .i64 a0_0, .int .i64 a0_1, .int .i64 a0_2, .slice A0_3 l0_3.length c0_3] 63 (0, 0)) (by (with_reducible repeat (first | refine blk_drewN ?_ _ | refine blk_drew ?_ | refine blk_alloc ?_ _)); exact BK220.out) hb); have n1_ := As0 (below_step (by repeat (first | (with_reducible first | exact HB.out | apply below_alloc | apply bdN | apply bd1 | refine below_set ?_ GE220.out) | exact HB.out)) hb); clear BK220 HB; have BK220 := n0_; have HB := n1_; clear n0_ n1_; (try clear hb); (try clear hb2); (try clear hk); (try clear hi)))
    go_ret
    exact ⟨by first | rfl | (simp [errW_none, errW_some] <;> rfl) | (simp [*, errW_none, errW_some] <;> rfl), by repeat (first | (with_reducible first | exact HB.out | apply below_alloc | apply bdN | apply bd1 | refine below_set ?_ GE220.out) | exact HB.out)⟩
   ·replace c19 := Bool.eq_false_iff.mpr c19
    subst c19
    have H1 : ((execute_Exec.f kj4 a0_0 a0_1 a0_2 l0_3 l1 (Int.tmod (wrap64 (a2)) 200)).bind fun bt224 => ((execute_Exec.f kj4 a0_0 a0_1 a0_2 l0_3 l1 (wrap64 ((Int.tmod (wrap64 (a2)) 200) + (Int.tmod (wrap64 (a3)) 200)))).bind fun bt240 => (if bt224.2.2.2.2.2.2.2.1 > (Int.tmod (wrap64 (a2)) 200) then (regcertlaw10_ExecuteFuel.j1 kj4 true bt224.1 bt224.2.1 bt224.2.2.1 bt224.2.2.2.1 bt224.2.2.2.2.1 bt224.2.2.2.2.2.1 bt224.2.2.2.2.2.2.1 bt224.2.2.2.2.2.2.2.1 bt240.1 bt240.2.1 bt240.2.2.1 bt240.2.2.2.1 bt240.2.2.2.2.1 bt240.2.2.2.2.2.1 bt240.2.2.2.2.2.2.1 bt240.2.2.2.2.2.2.2.1) else (if bt240.2.2.2.2.2.2.2.1 > (wrap64 ((Int.tmod (wrap64 (a2)) 200) + (Int.tmod (wrap64 (a3)) 200))) then (regcertlaw10_ExecuteFuel.j1 kj4 true bt224.1 bt224.2.1 bt224.2.2.1 bt224.2.2.2.1 bt224.2.2.2.2.1 bt224.2.2.2.2.2.1 bt224.2.2.2.2.2.2.1 bt224.2.2.2.2.2.2.2.1 bt240.1 bt240.2.1 bt240.2.2.1 bt240.2.2.2.1 bt240.2.2.2.2.1 bt240.2.2.2.2.2.1 bt240.2.2.2.2.2.2.1 bt240.2.2.2.2.2.2.2.1) else ((regcertref09_Prefix.f kj4 bt224.2.2.2.2.2.2.1 bt240.2.2.2.2.2.2.1).bind fun t256 => (if t256 = true then (if bt224.1 = 0 then (regcertlaw10_ExecuteFuel.j1 kj4 (bt224.2.2.2.2.2.2.2.1 != (Int.tmod (wrap64 (a2)) 200)) bt224.1 bt224.2.1 bt224.2.2.1 bt224.2.2.2.1 bt224.2.2.2.2.1 bt224.2.2.2.2.2.1 bt224.2.2.2.2.2.2.1 bt224.2.2.2.2.2.2.2.1 bt240.1 bt240.2.1 bt240.2.2.1 bt240.2.2.2.1 bt240.2.2.2.2.1 bt240.2.2.2.2.2.1 bt240.2.2.2.2.2.2.1 bt240.2.2.2.2.2.2.2.1) else (regcertlaw10_ExecuteFuel.j1 kj4 false bt224.1 bt224.2.1 bt224.2.2.1 bt224.2.2.2.1 bt224.2.2.2.2.1 bt224.2.2.2.2.2.1 bt224.2.2.2.2.2.2.1 bt224.2.2.2.2.2.2.2.1 bt240.1 bt240.2.1 bt240.2.2.1 bt240.2.2.2.1 bt240.2.2.2.2.1 bt240.2.2.2.2.2.1 bt240.2.2.2.2.2.2.1 bt240.2.2.2.2.2.2.2.1)) else (regcertlaw10_ExecuteFuel.j1 kj4 true bt224.1 bt224.2.1 bt224.2.2.1 bt224.2.2.2.1 bt224.2.2.2.2.1 bt224.2.2.2.2.2.1 bt224.2.2.2.2.2.2.1 bt224.2.2.2.2.2.2.2.1 bt240.1 bt240.2.1 bt240.2.2.1 bt240.2.2.2.1 bt240.2.2.2.2.1 bt240.2.2.2.2.2.1 bt240.2.2.2.2.2.2.1 bt240.2.2.2.2.2.2.2.1))))))) = some r := by rw [if_neg (show ¬ (false = true) by decide)] at H; exact H
    clear H
    have H := H1
    clear H1
    replace H := Option.bind_eq_some_iff.mp H
    obtain ⟨⟨t224, t225, t226, t227, t228, t231, t234, t237, t238⟩, A220, H⟩ := H
    replace H : ((execute_Exec.f kj4 a0_0 a0_1 a0_2 l0_3 l1 (wrap64 ((Int.tmod (wrap64 (a2)) 200) + (Int.tmod (wrap64 (a3)) 200)))).bind fun bt240 => (if t237 > (Int.tmod (wrap64 (a2)) 200) then (regcertlaw10_ExecuteFuel.j1 kj4 true t224 t225 t226 t227 t228 t231 t234 t237 bt240.1 bt240.2.1 bt240.2.2.1 bt240.2.2.2.1 bt240.2.2.2.2.1 bt240.2.2.2.2.2.1 bt240.2.2.2.2.2.2.1 bt240.2.2.2.2.2.2.2.1) else (if bt240.2.2.2.2.2.2.2.1 > (wrap64 ((Int.tmod (wrap64 (a2)) 200) + (Int.tmod (wrap64 (a3)) 200))) then (regcertlaw10_ExecuteFuel.j1 kj4 true t224 t225 t226 t227 t228 t231 t234 t237 bt240.1 bt240.2.1 bt240.2.2.1 bt240.2.2.2.1 bt240.2.2.2.2.1 bt240.2.2.2.2.2.1 bt240.2.2.2.2.2.2.1 bt240.2.2.2.2.2.2.2.1) else ((regcertref09_Prefix.f kj4 t234 bt240.2.2.2.2.2.2.1).bind fun t256 => (if t256 = true then (if t224 = 0 then (regcertlaw10_ExecuteFuel.j1 kj4 (t237 != (Int.tmod (wrap64 (a2)) 200)) t224 t225 t226 t227 t228 t231 t234 t237 bt240.1 bt240.2.1 bt240.2.2.1 bt240.2.2.2.1 bt240.2.2.2.2.1 bt240.2.2.2.2.2.1 bt240.2.2.2.2.2.2.1 bt240.2.2.2.2.2.2.2.1) else (regcertlaw10_ExecuteFuel.j1 kj4 false t224 t225 t226 t227 t228 t231 t234 t237 bt240.1 bt240.2.1 bt240.2.2.1 bt240.2.2.2.1 bt240.2.2.2.2.1 bt240.2.2.2.2.2.1 bt240.2.2.2.2.2.2.1 bt240.2.2.2.2.2.2.2.1)) else (regcertlaw10_ExecuteFuel.j1 kj4 true t224 t225 t226 t227 t228 t231 t234 t237 bt240.1 bt240.2.1 bt240.2.2.1 bt240.2.2.2.1 bt240.2.2.2.2.1 bt240.2.2.2.2.2.1 bt240.2.2.2.2.2.2.1 bt240.2.2.2.2.2.2.2.1)))))) = some r := H
    have A22 := As0 A220
    clear A220
    replace H := Option.bind_eq_some_iff.mp H
    obtain ⟨⟨t240, t241, t242, t243, t244, t247, t250, t253, t254⟩, A230, H⟩ := H
    replace H : (if t237 > (Int.tmod (wrap64 (a2)) 200) then (regcertlaw10_ExecuteFuel.j1 kj4 true t224 t225 t226 t227 t228 t231 t234 t237 t240 t241 t242 t243 t244 t247 t250 t253) else (if t253 > (wrap64 ((Int.tmod (wrap64 (a2)) 200) + (Int.tmod (wrap64 (a3)) 200))) then (regcertlaw10_ExecuteFuel.j1 kj4 true t224 t225 t226 t227 t228 t231 t234 t237 t240 t241 t242 t243 t244 t247 t250 t253) else ((regcertref09_Prefix.f kj4 t234 t250).bind fun t256 => (if t256 = true then (if t224 = 0 then (regcertlaw10_ExecuteFuel.j1 kj4 (t237 != (Int.tmod (wrap64 (a2)) 200)) t224 t225 t226 t227 t228 t231 t234 t237 t240 t241 t242 t243 t244 t247 t250 t253) else (regcertlaw10_ExecuteFuel.j1 kj4 false t224 t225 t226 t227 t228 t231 t234 t237 t240 t241 t242 t243 t244 t247 t250 t253)) else (regcertlaw10_ExecuteFuel.j1 kj4 true t224 t225 t226 t227 t228 t231 t234 t237 t240 t241 t242 t243 t244 t247 t250 t253))))) = some r := H
    have A23 := As0 A230
    clear A230
    have HC24 := As0 H
    clear H
    have hcz25_0 : wc.cell? ⟨gb220, 0, none⟩ = some (.int .i64 a0_0) := (blk_cell BK220.out 0).trans rfl
    have hcz25_1 : wc.cell? ⟨gb220, 1, none⟩ = some (.int .i64 a0_1) := (blk_cell BK220.out 1).trans rfl
    have hcz25_2 : wc.cell? ⟨gb220, 2, none⟩ = some (.int .i64 a0_2) := (blk_cell BK220.out 2).trans rfl
    have hcz25_3 : wc.cell? ⟨gb220, 3, none⟩ = some (.slice A0_3 l0_3.length c0_3) := (blk_cell BK220.out 3).trans rfl
    have hfz25_0 := blk_frozen BK220.out 0
    have hfz25_1 := blk_frozen BK220.out 1
    have hfz25_2 := blk_frozen BK220.out 2
    have hfz25_3 := blk_frozen BK220.out 3
    go_upto_region 7 with (first | ((with_reducible refine gate_callee (f := 46) rfl ?_); refine goesL_ (some 43) rfl rfl Try.func46 (by kernel_rfl) rfl #[.agg #[.int .i64 a0_0, .int .i64 a0_1, .int .i64 a0_2, .slice A0_3 l0_3.length c0_3], .slice A1 l1.length c1, .int .i64 (Int.tmod (wrap64 (a2)) 200)] rfl (by (try simp only [List.map_toArray, List.map_cons, List.map_nil]); first | done | rfl | (simp only [List.length_drop, List.length_take]; rfl)) ?_; (with_reducible refine (execute_Exec.calls kj4 a0_0 a0_1 a0_2 _ _ l0_3 _ _ l1 (Int.tmod (wrap64 (a2)) 200) t224 t225 t226 t227 t228 t231 t234 t237 t238 _ ?side1 ?side2 ?side3 ?side4 A22.out).mono ?_); (case side1 => repeat (first | exact (Kd.C_below HR0_3.out HB.out) | (with_reducible refine Kd.C_alloc ?_ _) | (with_reducible refine Kd.C_drewN ?_ _) | (with_reducible refine Kd.C_drew ?_))); (case side2 => exact HC0_3.out); (case side3 => repeat (first | exact (Kd.C_below HR1.out HB.out) | (with_reducible refine Kd.C_alloc ?_ _) | (with_reducible refine Kd.C_drewN ?_ _) | (with_reducible refine Kd.C_drew ?_))); (case side4 => exact HC1.out); rintro e w26 ⟨v229, v232, v235, rfl, ho0, ho1, ho2, hb⟩; refine ⟨_, rfl, ?_⟩; have n0_ := As0 (Kd.R_lower ho0 (below_size (by repeat (first | (with_reducible first | exact HB.out | apply below_alloc | apply bdN | apply bd1 | refine below_set ?_ GE220.out) | exact HB.out)))); have n1_ := As0 (Kd.R_lower ho1 (below_size (by repeat (first | (with_reducible first | exact HB.out | apply below_alloc | apply bdN | apply bd1 | refine below_set ?_ GE220.out) | exact HB.out)))); have n2_ := As0 (Kd.R_lower ho2 (below_size (by repeat (first | (with_reducible first | exact HB.out | apply below_alloc | apply bdN | apply bd1 | refine below_set ?_ GE220.out) | exact HB.out)))); have n3_ := As0 (blk_below (g := gb220) (o := .cells #[.int .i64 a0_0, .int .i64 a0_1, .int .i64 a0_2, .slice A0_3 l0_3.length c0_3] 63 (0, 0)) (by (with_reducible repeat (first | refine blk_drewN ?_ _ | refine blk_drew ?_ | refine blk_alloc ?_ _)); exact BK220.out) hb); have n4_ := As0 (below_step (by repeat (first | (with_reducible first | exact HB.out | apply below_alloc | apply bdN | apply bd1 | refine below_set ?_ GE220.out) | exact HB.out)) hb); clear BK220 HB; have HO230 := n0_; have HO233 := n1_; have HO236 := n2_; have BK220 := n3_; have HB := n4_; clear n0_ n1_ n2_ n3_ n4_; (try clear hb); (try clear hb2); (try clear hk); (try clear hi); (try clear ho0); (try clear ho1); (try clear ho2)) | ((with_reducible refine gate_dst (N := 11) rfl ?_); (try (refine gate_guard (by rfl) ?_; dsimp only)); refine box_event ?hg (N := 11) ?hd (cs := #[.int .i64 0, .int .i64 0, .int .i64 0, .int .i64 0, .slice none 0 0, .slice none 0 0, .slice none 0 0, .int .i64 0]) (t := 39) ?hr ?_; (case hd => rfl); (case hg => rfl); (case hr => first | (go_simp; done) | (go_simp; rfl)); intro gb239 hg w27 hbox hb; have n0_ := As0 (Kd.R_below (by (with_reducible repeat (first | apply Kd.R_alloc | apply Kd.R_drewN | apply Kd.R_drew)); exact HO230.out) hb); have n1_ := As0 (Kd.R_below (by (with_reducible repeat (first | apply Kd.R_alloc | apply Kd.R_drewN | apply Kd.R_drew)); exact HO233.out) hb); have n2_ := As0 (Kd.R_below (by (with_reducible repeat (first | apply Kd.R_alloc | apply Kd.R_drewN | apply Kd.R_drew)); exact HO236.out) hb); have n3_ := As0 (blk_below (g := gb220) (o := .cells #[.int .i64 a0_0, .int .i64 a0_1, .int .i64 a0_2, .slice A0_3 l0_3.length c0_3] 63 (0, 0)) (by (with_reducible repeat (first | refine blk_drewN ?_ _ | refine blk_drew ?_ | refine blk_alloc ?_ _)); exact BK220.out) hb); have n4_ := As0 (below_step (by repeat (first | (with_reducible first | exact HB.out | apply below_alloc | apply bdN | apply bd1 | refine below_set ?_ GE220.out) | exact HB.out)) hb); have n5_ := As0 (hbox); have n6_ := As0 ((by rw [hg]; exact (below_size (by repeat (first | (with_reducible first | exact HB.out | apply below_alloc | apply bdN | apply bd1 | refine below_set ?_ GE220.out) | exact HB.out))) : w.heap.size ≤ gb239)); have n7_ := As0 ((by rw [hg]; exact (below_size (by repeat (first | (with_reducible first | exact HB.out | apply below_alloc | apply bdN | apply bd1 | refine below_set ?_ GE220.out) | exact HB.out))) : w.heap.size ≤ gb239)); have n8_ := As0 ((by rw [hg]; exact Nat.ne_of_lt (blk_lt (g := gb220) (o := .cells #[.int .i64 a0_0, .int .i64 a0_1, .int .i64 a0_2, .slice A0_3 l0_3.length c0_3] 63 (0, 0)) (by (with_reducible repeat (first | refine blk_drewN ?_ _ | refine blk_drew ?_ | refine blk_alloc ?_ _)); exact BK220.out)) : gb220 ≠ gb239)); have n9_ := As0 ((by rw [hg]; exact Nat.ne_of_gt (blk_lt (g := gb220) (o := .cells #[.int .i64 a0_0, .int .i64 a0_1, .int .i64 a0_2, .slice A0_3 l0_3.length c0_3] 63 (0, 0)) (by (with_reducible repeat (first | refine blk_drewN ?_ _ | refine blk_drew ?_ | refine blk_alloc ?_ _)); exact BK220.out)) : gb239 ≠ gb220)); clear HO230 HO233 HO236 BK220 HB; have HO230 := n0_; have HO233 := n1_; have HO236 := n2_; have BK220 := n3_; have HB := n4_; have BK239 := n5_; have GW239 := n6_; have GE239 := n7_; have NB220_239 := n8_; have NB239_220 := n9_; clear n0_ n1_ n2_ n3_ n4_ n5_ n6_ n7_ n8_ n9_ hb hbox hg; have hnb28 := NB239_220.out; have hnc28 := NB220_239.out; have hcz29_0 : w27.cell? ⟨gb239, 0, none⟩ = some (.int .i64 0) := (blk_cell BK239.out 0).trans rfl; have hcz29_1 : w27.cell? ⟨gb239, 1, none⟩ = some (.int .i64 0) := (blk_cell BK239.out 1).trans rfl; have hcz29_2 : w27.cell? ⟨gb239, 2, none⟩ = some (.int .i64 0) := (blk_cell BK239.out 2).trans rfl; have hcz29_3 : w27.cell? ⟨gb239, 3, none⟩ = some (.int .i64 0) := (blk_cell BK239.out 3).trans rfl; have hcz29_4 : w27.cell? ⟨gb239, 4, none⟩ = some (.slice none 0 0) := (blk_cell BK239.out 4).trans rfl; have hcz29_5 : w27.cell? ⟨gb239, 5, none⟩ = some (.slice none 0 0) := (blk_cell BK239.out 5).trans rfl; have hcz29_6 : w27.cell? ⟨gb239, 6, none⟩ = some (.slice none 0 0) := (blk_cell BK239.out 6).trans rfl; have hcz29_7 : w27.cell? ⟨gb239, 7, none⟩ = some (.int .i64 0) := (blk_cell BK239.out 7).trans rfl; have hfz29_0 := blk_frozen BK239.out 0; have hfz29_1 := blk_frozen BK239.out 1; have hfz29_2 := blk_frozen BK239.out 2; have hfz29_3 := blk_frozen BK239.out 3; have hfz29_4 := blk_frozen BK239.out 4; have hfz29_5 := blk_frozen BK239.out 5; have hfz29_6 := blk_frozen BK239.out 6; have hfz29_7 := blk_frozen BK239.out 7; obtain ⟨Ao30, co30, eo30⟩ := Kd.R_slice HO230.out; subst eo30; obtain ⟨Ao31, co31, eo31⟩ := Kd.R_slice HO233.out; subst eo31; obtain ⟨Ao32, co32, eo32⟩ := Kd.R_slice HO236.out; subst eo32; have hcz33_0 : w27.cell? ⟨gb220, 0, none⟩ = some (.int .i64 a0_0) := (blk_cell BK220.out 0).trans rfl; have hcz33_1 : w27.cell? ⟨gb220, 1, none⟩ = some (.int .i64 a0_1) := (blk_cell BK220.out 1).trans rfl; have hcz33_2 : w27.cell? ⟨gb220, 2, none⟩ = some (.int .i64 a0_2) := (blk_cell BK220.out 2).trans rfl; have hcz33_3 : w27.cell? ⟨gb220, 3, none⟩ = some (.slice A0_3 l0_3.length c0_3) := (blk_cell BK220.out 3).trans rfl; have hfz33_0 := blk_frozen BK220.out 0; have hfz33_1 := blk_frozen BK220.out 1; have hfz33_2 := blk_frozen BK220.out 2; have hfz33_3 := blk_frozen BK220.out 3) | ((with_reducible refine gate_callee (f := 46) rfl ?_); refine goesL_ (some 50) rfl rfl Try.func46 (by kernel_rfl) rfl #[.agg #[.int .i64 a0_0, .int .i64 a0_1, .int .i64 a0_2, .slice A0_3 l0_3.length c0_3], .slice A1 l1.length c1, .int .i64 (wrap64 ((Int.tmod (wrap64 (a2)) 200) + (Int.tmod (wrap64 (a3)) 200)))] rfl (by (try simp only [List.map_toArray, List.map_cons, List.map_nil]); first | done | rfl | (simp only [List.length_drop, List.length_take]; rfl)) ?_; (with_reducible refine (execute_Exec.calls kj4 a0_0 a0_1 a0_2 _ _ l0_3 _ _ l1 (wrap64 ((Int.tmod (wrap64 (a2)) 200) + (Int.tmod (wrap64 (a3)) 200))) t240 t241 t242 t243 t244 t247 t250 t253 t254 _ ?side1 ?side2 ?side3 ?side4 A23.out).mono ?_); (case side1 => exact Kd.C_below HR0_3.out (by repeat (first | (with_reducible first | exact HB.out | apply below_alloc | apply bdN | apply bd1 | refine below_set ?_ GE220.out | refine below_set ?_ GE239.out) | exact HB.out))); (case side2 => exact HC0_3.out); (case side3 => exact Kd.C_below HR1.out (by repeat (first | (with_reducible first | exact HB.out | apply below_alloc | apply bdN | apply bd1 | refine below_set ?_ GE220.out | refine below_set ?_ GE239.out) | exact HB.out))); (case side4 => exact HC1.out); rintro e w34 ⟨v245, v248, v251, rfl, ho0, ho1, ho2, hb⟩; refine ⟨_, rfl, ?_⟩; have n0_ := As0 (Kd.R_mono (Kd.R_told (Kd.R_told (Kd.R_told (Kd.R_old (by (with_reducible repeat (first | apply Kd.R_alloc | apply Kd.R_drewN | apply Kd.R_drew)); exact (Kd.R_mono (RF gb239 7 (RF gb239 6 (RF gb239 5 (RF gb239 4 (RF gb239 3 (RF gb239 2 (RF gb239 1 (RF gb239 0 (Kd.R_types HO230.out BK239.out (by decide)) (.int .i64 t224)) (.int .i64 t225)) (.int .i64 t226)) (.int .i64 t227)) (.slice Ao30 t228.length co30)) (.slice Ao31 t231.length co31)) (.slice Ao32 t234.length co32)) (.int .i64 t237)) (fun _ h_ => h_.1))) hb) (Kd.R_base ho0)) (Kd.R_base ho1)) (Kd.R_base ho2)) (fun _ h_ => h_.1)); have n1_ := As0 (Kd.R_mono (Kd.R_told (Kd.R_told (Kd.R_told (Kd.R_old (by (with_reducible repeat (first | apply Kd.R_alloc | apply Kd.R_drewN | apply Kd.R_drew)); exact (Kd.R_mono (RF gb239 7 (RF gb239 6 (RF gb239 5 (RF gb239 4 (RF gb239 3 (RF gb239 2 (RF gb239 1 (RF gb239 0 (Kd.R_types HO233.out BK239.out (by decide)) (.int .i64 t224)) (.int .i64 t225)) (.int .i64 t226)) (.int .i64 t227)) (.slice Ao30 t228.length co30)) (.slice Ao31 t231.length co31)) (.slice Ao32 t234.length co32)) (.int .i64 t237)) (fun _ h_ => h_.1))) hb) (Kd.R_base ho0)) (Kd.R_base ho1)) (Kd.R_base ho2)) (fun _ h_ => h_.1)); have n2_ := As0 (Kd.R_mono (Kd.R_told (Kd.R_told (Kd.R_told (Kd.R_old (by (with_reducible repeat (first | apply Kd.R_alloc | apply Kd.R_drewN | apply Kd.R_drew)); exact (Kd.R_mono (RF gb239 7 (RF gb239 6 (RF gb239 5 (RF gb239 4 (RF gb239 3 (RF gb239 2 (RF gb239 1 (RF gb239 0 (Kd.R_types HO236.out BK239.out (by decide)) (.int .i64 t224)) (.int .i64 t225)) (.int .i64 t226)) (.int .i64 t227)) (.slice Ao30 t228.length co30)) (.slice Ao31 t231.length co31)) (.slice Ao32 t234.length co32)) (.int .i64 t237)) (fun _ h_ => h_.1))) hb) (Kd.R_base ho0)) (Kd.R_base ho1)) (Kd.R_base ho2)) (fun _ h_ => h_.1)); have n3_ := As0 (Kd.R_lower (Kd.R_new' (Kd.R_new' (Kd.R_new' ho0 (Kd.R_lt (by (with_reducible repeat (first | apply Kd.R_alloc | apply Kd.R_drewN | apply Kd.R_drew)); exact (Kd.R_mono (RF gb239 7 (RF gb239 6 (RF gb239 5 (RF gb239 4 (RF gb239 3 (RF gb239 2 (RF gb239 1 (RF gb239 0 (Kd.R_types HO230.out BK239.out (by decide)) (.int .i64 t224)) (.int .i64 t225)) (.int .i64 t226)) (.int .i64 t227)) (.slice Ao30 t228.length co30)) (.slice Ao31 t231.length co31)) (.slice Ao32 t234.length co32)) (.int .i64 t237)) (fun _ h_ => h_.1))))) (Kd.R_lt (by (with_reducible repeat (first | apply Kd.R_alloc | apply Kd.R_drewN | apply Kd.R_drew)); exact (Kd.R_mono (RF gb239 7 (RF gb239 6 (RF gb239 5 (RF gb239 4 (RF gb239 3 (RF gb239 2 (RF gb239 1 (RF gb239 0 (Kd.R_types HO233.out BK239.out (by decide)) (.int .i64 t224)) (.int .i64 t225)) (.int .i64 t226)) (.int .i64 t227)) (.slice Ao30 t228.length co30)) (.slice Ao31 t231.length co31)) (.slice Ao32 t234.length co32)) (.int .i64 t237)) (fun _ h_ => h_.1))))) (Kd.R_lt (by (with_reducible repeat (first | apply Kd.R_alloc | apply Kd.R_drewN | apply Kd.R_drew)); exact (Kd.R_mono (RF gb239 7 (RF gb239 6 (RF gb239 5 (RF gb239 4 (RF gb239 3 (RF gb239 2 (RF gb239 1 (RF gb239 0 (Kd.R_types HO236.out BK239.out (by decide)) (.int .i64 t224)) (.int .i64 t225)) (.int .i64 t226)) (.int .i64 t227)) (.slice Ao30 t228.length co30)) (.slice Ao31 t231.length co31)) (.slice Ao32 t234.length co32)) (.int .i64 t237)) (fun _ h_ => h_.1))))) (below_size (by repeat (first | (with_reducible first | exact HB.out | apply below_alloc | apply bdN | apply bd1 | refine below_set ?_ GE220.out | refine below_set ?_ GE239.out) | exact HB.out)))); have n4_ := As0 (Kd.R_lower (Kd.R_new' (Kd.R_new' (Kd.R_new' ho1 (Kd.R_lt (by (with_reducible repeat (first | apply Kd.R_alloc | apply Kd.R_drewN | apply Kd.R_drew)); exact (Kd.R_mono (RF gb239 7 (RF gb239 6 (RF gb239 5 (RF gb239 4 (RF gb239 3 (RF gb239 2 (RF gb239 1 (RF gb239 0 (Kd.R_types HO230.out BK239.out (by decide)) (.int .i64 t224)) (.int .i64 t225)) (.int .i64 t226)) (.int .i64 t227)) (.slice Ao30 t228.length co30)) (.slice Ao31 t231.length co31)) (.slice Ao32 t234.length co32)) (.int .i64 t237)) (fun _ h_ => h_.1))))) (Kd.R_lt (by (with_reducible repeat (first | apply Kd.R_alloc | apply Kd.R_drewN | apply Kd.R_drew)); exact (Kd.R_mono (RF gb239 7 (RF gb239 6 (RF gb239 5 (RF gb239 4 (RF gb239 3 (RF gb239 2 (RF gb239 1 (RF gb239 0 (Kd.R_types HO233.out BK239.out (by decide)) (.int .i64 t224)) (.int .i64 t225)) (.int .i64 t226)) (.int .i64 t227)) (.slice Ao30 t228.length co30)) (.slice Ao31 t231.length co31)) (.slice Ao32 t234.length co32)) (.int .i64 t237)) (fun _ h_ => h_.1))))) (Kd.R_lt (by (with_reducible repeat (first | apply Kd.R_alloc | apply Kd.R_drewN | apply Kd.R_drew)); exact (Kd.R_mono (RF gb239 7 (RF gb239 6 (RF gb239 5 (RF gb239 4 (RF gb239 3 (RF gb239 2 (RF gb239 1 (RF gb239 0 (Kd.R_types HO236.out BK239.out (by decide)) (.int .i64 t224)) (.int .i64 t225)) (.int .i64 t226)) (.int .i64 t227)) (.slice Ao30 t228.length co30)) (.slice Ao31 t231.length co31)) (.slice Ao32 t234.length co32)) (.int .i64 t237)) (fun _ h_ => h_.1))))) (below_size (by repeat (first | (with_reducible first | exact HB.out | apply below_alloc | apply bdN | apply bd1 | refine below_set ?_ GE220.out | refine below_set ?_ GE239.out) | exact HB.out)))); have n5_ := As0 (Kd.R_lower (Kd.R_new' (Kd.R_new' (Kd.R_new' ho2 (Kd.R_lt (by (with_reducible repeat (first | apply Kd.R_alloc | apply Kd.R_drewN | apply Kd.R_drew)); exact (Kd.R_mono (RF gb239 7 (RF gb239 6 (RF gb239 5 (RF gb239 4 (RF gb239 3 (RF gb239 2 (RF gb239 1 (RF gb239 0 (Kd.R_types HO230.out BK239.out (by decide)) (.int .i64 t224)) (.int .i64 t225)) (.int .i64 t226)) (.int .i64 t227)) (.slice Ao30 t228.length co30)) (.slice Ao31 t231.length co31)) (.slice Ao32 t234.length co32)) (.int .i64 t237)) (fun _ h_ => h_.1))))) (Kd.R_lt (by (with_reducible repeat (first | apply Kd.R_alloc | apply Kd.R_drewN | apply Kd.R_drew)); exact (Kd.R_mono (RF gb239 7 (RF gb239 6 (RF gb239 5 (RF gb239 4 (RF gb239 3 (RF gb239 2 (RF gb239 1 (RF gb239 0 (Kd.R_types HO233.out BK239.out (by decide)) (.int .i64 t224)) (.int .i64 t225)) (.int .i64 t226)) (.int .i64 t227)) (.slice Ao30 t228.length co30)) (.slice Ao31 t231.length co31)) (.slice Ao32 t234.length co32)) (.int .i64 t237)) (fun _ h_ => h_.1))))) (Kd.R_lt (by (with_reducible repeat (first | apply Kd.R_alloc | apply Kd.R_drewN | apply Kd.R_drew)); exact (Kd.R_mono (RF gb239 7 (RF gb239 6 (RF gb239 5 (RF gb239 4 (RF gb239 3 (RF gb239 2 (RF gb239 1 (RF gb239 0 (Kd.R_types HO236.out BK239.out (by decide)) (.int .i64 t224)) (.int .i64 t225)) (.int .i64 t226)) (.int .i64 t227)) (.slice Ao30 t228.length co30)) (.slice Ao31 t231.length co31)) (.slice Ao32 t234.length co32)) (.int .i64 t237)) (fun _ h_ => h_.1))))) (below_size (by repeat (first | (with_reducible first | exact HB.out | apply below_alloc | apply bdN | apply bd1 | refine below_set ?_ GE220.out | refine below_set ?_ GE239.out) | exact HB.out)))); have n6_ := As0 (blk_below (g := gb220) (o := .cells #[.int .i64 a0_0, .int .i64 a0_1, .int .i64 a0_2, .slice A0_3 l0_3.length c0_3] 63 (0, 0)) (by (with_reducible repeat (first | refine blk_drewN ?_ _ | refine blk_drew ?_ | refine blk_alloc ?_ _)); refine blk_far ?_ NB220_239.out _; (with_reducible repeat (first | refine blk_drewN ?_ _ | refine blk_drew ?_ | refine blk_alloc ?_ _)); refine blk_far ?_ NB220_239.out _; (with_reducible repeat (first | refine blk_drewN ?_ _ | refine blk_drew ?_ | refine blk_alloc ?_ _)); refine blk_far ?_ NB220_239.out _; (with_reducible repeat (first | refine blk_drewN ?_ _ | refine blk_drew ?_ | refine blk_alloc ?_ _)); refine blk_far ?_ NB220_239.out _; (with_reducible repeat (first | refine blk_drewN ?_ _ | refine blk_drew ?_ | refine blk_alloc ?_ _)); refine blk_far ?_ NB220_239.out _; (with_reducible repeat (first | refine blk_drewN ?_ _ | refine blk_drew ?_ | refine blk_alloc ?_ _)); refine blk_far ?_ NB220_239.out _; (with_reducible repeat (first | refine blk_drewN ?_ _ | refine blk_drew ?_ | refine blk_alloc ?_ _)); refine blk_far ?_ NB220_239.out _; (with_reducible repeat (first | refine blk_drewN ?_ _ | refine blk_drew ?_ | refine blk_alloc ?_ _)); refine blk_far ?_ NB220_239.out _; (with_reducible repeat (first | refine blk_drewN ?_ _ | refine blk_drew ?_ | refine blk_alloc ?_ _)); exact BK220.out) hb); have n7_ := As0 (blk_below (g := gb239) (o := .cells #[.int .i64 t224, .int .i64 t225, .int .i64 t226, .int .i64 t227, .slice Ao30 t228.length co30, .slice Ao31 t231.length co31, .slice Ao32 t234.length co32, .int .i64 t237] 39 (0, 0)) (by (with_reducible repeat (first | refine blk_drewN ?_ _ | refine blk_drew ?_ | refine blk_alloc ?_ _)); refine blk_put (cs := #[.int .i64 t224, .int .i64 t225, .int .i64 t226, .int .i64 t227, .slice Ao30 t228.length co30, .slice Ao31 t231.length co31, .slice Ao32 t234.length co32, .int .i64 0]) ?_ 7 _ rfl; (with_reducible repeat (first | refine blk_drewN ?_ _ | refine blk_drew ?_ | refine blk_alloc ?_ _)); refine blk_put (cs := #[.int .i64 t224, .int .i64 t225, .int .i64 t226, .int .i64 t227, .slice Ao30 t228.length co30, .slice Ao31 t231.length co31, .slice none 0 0, .int .i64 0]) ?_ 6 _ rfl; (with_reducible repeat (first | refine blk_drewN ?_ _ | refine blk_drew ?_ | refine blk_alloc ?_ _)); refine blk_put (cs := #[.int .i64 t224, .int .i64 t225, .int .i64 t226, .int .i64 t227, .slice Ao30 t228.length co30, .slice none 0 0, .slice none 0 0, .int .i64 0]) ?_ 5 _ rfl; (with_reducible repeat (first | refine blk_drewN ?_ _ | refine blk_drew ?_ | refine blk_alloc ?_ _)); refine blk_put (cs := #[.int .i64 t224, .int .i64 t225, .int .i64 t226, .int .i64 t227, .slice none 0 0, .slice none 0 0, .slice none 0 0, .int .i64 0]) ?_ 4 _ rfl; (with_reducible repeat (first | refine blk_drewN ?_ _ | refine blk_drew ?_ | refine blk_alloc ?_ _)); refine blk_put (cs := #[.int .i64 t224, .int .i64 t225, .int .i64 t226, .int .i64 0, .slice none 0 0, .slice none 0 0, .slice none 0 0, .int .i64 0]) ?_ 3 _ rfl; (with_reducible repeat (first | refine blk_drewN ?_ _ | refine blk_drew ?_ | refine blk_alloc ?_ _)); refine blk_put (cs := #[.int .i64 t224, .int .i64 t225, .int .i64 0, .int .i64 0, .slice none 0 0, .slice none 0 0, .slice none 0 0, .int .i64 0]) ?_ 2 _ rfl; (with_reducible repeat (first | refine blk_drewN ?_ _ | refine blk_drew ?_ | refine blk_alloc ?_ _)); refine blk_put (cs := #[.int .i64 t224, .int .i64 0, .int .i64 0, .int .i64 0, .slice none 0 0, .slice none 0 0, .slice none 0 0, .int .i64 0]) ?_ 1 _ rfl; (with_reducible repeat (first | refine blk_drewN ?_ _ | refine blk_drew ?_ | refine blk_alloc ?_ _)); refine blk_put (cs := #[.int .i64 0, .int .i64 0, .int .i64 0, .int .i64 0, .slice none 0 0, .slice none 0 0, .slice none 0 0, .int .i64 0]) ?_ 0 _ rfl; (with_reducible repeat (first | refine blk_drewN ?_ _ | refine blk_drew ?_ | refine blk_alloc ?_ _)); exact BK239.out) hb); have n8_ := As0 (below_step (by repeat (first | (with_reducible first | exact HB.out | apply below_alloc | apply bdN | apply bd1 | refine below_set ?_ GE220.out | refine below_set ?_ GE239.out) | exact HB.out)) hb); clear HO230 HO233 HO236 BK220 BK239 HB; have HO230 := n0_; have HO233 := n1_; have HO236 := n2_; have HO246 := n3_; have HO249 := n4_; have HO252 := n5_; have BK220 := n6_; have BK239 := n7_; have HB := n8_; clear n0_ n1_ n2_ n3_ n4_ n5_ n6_ n7_ n8_; (try clear hb); (try clear hb2); (try clear hk); (try clear hi); (try clear ho0); (try clear ho1); (try clear ho2)) | ((with_reducible refine gate_dst (N := 13) rfl ?_); (try (refine gate_guard (by rfl) ?_; dsimp only)); refine box_event ?hg (N := 13) ?hd (cs := #[.int .i64 0, .int .i64 0, .int .i64 0, .int .i64 0, .slice none 0 0, .slice none 0 0, .slice none 0 0, .int .i64 0]) (t := 39) ?hr ?_; (case hd => rfl); (case hg => rfl); (case hr => first | (go_simp; done) | (go_simp; rfl)); intro gb255 hg w35 hbox hb; have n0_ := As0 (Kd.R_below (by (with_reducible repeat (first | apply Kd.R_alloc | apply Kd.R_drewN | apply Kd.R_drew)); exact HO230.out) hb); have n1_ := As0 (Kd.R_below (by (with_reducible repeat (first | apply Kd.R_alloc | apply Kd.R_drewN | apply Kd.R_drew)); exact HO233.out) hb); have n2_ := As0 (Kd.R_below (by (with_reducible repeat (first | apply Kd.R_alloc | apply Kd.R_drewN | apply Kd.R_drew)); exact HO236.out) hb); have n3_ := As0 (Kd.R_below (by (with_reducible repeat (first | apply Kd.R_alloc | apply Kd.R_drewN | apply Kd.R_drew)); exact HO246.out) hb); have n4_ := As0 (Kd.R_below (by (with_reducible repeat (first | apply Kd.R_alloc | apply Kd.R_drewN | apply Kd.R_drew)); exact HO249.out) hb); have n5_ := As0 (Kd.R_below (by (with_reducible repeat (first | apply Kd.R_alloc | apply Kd.R_drewN | apply Kd.R_drew)); exact HO252.out) hb); have n6_ := As0 (blk_below (g := gb220) (o := .cells #[.int .i64 a0_0, .int .i64 a0_1, .int .i64 a0_2, .slice A0_3 l0_3.length c0_3] 63 (0, 0)) (by (with_reducible repeat (first | refine blk_drewN ?_ _ | refine blk_drew ?_ | refine blk_alloc ?_ _)); exact BK220.out) hb); have n7_ := As0 (blk_below (g := gb239) (o := .cells #[.int .i64 t224, .int .i64 t225, .int .i64 t226, .int .i64 t227, .slice Ao30 t228.length co30, .slice Ao31 t231.length co31, .slice Ao32 t234.length co32, .int .i64 t237] 39 (0, 0)) (by (with_reducible repeat (first | refine blk_drewN ?_ _ | refine blk_drew ?_ | refine blk_alloc ?_ _)); exact BK239.out) hb); have n8_ := As0 (below_step (by repeat (first | (with_reducible first | exact HB.out | apply below_alloc | apply bdN | apply bd1 | refine below_set ?_ GE220.out | refine below_set ?_ GE239.out) | exact HB.out)) hb); have n9_ := As0 (hbox); have n10_ := As0 ((by rw [hg]; exact (below_size (by repeat (first | (with_reducible first | exact HB.out | apply below_alloc | apply bdN | apply bd1 | refine below_set ?_ GE220.out | refine below_set ?_ GE239.out) | exact HB.out))) : w.heap.size ≤ gb255)); have n11_ := As0 ((by rw [hg]; exact (below_size (by repeat (first | (with_reducible first | exact HB.out | apply below_alloc | apply bdN | apply bd1 | refine below_set ?_ GE220.out | refine below_set ?_ GE239.out) | exact HB.out))) : w.heap.size ≤ gb255)); have n12_ := As0 ((by rw [hg]; exact Nat.ne_of_lt (blk_lt (g := gb220) (o := .cells #[.int .i64 a0_0, .int .i64 a0_1, .int .i64 a0_2, .slice A0_3 l0_3.length c0_3] 63 (0, 0)) (by (with_reducible repeat (first | refine blk_drewN ?_ _ | refine blk_drew ?_ | refine blk_alloc ?_ _)); exact BK220.out)) : gb220 ≠ gb255)); have n13_ := As0 ((by rw [hg]; exact Nat.ne_of_gt (blk_lt (g := gb220) (o := .cells #[.int .i64 a0_0, .int .i64 a0_1, .int .i64 a0_2, .slice A0_3 l0_3.length c0_3] 63 (0, 0)) (by (with_reducible repeat (first | refine blk_drewN ?_ _ | refine blk_drew ?_ | refine blk_alloc ?_ _)); exact BK220.out)) : gb255 ≠ gb220)); have n14_ := As0 ((by rw [hg]; exact Nat.ne_of_lt (blk_lt (g := gb239) (o := .cells #[.int .i64 t224, .int .i64 t225, .int .i64 t226, .int .i64 t227, .slice Ao30 t228.length co30, .slice Ao31 t231.length co31, .slice Ao32 t234.length co32, .int .i64 t237] 39 (0, 0)) (by (with_reducible repeat (first | refine blk_drewN ?_ _ | refine blk_drew ?_ | refine blk_alloc ?_ _)); exact BK239.out)) : gb239 ≠ gb255)); have n15_ := As0 ((by rw [hg]; exact Nat.ne_of_gt (blk_lt (g := gb239) (o := .cells #[.int .i64 t224, .int .i64 t225, .int .i64 t226, .int .i64 t227, .slice Ao30 t228.length co30, .slice Ao31 t231.length co31, .slice Ao32 t234.length co32, .int .i64 t237] 39 (0, 0)) (by (with_reducible repeat (first | refine blk_drewN ?_ _ | refine blk_drew ?_ | refine blk_alloc ?_ _)); exact BK239.out)) : gb255 ≠ gb239)); clear HO230 HO233 HO236 HO246 HO249 HO252 BK220 BK239 HB; have HO230 := n0_; have HO233 := n1_; have HO236 := n2_; have HO246 := n3_; have HO249 := n4_; have HO252 := n5_; have BK220 := n6_; have BK239 := n7_; have HB := n8_; have BK255 := n9_; have GW255 := n10_; have GE255 := n11_; have NB220_255 := n12_; have NB255_220 := n13_; have NB239_255 := n14_; have NB255_239 := n15_; clear n0_ n1_ n2_ n3_ n4_ n5_ n6_ n7_ n8_ n9_ n10_ n11_ n12_ n13_ n14_ n15_ hb hbox hg; have hnb36 := NB255_220.out; have hnc36 := NB220_255.out; have hnb37 := NB255_239.out; have hnc37 := NB239_255.out; have hcz38_0 : w35.cell? ⟨gb255, 0, none⟩ = some (.int .i64 0) := (blk_cell BK255.out 0).trans rfl; have hcz38_1 : w35.cell? ⟨gb255, 1, none⟩ = some (.int .i64 0) := (blk_cell BK255.out 1).trans rfl; have hcz38_2 : w35.cell? ⟨gb255, 2, none⟩ = some (.int .i64 0) := (blk_cell BK255.out 2).trans rfl; have hcz38_3 : w35.cell? ⟨gb255, 3, none⟩ = some (.int .i64 0) := (blk_cell BK255.out 3).trans rfl; have hcz38_4 : w35.cell? ⟨gb255, 4, none⟩ = some (.slice none 0 0) := (blk_cell BK255.out 4).trans rfl; have hcz38_5 : w35.cell? ⟨gb255, 5, none⟩ = some (.slice none 0 0) := (blk_cell BK255.out 5).trans rfl; have hcz38_6 : w35.cell? ⟨gb255, 6, none⟩ = some (.slice none 0 0) := (blk_cell BK255.out 6).trans rfl; have hcz38_7 : w35.cell? ⟨gb255, 7, none⟩ = some (.int .i64 0) := (blk_cell BK255.out 7).trans rfl; have hfz38_0 := blk_frozen BK255.out 0; have hfz38_1 := blk_frozen BK255.out 1; have hfz38_2 := blk_frozen BK255.out 2; have hfz38_3 := blk_frozen BK255.out 3; have hfz38_4 := blk_frozen BK255.out 4; have hfz38_5 := blk_frozen BK255.out 5; have hfz38_6 := blk_frozen BK255.out 6; have hfz38_7 := blk_frozen BK255.out 7; obtain ⟨Ao39, co39, eo39⟩ := Kd.R_slice HO246.out; subst eo39; obtain ⟨Ao40, co40, eo40⟩ := Kd.R_slice HO249.out; subst eo40; obtain ⟨Ao41, co41, eo41⟩ := Kd.R_slice HO252.out; subst eo41))
    (try simp only [Act.put, sL1, sL2, sL3])
    go_cut [81] (fun v81 wc => ∃ (kq : Nat) (x81_23 : Bool), v81 = .bool x81_23 ∧ Aside0 (regcertlaw10_ExecuteFuel.j1 kq x81_23 t224 t225 t226 t227 t228 t231 t234 t237 t240 t241 t242 t243 t244 t247 t250 t253 = some r) ∧ Aside0 (kq ≤ kj4) ∧ Aside0 (Kd.R (Kd.int .i64) 2 wc w.heap.size (fun k_ => some k_ ≠ ((.slice Ao31 t231.length co31) : Value).ownBlock ∧ some k_ ≠ ((.slice Ao32 t234.length co32) : Value).ownBlock ∧ some k_ ≠ ((.slice Ao39 t244.length co39) : Value).ownBlock ∧ some k_ ≠ ((.slice Ao40 t247.length co40) : Value).ownBlock ∧ some k_ ≠ ((.slice Ao41 t250.length co41) : Value).ownBlock) (.slice Ao30 t228.length co30) t228) ∧ Aside0 (Kd.R (Kd.int .i64) 2 wc w.heap.size (fun k_ => some k_ ≠ ((.slice Ao30 t228.length co30) : Value).ownBlock ∧ some k_ ≠ ((.slice Ao32 t234.length co32) : Value).ownBlock ∧ some k_ ≠ ((.slice Ao39 t244.length co39) : Value).ownBlock ∧ some k_ ≠ ((.slice Ao40 t247.length co40) : Value).ownBlock ∧ some k_ ≠ ((.slice Ao41 t250.length co41) : Value).ownBlock) (.slice Ao31 t231.length co31) t231) ∧ Aside0 (Kd.R (Kd.int .i64) 2 wc w.heap.size (fun k_ => some k_ ≠ ((.slice Ao30 t228.length co30) : Value).ownBlock ∧ some k_ ≠ ((.slice Ao31 t231.length co31) : Value).ownBlock ∧ some k_ ≠ ((.slice Ao39 t244.length co39) : Value).ownBlock ∧ some k_ ≠ ((.slice Ao40 t247.length co40) : Value).ownBlock ∧ some k_ ≠ ((.slice Ao41 t250.length co41) : Value).ownBlock) (.slice Ao32 t234.length co32) t234) ∧ Aside0 (Kd.R (Kd.int .i64) 2 wc w.heap.size (fun k_ => some k_ ≠ ((.slice Ao30 t228.length co30) : Value).ownBlock ∧ some k_ ≠ ((.slice Ao31 t231.length co31) : Value).ownBlock ∧ some k_ ≠ ((.slice Ao32 t234.length co32) : Value).ownBlock ∧ some k_ ≠ ((.slice Ao40 t247.length co40) : Value).ownBlock ∧ some k_ ≠ ((.slice Ao41 t250.length co41) : Value).ownBlock) (.slice Ao39 t244.length co39) t244) ∧ Aside0 (Kd.R (Kd.int .i64) 2 wc w.heap.size (fun k_ => some k_ ≠ ((.slice Ao30 t228.length co30) : Value).ownBlock ∧ some k_ ≠ ((.slice Ao31 t231.length co31) : Value).ownBlock ∧ some k_ ≠ ((.slice Ao32 t234.length co32) : Value).ownBlock ∧ some k_ ≠ ((.slice Ao39 t244.length co39) : Value).ownBlock ∧ some k_ ≠ ((.slice Ao41 t250.length co41) : Value).ownBlock) (.slice Ao40 t247.length co40) t247) ∧ Aside0 (Kd.R (Kd.int .i64) 2 wc w.heap.size (fun k_ => some k_ ≠ ((.slice Ao30 t228.length co30) : Value).ownBlock ∧ some k_ ≠ ((.slice Ao31 t231.length co31) : Value).ownBlock ∧ some k_ ≠ ((.slice Ao32 t234.length co32) : Value).ownBlock ∧ some k_ ≠ ((.slice Ao39 t244.length co39) : Value).ownBlock ∧ some k_ ≠ ((.slice Ao40 t247.length co40) : Value).ownBlock) (.slice Ao41 t250.length co41) t250) ∧ Aside0 (wc.heap[gb220]? = some (.cells #[.int .i64 a0_0, .int .i64 a0_1, .int .i64 a0_2, (.slice A0_3 l0_3.length c0_3)] 63 (0, 0))) ∧ Aside0 (wc.heap[gb239]? = some (.cells #[.int .i64 t224, .int .i64 t225, .int .i64 t226, .int .i64 t227, (.slice Ao30 t228.length co30), (.slice Ao31 t231.length co31), (.slice Ao32 t234.length co32), .int .i64 t237] 39 (0, 0))) ∧ Aside0 (wc.heap[gb255]? = some (.cells #[.int .i64 t240, .int .i64 t241, .int .i64 t242, .int .i64 t243, (.slice Ao39 t244.length co39), (.slice Ao40 t247.length co40), (.slice Ao41 t250.length co41), .int .i64 t253] 39 (0, 0))) ∧ Aside0 (Below w.heap.size w wc))
    case first =>
     have H := HC24.out
     clear HC24
     by_cases c42 : t237 > (Int.tmod (wrap64 (a2)) 200)
     ·rw [if_pos c42] at H
      have c42b0 : decide ((Int.tmod (wrap64 (a2)) 200) < t237) = true := decide_eq_true c42
      clear c42
      (first | rw [c42b0] | (simp only [i64_w, i32_w]; rw [c42b0]) | skip)
      have H' := As0 H
      clear H
      have hnb43 := NB239_220.out
      have hnc43 := NB220_239.out
      have hnb44 := NB239_255.out
      have hnc44 := NB255_239.out
      have hcz45_0 : w35.cell? ⟨gb239, 0, none⟩ = some (.int .i64 t224) := (blk_cell BK239.out 0).trans rfl
      have hcz45_1 : w35.cell? ⟨gb239, 1, none⟩ = some (.int .i64 t225) := (blk_cell BK239.out 1).trans rfl
      have hcz45_2 : w35.cell? ⟨gb239, 2, none⟩ = some (.int .i64 t226) := (blk_cell BK239.out 2).trans rfl
      have hcz45_3 : w35.cell? ⟨gb239, 3, none⟩ = some (.int .i64 t227) := (blk_cell BK239.out 3).trans rfl
      have hcz45_4 : w35.cell? ⟨gb239, 4, none⟩ = some (.slice Ao30 t228.length co30) := (blk_cell BK239.out 4).trans rfl
      have hcz45_5 : w35.cell? ⟨gb239, 5, none⟩ = some (.slice Ao31 t231.length co31) := (blk_cell BK239.out 5).trans rfl
      have hcz45_6 : w35.cell? ⟨gb239, 6, none⟩ = some (.slice Ao32 t234.length co32) := (blk_cell BK239.out 6).trans rfl
      have hcz45_7 : w35.cell? ⟨gb239, 7, none⟩ = some (.int .i64 t237) := (blk_cell BK239.out 7).trans rfl
      have hfz45_0 := blk_frozen BK239.out 0
      have hfz45_1 := blk_frozen BK239.out 1
      have hfz45_2 := blk_frozen BK239.out 2
      have hfz45_3 := blk_frozen BK239.out 3
      have hfz45_4 := blk_frozen BK239.out 4
      have hfz45_5 := blk_frozen BK239.out 5
      have hfz45_6 := blk_frozen BK239.out 6
      have hfz45_7 := blk_frozen BK239.out 7
      go_wp2
      go_meet
      case rel => exact ⟨_, (true), (by first | rfl | (simp; done) | (simp [*]; done)), H', ⟨by have := HJ4.out; first | omega | exact Nat.le_refl _⟩, ⟨by (with_reducible repeat (first | apply Kd.R_alloc | apply Kd.R_drewN | apply Kd.R_drew)); exact Kd.R_mono (RF gb255 7 (RF gb255 6 (RF gb255 5 (RF gb255 4 (RF gb255 3 (RF gb255 2 (RF gb255 1 (RF gb255 0 (Kd.R_types HO230.out BK255.out (by decide)) (.int .i64 t240)) (.int .i64 t241)) (.int .i64 t242)) (.int .i64 t243)) (.slice Ao39 t244.length co39)) (.slice Ao40 t247.length co40)) (.slice Ao41 t250.length co41)) (.int .i64 t253)) (fun _ hk => ⟨hk.1.1.1.1.1, ⟨hk.1.1.1.1.2, ⟨hk.1.1.1.2, ⟨hk.1.1.2, hk.1.2⟩⟩⟩⟩)⟩, ⟨by (with_reducible repeat (first | apply Kd.R_alloc | apply Kd.R_drewN | apply Kd.R_drew)); exact Kd.R_mono (RF gb255 7 (RF gb255 6 (RF gb255 5 (RF gb255 4 (RF gb255 3 (RF gb255 2 (RF gb255 1 (RF gb255 0 (Kd.R_types HO233.out BK255.out (by decide)) (.int .i64 t240)) (.int .i64 t241)) (.int .i64 t242)) (.int .i64 t243)) (.slice Ao39 t244.length co39)) (.slice Ao40 t247.length co40)) (.slice Ao41 t250.length co41)) (.int .i64 t253)) (fun _ hk => ⟨hk.1.1.1.1.1, ⟨hk.1.1.1.1.2, ⟨hk.1.1.1.2, ⟨hk.1.1.2, hk.1.2⟩⟩⟩⟩)⟩, ⟨by (with_reducible repeat (first | apply Kd.R_alloc | apply Kd.R_drewN | apply Kd.R_drew)); exact Kd.R_mono (RF gb255 7 (RF gb255 6 (RF gb255 5 (RF gb255 4 (RF gb255 3 (RF gb255 2 (RF gb255 1 (RF gb255 0 (Kd.R_types HO236.out BK255.out (by decide)) (.int .i64 t240)) (.int .i64 t241)) (.int .i64 t242)) (.int .i64 t243)) (.slice Ao39 t244.length co39)) (.slice Ao40 t247.length co40)) (.slice Ao41 t250.length co41)) (.int .i64 t253)) (fun _ hk => ⟨hk.1.1.1.1.1, ⟨hk.1.1.1.1.2, ⟨hk.1.1.1.2, ⟨hk.1.1.2, hk.1.2⟩⟩⟩⟩)⟩, ⟨by (with_reducible repeat (first | apply Kd.R_alloc | apply Kd.R_drewN | apply Kd.R_drew)); exact Kd.R_mono (RF gb255 7 (RF gb255 6 (RF gb255 5 (RF gb255 4 (RF gb255 3 (RF gb255 2 (RF gb255 1 (RF gb255 0 (Kd.R_types HO246.out BK255.out (by decide)) (.int .i64 t240)) (.int .i64 t241)) (.int .i64 t242)) (.int .i64 t243)) (.slice Ao39 t244.length co39)) (.slice Ao40 t247.length co40)) (.slice Ao41 t250.length co41)) (.int .i64 t253)) (fun _ hk => ⟨hk.1.1.1.2, ⟨hk.1.1.2, ⟨hk.1.2, ⟨hk.1.1.1.1.1, hk.1.1.1.1.2⟩⟩⟩⟩)⟩, ⟨by (with_reducible repeat (first | apply Kd.R_alloc | apply Kd.R_drewN | apply Kd.R_drew)); exact Kd.R_mono (RF gb255 7 (RF gb255 6 (RF gb255 5 (RF gb255 4 (RF gb255 3 (RF gb255 2 (RF gb255 1 (RF gb255 0 (Kd.R_types HO249.out BK255.out (by decide)) (.int .i64 t240)) (.int .i64 t241)) (.int .i64 t242)) (.int .i64 t243)) (.slice Ao39 t244.length co39)) (.slice Ao40 t247.length co40)) (.slice Ao41 t250.length co41)) (.int .i64 t253)) (fun _ hk => ⟨hk.1.1.1.2, ⟨hk.1.1.2, ⟨hk.1.2, ⟨hk.1.1.1.1.1, hk.1.1.1.1.2⟩⟩⟩⟩)⟩, ⟨by (with_reducible repeat (first | apply Kd.R_alloc | apply Kd.R_drewN | apply Kd.R_drew)); exact Kd.R_mono (RF gb255 7 (RF gb255 6 (RF gb255 5 (RF gb255 4 (RF gb255 3 (RF gb255 2 (RF gb255 1 (RF gb255 0 (Kd.R_types HO252.out BK255.out (by decide)) (.int .i64 t240)) (.int .i64 t241)) (.int .i64 t242)) (.int .i64 t243)) (.slice Ao39 t244.length co39)) (.slice Ao40 t247.length co40)) (.slice Ao41 t250.length co41)) (.int .i64 t253)) (fun _ hk => ⟨hk.1.1.1.2, ⟨hk.1.1.2, ⟨hk.1.2, ⟨hk.1.1.1.1.1, hk.1.1.1.1.2⟩⟩⟩⟩)⟩, ⟨by (with_reducible repeat (first | refine blk_drewN ?_ _ | refine blk_drew ?_ | refine blk_alloc ?_ _)); refine blk_far ?_ NB220_255.out _; (with_reducible repeat (first | refine blk_drewN ?_ _ | refine blk_drew ?_ | refine blk_alloc ?_ _)); refine blk_far ?_ NB220_255.out _; (with_reducible repeat (first | refine blk_drewN ?_ _ | refine blk_drew ?_ | refine blk_alloc ?_ _)); refine blk_far ?_ NB220_255.out _; (with_reducible repeat (first | refine blk_drewN ?_ _ | refine blk_drew ?_ | refine blk_alloc ?_ _)); refine blk_far ?_ NB220_255.out _; (with_reducible repeat (first | refine blk_drewN ?_ _ | refine blk_drew ?_ | refine blk_alloc ?_ _)); refine blk_far ?_ NB220_255.out _; (with_reducible repeat (first | refine blk_drewN ?_ _ | refine blk_drew ?_ | refine blk_alloc ?_ _)); refine blk_far ?_ NB220_255.out _; (with_reducible repeat (first | refine blk_drewN ?_ _ | refine blk_drew ?_ | refine blk_alloc ?_ _)); refine blk_far ?_ NB220_255.out _; (with_reducible repeat (first | refine blk_drewN ?_ _ | refine blk_drew ?_ | refine blk_alloc ?_ _)); refine blk_far ?_ NB220_255.out _; (with_reducible repeat (first | refine blk_drewN ?_ _ | refine blk_drew ?_ | refine blk_alloc ?_ _)); exact BK220.out⟩, ⟨by (with_reducible repeat (first | refine blk_drewN ?_ _ | refine blk_drew ?_ | refine blk_alloc ?_ _)); refine blk_far ?_ NB239_255.out _; (with_reducible repeat (first | refine blk_drewN ?_ _ | refine blk_drew ?_ | refine blk_alloc ?_ _)); refine blk_far ?_ NB239_255.out _; (with_reducible repeat (first | refine blk_drewN ?_ _ | refine blk_drew ?_ | refine blk_alloc ?_ _)); refine blk_far ?_ NB239_255.out _; (with_reducible repeat (first | refine blk_drewN ?_ _ | refine blk_drew ?_ | refine blk_alloc ?_ _)); refine blk_far ?_ NB239_255.out _; (with_reducible repeat (first | refine blk_drewN ?_ _ | refine blk_drew ?_ | refine blk_alloc ?_ _)); refine blk_far ?_ NB239_255.out _; (with_reducible repeat (first | refine blk_drewN ?_ _ | refine blk_drew ?_ | refine blk_alloc ?_ _)); refine blk_far ?_ NB239_255.out _; (with_reducible repeat (first | refine blk_drewN ?_ _ | refine blk_drew ?_ | refine blk_alloc ?_ _)); refine blk_far ?_ NB239_255.out _; (with_reducible repeat (first | refine blk_drewN ?_ _ | refine blk_drew ?_ | refine blk_alloc ?_ _)); refine blk_far ?_ NB239_255.out _; (with_reducible repeat (first | refine blk_drewN ?_ _ | refine blk_drew ?_ | refine blk_alloc ?_ _)); exact BK239.out⟩, ⟨by (with_reducible repeat (first | refine blk_drewN ?_ _ | refine blk_drew ?_ | refine blk_alloc ?_ _)); refine blk_put (cs := #[.int .i64 t240, .int .i64 t241, .int .i64 t242, .int .i64 t243, .slice Ao39 t244.length co39, .slice Ao40 t247.length co40, .slice Ao41 t250.length co41, .int .i64 0]) ?_ 7 _ rfl; (with_reducible repeat (first | refine blk_drewN ?_ _ | refine blk_drew ?_ | refine blk_alloc ?_ _)); refine blk_put (cs := #[.int .i64 t240, .int .i64 t241, .int .i64 t242, .int .i64 t243, .slice Ao39 t244.length co39, .slice Ao40 t247.length co40, .slice none 0 0, .int .i64 0]) ?_ 6 _ rfl; (with_reducible repeat (first | refine blk_drewN ?_ _ | refine blk_drew ?_ | refine blk_alloc ?_ _)); refine blk_put (cs := #[.int .i64 t240, .int .i64 t241, .int .i64 t242, .int .i64 t243, .slice Ao39 t244.length co39, .slice none 0 0, .slice none 0 0, .int .i64 0]) ?_ 5 _ rfl; (with_reducible repeat (first | refine blk_drewN ?_ _ | refine blk_drew ?_ | refine blk_alloc ?_ _)); refine blk_put (cs := #[.int .i64 t240, .int .i64 t241, .int .i64 t242, .int .i64 t243, .slice none 0 0, .slice none 0 0, .slice none 0 0, .int .i64 0]) ?_ 4 _ rfl; (with_reducible repeat (first | refine blk_drewN ?_ _ | refine blk_drew ?_ | refine blk_alloc ?_ _)); refine blk_put (cs := #[.int .i64 t240, .int .i64 t241, .int .i64 t242, .int .i64 0, .slice none 0 0, .slice none 0 0, .slice none 0 0, .int .i64 0]) ?_ 3 _ rfl; (with_reducible repeat (first | refine blk_drewN ?_ _ | refine blk_drew ?_ | refine blk_alloc ?_ _)); refine blk_put (cs := #[.int .i64 t240, .int .i64 t241, .int .i64 0, .int .i64 0, .slice none 0 0, .slice none 0 0, .slice none 0 0, .int .i64 0]) ?_ 2 _ rfl; (with_reducible repeat (first | refine blk_drewN ?_ _ | refine blk_drew ?_ | refine blk_alloc ?_ _)); refine blk_put (cs := #[.int .i64 t240, .int .i64 0, .int .i64 0, .int .i64 0, .slice none 0 0, .slice none 0 0, .slice none 0 0, .int .i64 0]) ?_ 1 _ rfl; (with_reducible repeat (first | refine blk_drewN ?_ _ | refine blk_drew ?_ | refine blk_alloc ?_ _)); refine blk_put (cs := #[.int .i64 0, .int .i64 0, .int .i64 0, .int .i64 0, .slice none 0 0, .slice none 0 0, .slice none 0 0, .int .i64 0]) ?_ 0 _ rfl; (with_reducible repeat (first | refine blk_drewN ?_ _ | refine blk_drew ?_ | refine blk_alloc ?_ _)); exact BK255.out⟩, ⟨by repeat (first | (with_reducible first | exact HB.out | apply below_alloc | apply bdN | apply bd1 | refine below_set ?_ GE220.out | refine below_set ?_ GE239.out | refine below_set ?_ GE255.out) | exact HB.out)⟩⟩
     ·rw [if_neg c42] at H
      have c42b0 : decide ((Int.tmod (wrap64 (a2)) 200) < t237) = false := decide_eq_false c42
      clear c42
      (first | rw [c42b0] | (simp only [i64_w, i32_w]; rw [c42b0]) | skip)
      by_cases c46 : t253 > (wrap64 ((Int.tmod (wrap64 (a2)) 200) + (Int.tmod (wrap64 (a3)) 200)))
      ·rw [if_pos c46] at H
       have c46b0 : decide ((wrap64 ((Int.tmod (wrap64 (a2)) 200) + (Int.tmod (wrap64 (a3)) 200))) < t253) = true := decide_eq_true c46
       clear c46
       have H' := As0 H
       clear H
       have hnb47 := NB239_220.out
       have hnc47 := NB220_239.out
       have hnb48 := NB239_255.out
       have hnc48 := NB255_239.out
       have hcz49_0 : w35.cell? ⟨gb239, 0, none⟩ = some (.int .i64 t224) := (blk_cell BK239.out 0).trans rfl
       have hcz49_1 : w35.cell? ⟨gb239, 1, none⟩ = some (.int .i64 t225) := (blk_cell BK239.out 1).trans rfl
       have hcz49_2 : w35.cell? ⟨gb239, 2, none⟩ = some (.int .i64 t226) := (blk_cell BK239.out 2).trans rfl
       have hcz49_3 : w35.cell? ⟨gb239, 3, none⟩ = some (.int .i64 t227) := (blk_cell BK239.out 3).trans rfl
       have hcz49_4 : w35.cell? ⟨gb239, 4, none⟩ = some (.slice Ao30 t228.length co30) := (blk_cell BK239.out 4).trans rfl
       have hcz49_5 : w35.cell? ⟨gb239, 5, none⟩ = some (.slice Ao31 t231.length co31) := (blk_cell BK239.out 5).trans rfl
       have hcz49_6 : w35.cell? ⟨gb239, 6, none⟩ = some (.slice Ao32 t234.length co32) := (blk_cell BK239.out 6).trans rfl
       have hcz49_7 : w35.cell? ⟨gb239, 7, none⟩ = some (.int .i64 t237) := (blk_cell BK239.out 7).trans rfl
       have hfz49_0 := blk_frozen BK239.out 0
       have hfz49_1 := blk_frozen BK239.out 1
       have hfz49_2 := blk_frozen BK239.out 2
       have hfz49_3 := blk_frozen BK239.out 3
       have hfz49_4 := blk_frozen BK239.out 4
       have hfz49_5 := blk_frozen BK239.out 5
       have hfz49_6 := blk_frozen BK239.out 6
       have hfz49_7 := blk_frozen BK239.out 7
       have hnb50 := NB255_220.out
       have hnc50 := NB220_255.out
       have hcz51_0 : w35.cell? ⟨gb255, 0, none⟩ = some (.int .i64 0) := (blk_cell BK255.out 0).trans rfl
       have hcz51_1 : w35.cell? ⟨gb255, 1, none⟩ = some (.int .i64 0) := (blk_cell BK255.out 1).trans rfl
       have hcz51_2 : w35.cell? ⟨gb255, 2, none⟩ = some (.int .i64 0) := (blk_cell BK255.out 2).trans rfl
       have hcz51_3 : w35.cell? ⟨gb255, 3, none⟩ = some (.int .i64 0) := (blk_cell BK255.out 3).trans rfl
       have hcz51_4 : w35.cell? ⟨gb255, 4, none⟩ = some (.slice none 0 0) := (blk_cell BK255.out 4).trans rfl
       have hcz51_5 : w35.cell? ⟨gb255, 5, none⟩ = some (.slice none 0 0) := (blk_cell BK255.out 5).trans rfl
       have hcz51_6 : w35.cell? ⟨gb255, 6, none⟩ = some (.slice none 0 0) := (blk_cell BK255.out 6).trans rfl
       have hcz51_7 : w35.cell? ⟨gb255, 7, none⟩ = some (.int .i64 0) := (blk_cell BK255.out 7).trans rfl
       have hfz51_0 := blk_frozen BK255.out 0
       have hfz51_1 := blk_frozen BK255.out 1
       have hfz51_2 := blk_frozen BK255.out 2
       have hfz51_3 := blk_frozen BK255.out 3
       have hfz51_4 := blk_frozen BK255.out 4
       have hfz51_5 := blk_frozen BK255.out 5
       have hfz51_6 := blk_frozen BK255.out 6
       have hfz51_7 := blk_frozen BK255.out 7
       go_wp2
       go_meet
       case rel => exact ⟨_, (true), (by first | rfl | (simp; done) | (simp [*]; done)), H', ⟨by have := HJ4.out; first | omega | exact Nat.le_refl _⟩, ⟨by (with_reducible repeat (first | apply Kd.R_alloc | apply Kd.R_drewN | apply Kd.R_drew)); exact Kd.R_mono (RF gb255 7 (RF gb255 6 (RF gb255 5 (RF gb255 4 (RF gb255 3 (RF gb255 2 (RF gb255 1 (RF gb255 0 (Kd.R_types HO230.out BK255.out (by decide)) (.int .i64 t240)) (.int .i64 t241)) (.int .i64 t242)) (.int .i64 t243)) (.slice Ao39 t244.length co39)) (.slice Ao40 t247.length co40)) (.slice Ao41 t250.length co41)) (.int .i64 t253)) (fun _ hk => ⟨hk.1.1.1.1.1, ⟨hk.1.1.1.1.2, ⟨hk.1.1.1.2, ⟨hk.1.1.2, hk.1.2⟩⟩⟩⟩)⟩, ⟨by (with_reducible repeat (first | apply Kd.R_alloc | apply Kd.R_drewN | apply Kd.R_drew)); exact Kd.R_mono (RF gb255 7 (RF gb255 6 (RF gb255 5 (RF gb255 4 (RF gb255 3 (RF gb255 2 (RF gb255 1 (RF gb255 0 (Kd.R_types HO233.out BK255.out (by decide)) (.int .i64 t240)) (.int .i64 t241)) (.int .i64 t242)) (.int .i64 t243)) (.slice Ao39 t244.length co39)) (.slice Ao40 t247.length co40)) (.slice Ao41 t250.length co41)) (.int .i64 t253)) (fun _ hk => ⟨hk.1.1.1.1.1, ⟨hk.1.1.1.1.2, ⟨hk.1.1.1.2, ⟨hk.1.1.2, hk.1.2⟩⟩⟩⟩)⟩, ⟨by (with_reducible repeat (first | apply Kd.R_alloc | apply Kd.R_drewN | apply Kd.R_drew)); exact Kd.R_mono (RF gb255 7 (RF gb255 6 (RF gb255 5 (RF gb255 4 (RF gb255 3 (RF gb255 2 (RF gb255 1 (RF gb255 0 (Kd.R_types HO236.out BK255.out (by decide)) (.int .i64 t240)) (.int .i64 t241)) (.int .i64 t242)) (.int .i64 t243)) (.slice Ao39 t244.length co39)) (.slice Ao40 t247.length co40)) (.slice Ao41 t250.length co41)) (.int .i64 t253)) (fun _ hk => ⟨hk.1.1.1.1.1, ⟨hk.1.1.1.1.2, ⟨hk.1.1.1.2, ⟨hk.1.1.2, hk.1.2⟩⟩⟩⟩)⟩, ⟨by (with_reducible repeat (first | apply Kd.R_alloc | apply Kd.R_drewN | apply Kd.R_drew)); exact Kd.R_mono (RF gb255 7 (RF gb255 6 (RF gb255 5 (RF gb255 4 (RF gb255 3 (RF gb255 2 (RF gb255 1 (RF gb255 0 (Kd.R_types HO246.out BK255.out (by decide)) (.int .i64 t240)) (.int .i64 t241)) (.int .i64 t242)) (.int .i64 t243)) (.slice Ao39 t244.length co39)) (.slice Ao40 t247.length co40)) (.slice Ao41 t250.length co41)) (.int .i64 t253)) (fun _ hk => ⟨hk.1.1.1.2, ⟨hk.1.1.2, ⟨hk.1.2, ⟨hk.1.1.1.1.1, hk.1.1.1.1.2⟩⟩⟩⟩)⟩, ⟨by (with_reducible repeat (first | apply Kd.R_alloc | apply Kd.R_drewN | apply Kd.R_drew)); exact Kd.R_mono (RF gb255 7 (RF gb255 6 (RF gb255 5 (RF gb255 4 (RF gb255 3 (RF gb255 2 (RF gb255 1 (RF gb255 0 (Kd.R_types HO249.out BK255.out (by decide)) (.int .i64 t240)) (.int .i64 t241)) (.int .i64 t242)) (.int .i64 t243)) (.slice Ao39 t244.length co39)) (.slice Ao40 t247.length co40)) (.slice Ao41 t250.length co41)) (.int .i64 t253)) (fun _ hk => ⟨hk.1.1.1.2, ⟨hk.1.1.2, ⟨hk.1.2, ⟨hk.1.1.1.1.1, hk.1.1.1.1.2⟩⟩⟩⟩)⟩, ⟨by (with_reducible repeat (first | apply Kd.R_alloc | apply Kd.R_drewN | apply Kd.R_drew)); exact Kd.R_mono (RF gb255 7 (RF gb255 6 (RF gb255 5 (RF gb255 4 (RF gb255 3 (RF gb255 2 (RF gb255 1 (RF gb255 0 (Kd.R_types HO252.out BK255.out (by decide)) (.int .i64 t240)) (.int .i64 t241)) (.int .i64 t242)) (.int .i64 t243)) (.slice Ao39 t244.length co39)) (.slice Ao40 t247.length co40)) (.slice Ao41 t250.length co41)) (.int .i64 t253)) (fun _ hk => ⟨hk.1.1.1.2, ⟨hk.1.1.2, ⟨hk.1.2, ⟨hk.1.1.1.1.1, hk.1.1.1.1.2⟩⟩⟩⟩)⟩, ⟨by (with_reducible repeat (first | refine blk_drewN ?_ _ | refine blk_drew ?_ | refine blk_alloc ?_ _)); refine blk_far ?_ NB220_255.out _; (with_reducible repeat (first | refine blk_drewN ?_ _ | refine blk_drew ?_ | refine blk_alloc ?_ _)); refine blk_far ?_ NB220_255.out _; (with_reducible repeat (first | refine blk_drewN ?_ _ | refine blk_drew ?_ | refine blk_alloc ?_ _)); refine blk_far ?_ NB220_255.out _; (with_reducible repeat (first | refine blk_drewN ?_ _ | refine blk_drew ?_ | refine blk_alloc ?_ _)); refine blk_far ?_ NB220_255.out _; (with_reducible repeat (first | refine blk_drewN ?_ _ | refine blk_drew ?_ | refine blk_alloc ?_ _)); refine blk_far ?_ NB220_255.out _; (with_reducible repeat (first | refine blk_drewN ?_ _ | refine blk_drew ?_ | refine blk_alloc ?_ _)); refine blk_far ?_ NB220_255.out _; (with_reducible repeat (first | refine blk_drewN ?_ _ | refine blk_drew ?_ | refine blk_alloc ?_ _)); refine blk_far ?_ NB220_255.out _; (with_reducible repeat (first | refine blk_drewN ?_ _ | refine blk_drew ?_ | refine blk_alloc ?_ _)); refine blk_far ?_ NB220_255.out _; (with_reducible repeat (first | refine blk_drewN ?_ _ | refine blk_drew ?_ | refine blk_alloc ?_ _)); exact BK220.out⟩, ⟨by (with_reducible repeat (first | refine blk_drewN ?_ _ | refine blk_drew ?_ | refine blk_alloc ?_ _)); refine blk_far ?_ NB239_255.out _; (with_reducible repeat (first | refine blk_drewN ?_ _ | refine blk_drew ?_ | refine blk_alloc ?_ _)); refine blk_far ?_ NB239_255.out _; (with_reducible repeat (first | refine blk_drewN ?_ _ | refine blk_drew ?_ | refine blk_alloc ?_ _)); refine blk_far ?_ NB239_255.out _; (with_reducible repeat (first | refine blk_drewN ?_ _ | refine blk_drew ?_ | refine blk_alloc ?_ _)); refine blk_far ?_ NB239_255.out _; (with_reducible repeat (first | refine blk_drewN ?_ _ | refine blk_drew ?_ | refine blk_alloc ?_ _)); refine blk_far ?_ NB239_255.out _; (with_reducible repeat (first | refine blk_drewN ?_ _ | refine blk_drew ?_ | refine blk_alloc ?_ _)); refine blk_far ?_ NB239_255.out _; (with_reducible repeat (first | refine blk_drewN ?_ _ | refine blk_drew ?_ | refine blk_alloc ?_ _)); refine blk_far ?_ NB239_255.out _; (with_reducible repeat (first | refine blk_drewN ?_ _ | refine blk_drew ?_ | refine blk_alloc ?_ _)); refine blk_far ?_ NB239_255.out _; (with_reducible repeat (first | refine blk_drewN ?_ _ | refine blk_drew ?_ | refine blk_alloc ?_ _)); exact BK239.out⟩, ⟨by (with_reducible repeat (first | refine blk_drewN ?_ _ | refine blk_drew ?_ | refine blk_alloc ?_ _)); refine blk_put (cs := #[.int .i64 t240, .int .i64 t241, .int .i64 t242, .int .i64 t243, .slice Ao39 t244.length co39, .slice Ao40 t247.length co40, .slice Ao41 t250.length co41, .int .i64 0]) ?_ 7 _ rfl; (with_reducible repeat (first | refine blk_drewN ?_ _ | refine blk_drew ?_ | refine blk_alloc ?_ _)); refine blk_put (cs := #[.int .i64 t240, .int .i64 t241, .int .i64 t242, .int .i64 t243, .slice Ao39 t244.length co39, .slice Ao40 t247.length co40, .slice none 0 0, .int .i64 0]) ?_ 6 _ rfl; (with_reducible repeat (first | refine blk_drewN ?_ _ | refine blk_drew ?_ | refine blk_alloc ?_ _)); refine blk_put (cs := #[.int .i64 t240, .int .i64 t241, .int .i64 t242, .int .i64 t243, .slice Ao39 t244.length co39, .slice none 0 0, .slice none 0 0, .int .i64 0]) ?_ 5 _ rfl; (with_reducible repeat (first | refine blk_drewN ?_ _ | refine blk_drew ?_ | refine blk_alloc ?_ _)); refine blk_put (cs := #[.int .i64 t240, .int .i64 t241, .int .i64 t242, .int .i64 t243, .slice none 0 0, .slice none 0 0, .slice none 0 0, .int .i64 0]) ?_ 4 _ rfl; (with_reducible repeat (first | refine blk_drewN ?_ _ | refine blk_drew ?_ | refine blk_alloc ?_ _)); refine blk_put (cs := #[.int .i64 t240, .int .i64 t241, .int .i64 t242, .int .i64 0, .slice none 0 0, .slice none 0 0, .slice none 0 0, .int .i64 0]) ?_ 3 _ rfl; (with_reducible repeat (first | refine blk_drewN ?_ _ | refine blk_drew ?_ | refine blk_alloc ?_ _)); refine blk_put (cs := #[.int .i64 t240, .int .i64 t241, .int .i64 0, .int .i64 0, .slice none 0 0, .slice none 0 0, .slice none 0 0, .int .i64 0]) ?_ 2 _ rfl; (with_reducible repeat (first | refine blk_drewN ?_ _ | refine blk_drew ?_ | refine blk_alloc ?_ _)); refine blk_put (cs := #[.int .i64 t240, .int .i64 0, .int .i64 0, .int .i64 0, .slice none 0 0, .slice none 0 0, .slice none 0 0, .int .i64 0]) ?_ 1 _ rfl; (with_reducible repeat (first | refine blk_drewN ?_ _ | refine blk_drew ?_ | refine blk_alloc ?_ _)); refine blk_put (cs := #[.int .i64 0, .int .i64 0, .int .i64 0, .int .i64 0, .slice none 0 0, .slice none 0 0, .slice none 0 0, .int .i64 0]) ?_ 0 _ rfl; (with_reducible repeat (first | refine blk_drewN ?_ _ | refine blk_drew ?_ | refine blk_alloc ?_ _)); exact BK255.out⟩, ⟨by repeat (first | (with_reducible first | exact HB.out | apply below_alloc | apply bdN | apply bd1 | refine below_set ?_ GE220.out | refine below_set ?_ GE239.out | refine below_set ?_ GE255.out) | exact HB.out)⟩⟩
      ·rw [if_neg c46] at H
       have c46b0 : decide ((wrap64 ((Int.tmod (wrap64 (a2)) 200) + (Int.tmod (wrap64 (a3)) 200))) < t253) = false := decide_eq_false c46
       clear c46
       replace H := Option.bind_eq_some_iff.mp H
       obtain ⟨t256, A520, H⟩ := H
       replace H : (if t256 = true then (if t224 = 0 then (regcertlaw10_ExecuteFuel.j1 kj4 (t237 != (Int.tmod (wrap64 (a2)) 200)) t224 t225 t226 t227 t228 t231 t234 t237 t240 t241 t242 t243 t244 t247 t250 t253) else (regcertlaw10_ExecuteFuel.j1 kj4 false t224 t225 t226 t227 t228 t231 t234 t237 t240 t241 t242 t243 t244 t247 t250 t253)) else (regcertlaw10_ExecuteFuel.j1 kj4 true t224 t225 t226 t227 t228 t231 t234 t237 t240 t241 t242 t243 t244 t247 t250 t253)) = some r := H
       have A52 := As0 A520
       clear A520
       by_cases c53 : t256 = true
       ·subst c53
        have H1 : (if t224 = 0 then (regcertlaw10_ExecuteFuel.j1 kj4 (t237 != (Int.tmod (wrap64 (a2)) 200)) t224 t225 t226 t227 t228 t231 t234 t237 t240 t241 t242 t243 t244 t247 t250 t253) else (regcertlaw10_ExecuteFuel.j1 kj4 false t224 t225 t226 t227 t228 t231 t234 t237 t240 t241 t242 t243 t244 t247 t250 t253)) = some r := by rw [if_pos rfl] at H; exact H
        clear H
        have H := H1
        clear H1
        by_cases c54 : t224 = 0
        ·rw [if_pos c54] at H
         have c54b0 : (t224 == 0) = true := beq_iff_eq.mpr c54
         have c54b1 : (t224 != 0) = false := bne_eq_false_iff_eq.mpr c54
         clear c54
         have H' := As0 H
         clear H
         have hnb55 := NB239_220.out
         have hnc55 := NB220_239.out
         have hnb56 := NB239_255.out
         have hnc56 := NB255_239.out
         have hcz57_0 : w35.cell? ⟨gb239, 0, none⟩ = some (.int .i64 t224) := (blk_cell BK239.out 0).trans rfl
         have hcz57_1 : w35.cell? ⟨gb239, 1, none⟩ = some (.int .i64 t225) := (blk_cell BK239.out 1).trans rfl
         have hcz57_2 : w35.cell? ⟨gb239, 2, none⟩ = some (.int .i64 t226) := (blk_cell BK239.out 2).trans rfl
         have hcz57_3 : w35.cell? ⟨gb239, 3, none⟩ = some (.int .i64 t227) := (blk_cell BK239.out 3).trans rfl
         have hcz57_4 : w35.cell? ⟨gb239, 4, none⟩ = some (.slice Ao30 t228.length co30) := (blk_cell BK239.out 4).trans rfl
         have hcz57_5 : w35.cell? ⟨gb239, 5, none⟩ = some (.slice Ao31 t231.length co31) := (blk_cell BK239.out 5).trans rfl
         have hcz57_6 : w35.cell? ⟨gb239, 6, none⟩ = some (.slice Ao32 t234.length co32) := (blk_cell BK239.out 6).trans rfl
         have hcz57_7 : w35.cell? ⟨gb239, 7, none⟩ = some (.int .i64 t237) := (blk_cell BK239.out 7).trans rfl
         have hfz57_0 := blk_frozen BK239.out 0
         have hfz57_1 := blk_frozen BK239.out 1
         have hfz57_2 := blk_frozen BK239.out 2
         have hfz57_3 := blk_frozen BK239.out 3
         have hfz57_4 := blk_frozen BK239.out 4
         have hfz57_5 := blk_frozen BK239.out 5
         have hfz57_6 := blk_frozen BK239.out 6
         have hfz57_7 := blk_frozen BK239.out 7
         have hnb58 := NB255_220.out
         have hnc58 := NB220_255.out
         have hcz59_0 : w35.cell? ⟨gb255, 0, none⟩ = some (.int .i64 0) := (blk_cell BK255.out 0).trans rfl
         have hcz59_1 : w35.cell? ⟨gb255, 1, none⟩ = some (.int .i64 0) := (blk_cell BK255.out 1).trans rfl
         have hcz59_2 : w35.cell? ⟨gb255, 2, none⟩ = some (.int .i64 0) := (blk_cell BK255.out 2).trans rfl
         have hcz59_3 : w35.cell? ⟨gb255, 3, none⟩ = some (.int .i64 0) := (blk_cell BK255.out 3).trans rfl
         have hcz59_4 : w35.cell? ⟨gb255, 4, none⟩ = some (.slice none 0 0) := (blk_cell BK255.out 4).trans rfl
         have hcz59_5 : w35.cell? ⟨gb255, 5, none⟩ = some (.slice none 0 0) := (blk_cell BK255.out 5).trans rfl
         have hcz59_6 : w35.cell? ⟨gb255, 6, none⟩ = some (.slice none 0 0) := (blk_cell BK255.out 6).trans rfl
         have hcz59_7 : w35.cell? ⟨gb255, 7, none⟩ = some (.int .i64 0) := (blk_cell BK255.out 7).trans rfl
         have hfz59_0 := blk_frozen BK255.out 0
         have hfz59_1 := blk_frozen BK255.out 1
         have hfz59_2 := blk_frozen BK255.out 2
         have hfz59_3 := blk_frozen BK255.out 3
         have hfz59_4 := blk_frozen BK255.out 4
         have hfz59_5 := blk_frozen BK255.out 5
         have hfz59_6 := blk_frozen BK255.out 6
         have hfz59_7 := blk_frozen BK255.out 7
         go_wp2_with (first | (go_at_call 32; (with_reducible refine (regcertref09_Prefix.calls kj4 _ _ t234 _ _ t250 true _ ?side1 ?side2 ?side3 ?side4 A52.out).mono ?_); (case side1 => refine (Kd.R_reads' (e := 2) (base := w.heap.size) (ok := fun k_ => ((((some k_ ≠ (.slice Ao30 t228.length co30 : Value).ownBlock ∧ some k_ ≠ (.slice Ao31 t231.length co31 : Value).ownBlock) ∧ some k_ ≠ (.slice Ao39 t244.length co39 : Value).ownBlock) ∧ some k_ ≠ (.slice Ao40 t247.length co40 : Value).ownBlock) ∧ some k_ ≠ (.slice Ao41 t250.length co41 : Value).ownBlock)) (n := t234.length) (c := co32) ?_).2.2; exact (by (with_reducible repeat (first | apply Kd.R_alloc | apply Kd.R_drewN | apply Kd.R_drew)); exact (Kd.R_mono (RF gb255 7 (RF gb255 6 (RF gb255 5 (RF gb255 4 (RF gb255 3 (RF gb255 2 (RF gb255 1 (RF gb255 0 (Kd.R_types HO236.out BK255.out (by decide)) (.int .i64 t240)) (.int .i64 t241)) (.int .i64 t242)) (.int .i64 t243)) (.slice Ao39 t244.length co39)) (.slice Ao40 t247.length co40)) (.slice Ao41 t250.length co41)) (.int .i64 t253)) (fun _ h_ => h_.1)))); (case side2 => exact (Kd.R_reads' HO236.out).2.1); (case side3 => refine (Kd.R_reads' (e := 2) (base := w.heap.size) (ok := fun k_ => ((((some k_ ≠ (.slice Ao39 t244.length co39 : Value).ownBlock ∧ some k_ ≠ (.slice Ao40 t247.length co40 : Value).ownBlock) ∧ some k_ ≠ (.slice Ao30 t228.length co30 : Value).ownBlock) ∧ some k_ ≠ (.slice Ao31 t231.length co31 : Value).ownBlock) ∧ some k_ ≠ (.slice Ao32 t234.length co32 : Value).ownBlock)) (n := t250.length) (c := co41) ?_).2.2; exact (by (with_reducible repeat (first | apply Kd.R_alloc | apply Kd.R_drewN | apply Kd.R_drew)); exact (Kd.R_mono (RF gb255 7 (RF gb255 6 (RF gb255 5 (RF gb255 4 (RF gb255 3 (RF gb255 2 (RF gb255 1 (RF gb255 0 (Kd.R_types HO252.out BK255.out (by decide)) (.int .i64 t240)) (.int .i64 t241)) (.int .i64 t242)) (.int .i64 t243)) (.slice Ao39 t244.length co39)) (.slice Ao40 t247.length co40)) (.slice Ao41 t250.length co41)) (.int .i64 t253)) (fun _ h_ => h_.1)))); (case side4 => exact (Kd.R_reads' HO252.out).2.1); rintro e w' ⟨rfl, ⟨nd, rfl⟩⟩))
         go_meet
         case rel => exact ⟨_, ((t237 != (Int.tmod (wrap64 (a2)) 200))), (by first | rfl | (simp; done) | (simp [*]; done)), H', ⟨by have := HJ4.out; first | omega | exact Nat.le_refl _⟩, ⟨by (with_reducible repeat (first | apply Kd.R_alloc | apply Kd.R_drewN | apply Kd.R_drew)); exact Kd.R_mono (RF gb255 7 (RF gb255 6 (RF gb255 5 (RF gb255 4 (RF gb255 3 (RF gb255 2 (RF gb255 1 (RF gb255 0 (Kd.R_types HO230.out BK255.out (by decide)) (.int .i64 t240)) (.int .i64 t241)) (.int .i64 t242)) (.int .i64 t243)) (.slice Ao39 t244.length co39)) (.slice Ao40 t247.length co40)) (.slice Ao41 t250.length co41)) (.int .i64 t253)) (fun _ hk => ⟨hk.1.1.1.1.1, ⟨hk.1.1.1.1.2, ⟨hk.1.1.1.2, ⟨hk.1.1.2, hk.1.2⟩⟩⟩⟩)⟩, ⟨by (with_reducible repeat (first | apply Kd.R_alloc | apply Kd.R_drewN | apply Kd.R_drew)); exact Kd.R_mono (RF gb255 7 (RF gb255 6 (RF gb255 5 (RF gb255 4 (RF gb255 3 (RF gb255 2 (RF gb255 1 (RF gb255 0 (Kd.R_types HO233.out BK255.out (by decide)) (.int .i64 t240)) (.int .i64 t241)) (.int .i64 t242)) (.int .i64 t243)) (.slice Ao39 t244.length co39)) (.slice Ao40 t247.length co40)) (.slice Ao41 t250.length co41)) (.int .i64 t253)) (fun _ hk => ⟨hk.1.1.1.1.1, ⟨hk.1.1.1.1.2, ⟨hk.1.1.1.2, ⟨hk.1.1.2, hk.1.2⟩⟩⟩⟩)⟩, ⟨by (with_reducible repeat (first | apply Kd.R_alloc | apply Kd.R_drewN | apply Kd.R_drew)); exact Kd.R_mono (RF gb255 7 (RF gb255 6 (RF gb255 5 (RF gb255 4 (RF gb255 3 (RF gb255 2 (RF gb255 1 (RF gb255 0 (Kd.R_types HO236.out BK255.out (by decide)) (.int .i64 t240)) (.int .i64 t241)) (.int .i64 t242)) (.int .i64 t243)) (.slice Ao39 t244.length co39)) (.slice Ao40 t247.length co40)) (.slice Ao41 t250.length co41)) (.int .i64 t253)) (fun _ hk => ⟨hk.1.1.1.1.1, ⟨hk.1.1.1.1.2, ⟨hk.1.1.1.2, ⟨hk.1.1.2, hk.1.2⟩⟩⟩⟩)⟩, ⟨by (with_reducible repeat (first | apply Kd.R_alloc | apply Kd.R_drewN | apply Kd.R_drew)); exact Kd.R_mono (RF gb255 7 (RF gb255 6 (RF gb255 5 (RF gb255 4 (RF gb255 3 (RF gb255 2 (RF gb255 1 (RF gb255 0 (Kd.R_types HO246.out BK255.out (by decide)) (.int .i64 t240)) (.int .i64 t241)) (.int .i64 t242)) (.int .i64 t243)) (.slice Ao39 t244.length co39)) (.slice Ao40 t247.length co40)) (.slice Ao41 t250.length co41)) (.int .i64 t253)) (fun _ hk => ⟨hk.1.1.1.2, ⟨hk.1.1.2, ⟨hk.1.2, ⟨hk.1.1.1.1.1, hk.1.1.1.1.2⟩⟩⟩⟩)⟩, ⟨by (with_reducible repeat (first | apply Kd.R_alloc | apply Kd.R_drewN | apply Kd.R_drew)); exact Kd.R_mono (RF gb255 7 (RF gb255 6 (RF gb255 5 (RF gb255 4 (RF gb255 3 (RF gb255 2 (RF gb255 1 (RF gb255 0 (Kd.R_types HO249.out BK255.out (by decide)) (.int .i64 t240)) (.int .i64 t241)) (.int .i64 t242)) (.int .i64 t243)) (.slice Ao39 t244.length co39)) (.slice Ao40 t247.length co40)) (.slice Ao41 t250.length co41)) (.int .i64 t253)) (fun _ hk => ⟨hk.1.1.1.2, ⟨hk.1.1.2, ⟨hk.1.2, ⟨hk.1.1.1.1.1, hk.1.1.1.1.2⟩⟩⟩⟩)⟩, ⟨by (with_reducible repeat (first | apply Kd.R_alloc | apply Kd.R_drewN | apply Kd.R_drew)); exact Kd.R_mono (RF gb255 7 (RF gb255 6 (RF gb255 5 (RF gb255 4 (RF gb255 3 (RF gb255 2 (RF gb255 1 (RF gb255 0 (Kd.R_types HO252.out BK255.out (by decide)) (.int .i64 t240)) (.int .i64 t241)) (.int .i64 t242)) (.int .i64 t243)) (.slice Ao39 t244.length co39)) (.slice Ao40 t247.length co40)) (.slice Ao41 t250.length co41)) (.int .i64 t253)) (fun _ hk => ⟨hk.1.1.1.2, ⟨hk.1.1.2, ⟨hk.1.2, ⟨hk.1.1.1.1.1, hk.1.1.1.1.2⟩⟩⟩⟩)⟩, ⟨by (with_reducible repeat (first | refine blk_drewN ?_ _ | refine blk_drew ?_ | refine blk_alloc ?_ _)); refine blk_far ?_ NB220_255.out _; (with_reducible repeat (first | refine blk_drewN ?_ _ | refine blk_drew ?_ | refine blk_alloc ?_ _)); refine blk_far ?_ NB220_255.out _; (with_reducible repeat (first | refine blk_drewN ?_ _ | refine blk_drew ?_ | refine blk_alloc ?_ _)); refine blk_far ?_ NB220_255.out _; (with_reducible repeat (first | refine blk_drewN ?_ _ | refine blk_drew ?_ | refine blk_alloc ?_ _)); refine blk_far ?_ NB220_255.out _; (with_reducible repeat (first | refine blk_drewN ?_ _ | refine blk_drew ?_ | refine blk_alloc ?_ _)); refine blk_far ?_ NB220_255.out _; (with_reducible repeat (first | refine blk_drewN ?_ _ | refine blk_drew ?_ | refine blk_alloc ?_ _)); refine blk_far ?_ NB220_255.out _; (with_reducible repeat (first | refine blk_drewN ?_ _ | refine blk_drew ?_ | refine blk_alloc ?_ _)); refine blk_far ?_ NB220_255.out _; (with_reducible repeat (first | refine blk_drewN ?_ _ | refine blk_drew ?_ | refine blk_alloc ?_ _)); refine blk_far ?_ NB220_255.out _; (with_reducible repeat (first | refine blk_drewN ?_ _ | refine blk_drew ?_ | refine blk_alloc ?_ _)); exact BK220.out⟩, ⟨by (with_reducible repeat (first | refine blk_drewN ?_ _ | refine blk_drew ?_ | refine blk_alloc ?_ _)); refine blk_far ?_ NB239_255.out _; (with_reducible repeat (first | refine blk_drewN ?_ _ | refine blk_drew ?_ | refine blk_alloc ?_ _)); refine blk_far ?_ NB239_255.out _; (with_reducible repeat (first | refine blk_drewN ?_ _ | refine blk_drew ?_ | refine blk_alloc ?_ _)); refine blk_far ?_ NB239_255.out _; (with_reducible repeat (first | refine blk_drewN ?_ _ | refine blk_drew ?_ | refine blk_alloc ?_ _)); refine blk_far ?_ NB239_255.out _; (with_reducible repeat (first | refine blk_drewN ?_ _ | refine blk_drew ?_ | refine blk_alloc ?_ _)); refine blk_far ?_ NB239_255.out _; (with_reducible repeat (first | refine blk_drewN ?_ _ | refine blk_drew ?_ | refine blk_alloc ?_ _)); refine blk_far ?_ NB239_255.out _; (with_reducible repeat (first | refine blk_drewN ?_ _ | refine blk_drew ?_ | refine blk_alloc ?_ _)); refine blk_far ?_ NB239_255.out _; (with_reducible repeat (first | refine blk_drewN ?_ _ | refine blk_drew ?_ | refine blk_alloc ?_ _)); refine blk_far ?_ NB239_255.out _; (with_reducible repeat (first | refine blk_drewN ?_ _ | refine blk_drew ?_ | refine blk_alloc ?_ _)); exact BK239.out⟩, ⟨by (with_reducible repeat (first | refine blk_drewN ?_ _ | refine blk_drew ?_ | refine blk_alloc ?_ _)); refine blk_put (cs := #[.int .i64 t240, .int .i64 t241, .int .i64 t242, .int .i64 t243, .slice Ao39 t244.length co39, .slice Ao40 t247.length co40, .slice Ao41 t250.length co41, .int .i64 0]) ?_ 7 _ rfl; (with_reducible repeat (first | refine blk_drewN ?_ _ | refine blk_drew ?_ | refine blk_alloc ?_ _)); refine blk_put (cs := #[.int .i64 t240, .int .i64 t241, .int .i64 t242, .int .i64 t243, .slice Ao39 t244.length co39, .slice Ao40 t247.length co40, .slice none 0 0, .int .i64 0]) ?_ 6 _ rfl; (with_reducible repeat (first | refine blk_drewN ?_ _ | refine blk_drew ?_ | refine blk_alloc ?_ _)); refine blk_put (cs := #[.int .i64 t240, .int .i64 t241, .int .i64 t242, .int .i64 t243, .slice Ao39 t244.length co39, .slice none 0 0, .slice none 0 0, .int .i64 0]) ?_ 5 _ rfl; (with_reducible repeat (first | refine blk_drewN ?_ _ | refine blk_drew ?_ | refine blk_alloc ?_ _)); refine blk_put (cs := #[.int .i64 t240, .int .i64 t241, .int .i64 t242, .int .i64 t243, .slice none 0 0, .slice none 0 0, .slice none 0 0, .int .i64 0]) ?_ 4 _ rfl; (with_reducible repeat (first | refine blk_drewN ?_ _ | refine blk_drew ?_ | refine blk_alloc ?_ _)); refine blk_put (cs := #[.int .i64 t240, .int .i64 t241, .int .i64 t242, .int .i64 0, .slice none 0 0, .slice none 0 0, .slice none 0 0, .int .i64 0]) ?_ 3 _ rfl; (with_reducible repeat (first | refine blk_drewN ?_ _ | refine blk_drew ?_ | refine blk_alloc ?_ _)); refine blk_put (cs := #[.int .i64 t240, .int .i64 t241, .int .i64 0, .int .i64 0, .slice none 0 0, .slice none 0 0, .slice none 0 0, .int .i64 0]) ?_ 2 _ rfl; (with_reducible repeat (first | refine blk_drewN ?_ _ | refine blk_drew ?_ | refine blk_alloc ?_ _)); refine blk_put (cs := #[.int .i64 t240, .int .i64 0, .int .i64 0, .int .i64 0, .slice none 0 0, .slice none 0 0, .slice none 0 0, .int .i64 0]) ?_ 1 _ rfl; (with_reducible repeat (first | refine blk_drewN ?_ _ | refine blk_drew ?_ | refine blk_alloc ?_ _)); refine blk_put (cs := #[.int .i64 0, .int .i64 0, .int .i64 0, .int .i64 0, .slice none 0 0, .slice none 0 0, .slice none 0 0, .int .i64 0]) ?_ 0 _ rfl; (with_reducible repeat (first | refine blk_drewN ?_ _ | refine blk_drew ?_ | refine blk_alloc ?_ _)); exact BK255.out⟩, ⟨by repeat (first | (with_reducible first | exact HB.out | apply below_alloc | apply bdN | apply bd1 | refine below_set ?_ GE220.out | refine below_set ?_ GE239.out | refine below_set ?_ GE255.out) | exact HB.out)⟩⟩
        ·rw [if_neg c54] at H
         have c54b0 : (t224 == 0) = false := beq_eq_false_iff_ne.mpr c54
         have c54b1 : (t224 != 0) = true := bne_iff_ne.mpr c54
         have H' := As0 H
         clear H
         have hnb60 := NB239_220.out
         have hnc60 := NB220_239.out
         have hnb61 := NB239_255.out
         have hnc61 := NB255_239.out
         have hcz62_0 : w35.cell? ⟨gb239, 0, none⟩ = some (.int .i64 t224) := (blk_cell BK239.out 0).trans rfl
         have hcz62_1 : w35.cell? ⟨gb239, 1, none⟩ = some (.int .i64 t225) := (blk_cell BK239.out 1).trans rfl
         have hcz62_2 : w35.cell? ⟨gb239, 2, none⟩ = some (.int .i64 t226) := (blk_cell BK239.out 2).trans rfl
         have hcz62_3 : w35.cell? ⟨gb239, 3, none⟩ = some (.int .i64 t227) := (blk_cell BK239.out 3).trans rfl
         have hcz62_4 : w35.cell? ⟨gb239, 4, none⟩ = some (.slice Ao30 t228.length co30) := (blk_cell BK239.out 4).trans rfl
         have hcz62_5 : w35.cell? ⟨gb239, 5, none⟩ = some (.slice Ao31 t231.length co31) := (blk_cell BK239.out 5).trans rfl
         have hcz62_6 : w35.cell? ⟨gb239, 6, none⟩ = some (.slice Ao32 t234.length co32) := (blk_cell BK239.out 6).trans rfl
         have hcz62_7 : w35.cell? ⟨gb239, 7, none⟩ = some (.int .i64 t237) := (blk_cell BK239.out 7).trans rfl
         have hfz62_0 := blk_frozen BK239.out 0
         have hfz62_1 := blk_frozen BK239.out 1
         have hfz62_2 := blk_frozen BK239.out 2
         have hfz62_3 := blk_frozen BK239.out 3
         have hfz62_4 := blk_frozen BK239.out 4
         have hfz62_5 := blk_frozen BK239.out 5
         have hfz62_6 := blk_frozen BK239.out 6
         have hfz62_7 := blk_frozen BK239.out 7
         have hnb63 := NB255_220.out
         have hnc63 := NB220_255.out
         have hcz64_0 : w35.cell? ⟨gb255, 0, none⟩ = some (.int .i64 0) := (blk_cell BK255.out 0).trans rfl
         have hcz64_1 : w35.cell? ⟨gb255, 1, none⟩ = some (.int .i64 0) := (blk_cell BK255.out 1).trans rfl
         have hcz64_2 : w35.cell? ⟨gb255, 2, none⟩ = some (.int .i64 0) := (blk_cell BK255.out 2).trans rfl
         have hcz64_3 : w35.cell? ⟨gb255, 3, none⟩ = some (.int .i64 0) := (blk_cell BK255.out 3).trans rfl
         have hcz64_4 : w35.cell? ⟨gb255, 4, none⟩ = some (.slice none 0 0) := (blk_cell BK255.out 4).trans rfl
         have hcz64_5 : w35.cell? ⟨gb255, 5, none⟩ = some (.slice none 0 0) := (blk_cell BK255.out 5).trans rfl
         have hcz64_6 : w35.cell? ⟨gb255, 6, none⟩ = some (.slice none 0 0) := (blk_cell BK255.out 6).trans rfl
         have hcz64_7 : w35.cell? ⟨gb255, 7, none⟩ = some (.int .i64 0) := (blk_cell BK255.out 7).trans rfl
         have hfz64_0 := blk_frozen BK255.out 0
         have hfz64_1 := blk_frozen BK255.out 1
         have hfz64_2 := blk_frozen BK255.out 2
         have hfz64_3 := blk_frozen BK255.out 3
         have hfz64_4 := blk_frozen BK255.out 4
         have hfz64_5 := blk_frozen BK255.out 5
         have hfz64_6 := blk_frozen BK255.out 6
         have hfz64_7 := blk_frozen BK255.out 7
         go_wp2_with (first | (go_at_call 32; (with_reducible refine (regcertref09_Prefix.calls kj4 _ _ t234 _ _ t250 true _ ?side1 ?side2 ?side3 ?side4 A52.out).mono ?_); (case side1 => refine (Kd.R_reads' (e := 2) (base := w.heap.size) (ok := fun k_ => ((((some k_ ≠ (.slice Ao30 t228.length co30 : Value).ownBlock ∧ some k_ ≠ (.slice Ao31 t231.length co31 : Value).ownBlock) ∧ some k_ ≠ (.slice Ao39 t244.length co39 : Value).ownBlock) ∧ some k_ ≠ (.slice Ao40 t247.length co40 : Value).ownBlock) ∧ some k_ ≠ (.slice Ao41 t250.length co41 : Value).ownBlock)) (n := t234.length) (c := co32) ?_).2.2; exact (by (with_reducible repeat (first | apply Kd.R_alloc | apply Kd.R_drewN | apply Kd.R_drew)); exact (Kd.R_mono (RF gb255 7 (RF gb255 6 (RF gb255 5 (RF gb255 4 (RF gb255 3 (RF gb255 2 (RF gb255 1 (RF gb255 0 (Kd.R_types HO236.out BK255.out (by decide)) (.int .i64 t240)) (.int .i64 t241)) (.int .i64 t242)) (.int .i64 t243)) (.slice Ao39 t244.length co39)) (.slice Ao40 t247.length co40)) (.slice Ao41 t250.length co41)) (.int .i64 t253)) (fun _ h_ => h_.1)))); (case side2 => exact (Kd.R_reads' HO236.out).2.1); (case side3 => refine (Kd.R_reads' (e := 2) (base := w.heap.size) (ok := fun k_ => ((((some k_ ≠ (.slice Ao39 t244.length co39 : Value).ownBlock ∧ some k_ ≠ (.slice Ao40 t247.length co40 : Value).ownBlock) ∧ some k_ ≠ (.slice Ao30 t228.length co30 : Value).ownBlock) ∧ some k_ ≠ (.slice Ao31 t231.length co31 : Value).ownBlock) ∧ some k_ ≠ (.slice Ao32 t234.length co32 : Value).ownBlock)) (n := t250.length) (c := co41) ?_).2.2; exact (by (with_reducible repeat (first | apply Kd.R_alloc | apply Kd.R_drewN | apply Kd.R_drew)); exact (Kd.R_mono (RF gb255 7 (RF gb255 6 (RF gb255 5 (RF gb255 4 (RF gb255 3 (RF gb255 2 (RF gb255 1 (RF gb255 0 (Kd.R_types HO252.out BK255.out (by decide)) (.int .i64 t240)) (.int .i64 t241)) (.int .i64 t242)) (.int .i64 t243)) (.slice Ao39 t244.length co39)) (.slice Ao40 t247.length co40)) (.slice Ao41 t250.length co41)) (.int .i64 t253)) (fun _ h_ => h_.1)))); (case side4 => exact (Kd.R_reads' HO252.out).2.1); rintro e w' ⟨rfl, ⟨nd, rfl⟩⟩))
         go_meet
         case rel => exact ⟨_, (false), (by first | rfl | (simp; done) | (simp [*]; done)), H', ⟨by have := HJ4.out; first | omega | exact Nat.le_refl _⟩, ⟨by (with_reducible repeat (first | apply Kd.R_alloc | apply Kd.R_drewN | apply Kd.R_drew)); exact Kd.R_mono (RF gb255 7 (RF gb255 6 (RF gb255 5 (RF gb255 4 (RF gb255 3 (RF gb255 2 (RF gb255 1 (RF gb255 0 (Kd.R_types HO230.out BK255.out (by decide)) (.int .i64 t240)) (.int .i64 t241)) (.int .i64 t242)) (.int .i64 t243)) (.slice Ao39 t244.length co39)) (.slice Ao40 t247.length co40)) (.slice Ao41 t250.length co41)) (.int .i64 t253)) (fun _ hk => ⟨hk.1.1.1.1.1, ⟨hk.1.1.1.1.2, ⟨hk.1.1.1.2, ⟨hk.1.1.2, hk.1.2⟩⟩⟩⟩)⟩, ⟨by (with_reducible repeat (first | apply Kd.R_alloc | apply Kd.R_drewN | apply Kd.R_drew)); exact Kd.R_mono (RF gb255 7 (RF gb255 6 (RF gb255 5 (RF gb255 4 (RF gb255 3 (RF gb255 2 (RF gb255 1 (RF gb255 0 (Kd.R_types HO233.out BK255.out (by decide)) (.int .i64 t240)) (.int .i64 t241)) (.int .i64 t242)) (.int .i64 t243)) (.slice Ao39 t244.length co39)) (.slice Ao40 t247.length co40)) (.slice Ao41 t250.length co41)) (.int .i64 t253)) (fun _ hk => ⟨hk.1.1.1.1.1, ⟨hk.1.1.1.1.2, ⟨hk.1.1.1.2, ⟨hk.1.1.2, hk.1.2⟩⟩⟩⟩)⟩, ⟨by (with_reducible repeat (first | apply Kd.R_alloc | apply Kd.R_drewN | apply Kd.R_drew)); exact Kd.R_mono (RF gb255 7 (RF gb255 6 (RF gb255 5 (RF gb255 4 (RF gb255 3 (RF gb255 2 (RF gb255 1 (RF gb255 0 (Kd.R_types HO236.out BK255.out (by decide)) (.int .i64 t240)) (.int .i64 t241)) (.int .i64 t242)) (.int .i64 t243)) (.slice Ao39 t244.length co39)) (.slice Ao40 t247.length co40)) (.slice Ao41 t250.length co41)) (.int .i64 t253)) (fun _ hk => ⟨hk.1.1.1.1.1, ⟨hk.1.1.1.1.2, ⟨hk.1.1.1.2, ⟨hk.1.1.2, hk.1.2⟩⟩⟩⟩)⟩, ⟨by (with_reducible repeat (first | apply Kd.R_alloc | apply Kd.R_drewN | apply Kd.R_drew)); exact Kd.R_mono (RF gb255 7 (RF gb255 6 (RF gb255 5 (RF gb255 4 (RF gb255 3 (RF gb255 2 (RF gb255 1 (RF gb255 0 (Kd.R_types HO246.out BK255.out (by decide)) (.int .i64 t240)) (.int .i64 t241)) (.int .i64 t242)) (.int .i64 t243)) (.slice Ao39 t244.length co39)) (.slice Ao40 t247.length co40)) (.slice Ao41 t250.length co41)) (.int .i64 t253)) (fun _ hk => ⟨hk.1.1.1.2, ⟨hk.1.1.2, ⟨hk.1.2, ⟨hk.1.1.1.1.1, hk.1.1.1.1.2⟩⟩⟩⟩)⟩, ⟨by (with_reducible repeat (first | apply Kd.R_alloc | apply Kd.R_drewN | apply Kd.R_drew)); exact Kd.R_mono (RF gb255 7 (RF gb255 6 (RF gb255 5 (RF gb255 4 (RF gb255 3 (RF gb255 2 (RF gb255 1 (RF gb255 0 (Kd.R_types HO249.out BK255.out (by decide)) (.int .i64 t240)) (.int .i64 t241)) (.int .i64 t242)) (.int .i64 t243)) (.slice Ao39 t244.length co39)) (.slice Ao40 t247.length co40)) (.slice Ao41 t250.length co41)) (.int .i64 t253)) (fun _ hk => ⟨hk.1.1.1.2, ⟨hk.1.1.2, ⟨hk.1.2, ⟨hk.1.1.1.1.1, hk.1.1.1.1.2⟩⟩⟩⟩)⟩, ⟨by (with_reducible repeat (first | apply Kd.R_alloc | apply Kd.R_drewN | apply Kd.R_drew)); exact Kd.R_mono (RF gb255 7 (RF gb255 6 (RF gb255 5 (RF gb255 4 (RF gb255 3 (RF gb255 2 (RF gb255 1 (RF gb255 0 (Kd.R_types HO252.out BK255.out (by decide)) (.int .i64 t240)) (.int .i64 t241)) (.int .i64 t242)) (.int .i64 t243)) (.slice Ao39 t244.length co39)) (.slice Ao40 t247.length co40)) (.slice Ao41 t250.length co41)) (.int .i64 t253)) (fun _ hk => ⟨hk.1.1.1.2, ⟨hk.1.1.2, ⟨hk.1.2, ⟨hk.1.1.1.1.1, hk.1.1.1.1.2⟩⟩⟩⟩)⟩, ⟨by (with_reducible repeat (first | refine blk_drewN ?_ _ | refine blk_drew ?_ | refine blk_alloc ?_ _)); refine blk_far ?_ NB220_255.out _; (with_reducible repeat (first | refine blk_drewN ?_ _ | refine blk_drew ?_ | refine blk_alloc ?_ _)); refine blk_far ?_ NB220_255.out _; (with_reducible repeat (first | refine blk_drewN ?_ _ | refine blk_drew ?_ | refine blk_alloc ?_ _)); refine blk_far ?_ NB220_255.out _; (with_reducible repeat (first | refine blk_drewN ?_ _ | refine blk_drew ?_ | refine blk_alloc ?_ _)); refine blk_far ?_ NB220_255.out _; (with_reducible repeat (first | refine blk_drewN ?_ _ | refine blk_drew ?_ | refine blk_alloc ?_ _)); refine blk_far ?_ NB220_255.out _; (with_reducible repeat (first | refine blk_drewN ?_ _ | refine blk_drew ?_ | refine blk_alloc ?_ _)); refine blk_far ?_ NB220_255.out _; (with_reducible repeat (first | refine blk_drewN ?_ _ | refine blk_drew ?_ | refine blk_alloc ?_ _)); refine blk_far ?_ NB220_255.out _; (with_reducible repeat (first | refine blk_drewN ?_ _ | refine blk_drew ?_ | refine blk_alloc ?_ _)); refine blk_far ?_ NB220_255.out _; (with_reducible repeat (first | refine blk_drewN ?_ _ | refine blk_drew ?_ | refine blk_alloc ?_ _)); exact BK220.out⟩, ⟨by (with_reducible repeat (first | refine blk_drewN ?_ _ | refine blk_drew ?_ | refine blk_alloc ?_ _)); refine blk_far ?_ NB239_255.out _; (with_reducible repeat (first | refine blk_drewN ?_ _ | refine blk_drew ?_ | refine blk_alloc ?_ _)); refine blk_far ?_ NB239_255.out _; (with_reducible repeat (first | refine blk_drewN ?_ _ | refine blk_drew ?_ | refine blk_alloc ?_ _)); refine blk_far ?_ NB239_255.out _; (with_reducible repeat (first | refine blk_drewN ?_ _ | refine blk_drew ?_ | refine blk_alloc ?_ _)); refine blk_far ?_ NB239_255.out _; (with_reducible repeat (first | refine blk_drewN ?_ _ | refine blk_drew ?_ | refine blk_alloc ?_ _)); refine blk_far ?_ NB239_255.out _; (with_reducible repeat (first | refine blk_drewN ?_ _ | refine blk_drew ?_ | refine blk_alloc ?_ _)); refine blk_far ?_ NB239_255.out _; (with_reducible repeat (first | refine blk_drewN ?_ _ | refine blk_drew ?_ | refine blk_alloc ?_ _)); refine blk_far ?_ NB239_255.out _; (with_reducible repeat (first | refine blk_drewN ?_ _ | refine blk_drew ?_ | refine blk_alloc ?_ _)); refine blk_far ?_ NB239_255.out _; (with_reducible repeat (first | refine blk_drewN ?_ _ | refine blk_drew ?_ | refine blk_alloc ?_ _)); exact BK239.out⟩, ⟨by (with_reducible repeat (first | refine blk_drewN ?_ _ | refine blk_drew ?_ | refine blk_alloc ?_ _)); refine blk_put (cs := #[.int .i64 t240, .int .i64 t241, .int .i64 t242, .int .i64 t243, .slice Ao39 t244.length co39, .slice Ao40 t247.length co40, .slice Ao41 t250.length co41, .int .i64 0]) ?_ 7 _ rfl; (with_reducible repeat (first | refine blk_drewN ?_ _ | refine blk_drew ?_ | refine blk_alloc ?_ _)); refine blk_put (cs := #[.int .i64 t240, .int .i64 t241, .int .i64 t242, .int .i64 t243, .slice Ao39 t244.length co39, .slice Ao40 t247.length co40, .slice none 0 0, .int .i64 0]) ?_ 6 _ rfl; (with_reducible repeat (first | refine blk_drewN ?_ _ | refine blk_drew ?_ | refine blk_alloc ?_ _)); refine blk_put (cs := #[.int .i64 t240, .int .i64 t241, .int .i64 t242, .int .i64 t243, .slice Ao39 t244.length co39, .slice none 0 0, .slice none 0 0, .int .i64 0]) ?_ 5 _ rfl; (with_reducible repeat (first | refine blk_drewN ?_ _ | refine blk_drew ?_ | refine blk_alloc ?_ _)); refine blk_put (cs := #[.int .i64 t240, .int .i64 t241, .int .i64 t242, .int .i64 t243, .slice none 0 0, .slice none 0 0, .slice none 0 0, .int .i64 0]) ?_ 4 _ rfl; (with_reducible repeat (first | refine blk_drewN ?_ _ | refine blk_drew ?_ | refine blk_alloc ?_ _)); refine blk_put (cs := #[.int .i64 t240, .int .i64 t241, .int .i64 t242, .int .i64 0, .slice none 0 0, .slice none 0 0, .slice none 0 0, .int .i64 0]) ?_ 3 _ rfl; (with_reducible repeat (first | refine blk_drewN ?_ _ | refine blk_drew ?_ | refine blk_alloc ?_ _)); refine blk_put (cs := #[.int .i64 t240, .int .i64 t241, .int .i64 0, .int .i64 0, .slice none 0 0, .slice none 0 0, .slice none 0 0, .int .i64 0]) ?_ 2 _ rfl; (with_reducible repeat (first | refine blk_drewN ?_ _ | refine blk_drew ?_ | refine blk_alloc ?_ _)); refine blk_put (cs := #[.int .i64 t240, .int .i64 0, .int .i64 0, .int .i64 0, .slice none 0 0, .slice none 0 0, .slice none 0 0, .int .i64 0]) ?_ 1 _ rfl; (with_reducible repeat (first | refine blk_drewN ?_ _ | refine blk_drew ?_ | refine blk_alloc ?_ _)); refine blk_put (cs := #[.int .i64 0, .int .i64 0, .int .i64 0, .int .i64 0, .slice none 0 0, .slice none 0 0, .slice none 0 0, .int .i64 0]) ?_ 0 _ rfl; (with_reducible repeat (first | refine blk_drewN ?_ _ | refine blk_drew ?_ | refine blk_alloc ?_ _)); exact BK255.out⟩, ⟨by repeat (first | (with_reducible first | exact HB.out | apply below_alloc | apply bdN | apply bd1 | refine below_set ?_ GE220.out | refine below_set ?_ GE239.out | refine below_set ?_ GE255.out) | exact HB.out)⟩⟩
       ·replace c53 := Bool.eq_false_iff.mpr c53
        subst c53
        have H1 : (regcertlaw10_ExecuteFuel.j1 kj4 true t224 t225 t226 t227 t228 t231 t234 t237 t240 t241 t242 t243 t244 t247 t250 t253) = some r := by rw [if_neg (show ¬ (false = true) by decide)] at H; exact H
        clear H
        have H := H1
        clear H1
        have H' := As0 H
        clear H
        have hnb65 := NB239_220.out
        have hnc65 := NB220_239.out
        have hnb66 := NB239_255.out
        have hnc66 := NB255_239.out
        have hcz67_0 : w35.cell? ⟨gb239, 0, none⟩ = some (.int .i64 t224) := (blk_cell BK239.out 0).trans rfl
        have hcz67_1 : w35.cell? ⟨gb239, 1, none⟩ = some (.int .i64 t225) := (blk_cell BK239.out 1).trans rfl
        have hcz67_2 : w35.cell? ⟨gb239, 2, none⟩ = some (.int .i64 t226) := (blk_cell BK239.out 2).trans rfl
        have hcz67_3 : w35.cell? ⟨gb239, 3, none⟩ = some (.int .i64 t227) := (blk_cell BK239.out 3).trans rfl
        have hcz67_4 : w35.cell? ⟨gb239, 4, none⟩ = some (.slice Ao30 t228.length co30) := (blk_cell BK239.out 4).trans rfl
        have hcz67_5 : w35.cell? ⟨gb239, 5, none⟩ = some (.slice Ao31 t231.length co31) := (blk_cell BK239.out 5).trans rfl
        have hcz67_6 : w35.cell? ⟨gb239, 6, none⟩ = some (.slice Ao32 t234.length co32) := (blk_cell BK239.out 6).trans rfl
        have hcz67_7 : w35.cell? ⟨gb239, 7, none⟩ = some (.int .i64 t237) := (blk_cell BK239.out 7).trans rfl
        have hfz67_0 := blk_frozen BK239.out 0
        have hfz67_1 := blk_frozen BK239.out 1
        have hfz67_2 := blk_frozen BK239.out 2
        have hfz67_3 := blk_frozen BK239.out 3
        have hfz67_4 := blk_frozen BK239.out 4
        have hfz67_5 := blk_frozen BK239.out 5
        have hfz67_6 := blk_frozen BK239.out 6
        have hfz67_7 := blk_frozen BK239.out 7
        have hnb68 := NB255_220.out
        have hnc68 := NB220_255.out
        have hcz69_0 : w35.cell? ⟨gb255, 0, none⟩ = some (.int .i64 0) := (blk_cell BK255.out 0).trans rfl
        have hcz69_1 : w35.cell? ⟨gb255, 1, none⟩ = some (.int .i64 0) := (blk_cell BK255.out 1).trans rfl
        have hcz69_2 : w35.cell? ⟨gb255, 2, none⟩ = some (.int .i64 0) := (blk_cell BK255.out 2).trans rfl
        have hcz69_3 : w35.cell? ⟨gb255, 3, none⟩ = some (.int .i64 0) := (blk_cell BK255.out 3).trans rfl
        have hcz69_4 : w35.cell? ⟨gb255, 4, none⟩ = some (.slice none 0 0) := (blk_cell BK255.out 4).trans rfl
        have hcz69_5 : w35.cell? ⟨gb255, 5, none⟩ = some (.slice none 0 0) := (blk_cell BK255.out 5).trans rfl
        have hcz69_6 : w35.cell? ⟨gb255, 6, none⟩ = some (.slice none 0 0) := (blk_cell BK255.out 6).trans rfl
        have hcz69_7 : w35.cell? ⟨gb255, 7, none⟩ = some (.int .i64 0) := (blk_cell BK255.out 7).trans rfl
        have hfz69_0 := blk_frozen BK255.out 0
        have hfz69_1 := blk_frozen BK255.out 1
        have hfz69_2 := blk_frozen BK255.out 2
        have hfz69_3 := blk_frozen BK255.out 3
        have hfz69_4 := blk_frozen BK255.out 4
        have hfz69_5 := blk_frozen BK255.out 5
        have hfz69_6 := blk_frozen BK255.out 6
        have hfz69_7 := blk_frozen BK255.out 7
        go_wp2_with (first | (go_at_call 32; (with_reducible refine (regcertref09_Prefix.calls kj4 _ _ t234 _ _ t250 false _ ?side1 ?side2 ?side3 ?side4 A52.out).mono ?_); (case side1 => refine (Kd.R_reads' (e := 2) (base := w.heap.size) (ok := fun k_ => ((((some k_ ≠ (.slice Ao30 t228.length co30 : Value).ownBlock ∧ some k_ ≠ (.slice Ao31 t231.length co31 : Value).ownBlock) ∧ some k_ ≠ (.slice Ao39 t244.length co39 : Value).ownBlock) ∧ some k_ ≠ (.slice Ao40 t247.length co40 : Value).ownBlock) ∧ some k_ ≠ (.slice Ao41 t250.length co41 : Value).ownBlock)) (n := t234.length) (c := co32) ?_).2.2; exact (by (with_reducible repeat (first | apply Kd.R_alloc | apply Kd.R_drewN | apply Kd.R_drew)); exact (Kd.R_mono (RF gb255 7 (RF gb255 6 (RF gb255 5 (RF gb255 4 (RF gb255 3 (RF gb255 2 (RF gb255 1 (RF gb255 0 (Kd.R_types HO236.out BK255.out (by decide)) (.int .i64 t240)) (.int .i64 t241)) (.int .i64 t242)) (.int .i64 t243)) (.slice Ao39 t244.length co39)) (.slice Ao40 t247.length co40)) (.slice Ao41 t250.length co41)) (.int .i64 t253)) (fun _ h_ => h_.1)))); (case side2 => exact (Kd.R_reads' HO236.out).2.1); (case side3 => refine (Kd.R_reads' (e := 2) (base := w.heap.size) (ok := fun k_ => ((((some k_ ≠ (.slice Ao39 t244.length co39 : Value).ownBlock ∧ some k_ ≠ (.slice Ao40 t247.length co40 : Value).ownBlock) ∧ some k_ ≠ (.slice Ao30 t228.length co30 : Value).ownBlock) ∧ some k_ ≠ (.slice Ao31 t231.length co31 : Value).ownBlock) ∧ some k_ ≠ (.slice Ao32 t234.length co32 : Value).ownBlock)) (n := t250.length) (c := co41) ?_).2.2; exact (by (with_reducible repeat (first | apply Kd.R_alloc | apply Kd.R_drewN | apply Kd.R_drew)); exact (Kd.R_mono (RF gb255 7 (RF gb255 6 (RF gb255 5 (RF gb255 4 (RF gb255 3 (RF gb255 2 (RF gb255 1 (RF gb255 0 (Kd.R_types HO252.out BK255.out (by decide)) (.int .i64 t240)) (.int .i64 t241)) (.int .i64 t242)) (.int .i64 t243)) (.slice Ao39 t244.length co39)) (.slice Ao40 t247.length co40)) (.slice Ao41 t250.length co41)) (.int .i64 t253)) (fun _ h_ => h_.1)))); (case side4 => exact (Kd.R_reads' HO252.out).2.1); rintro e w' ⟨rfl, ⟨nd, rfl⟩⟩))
        go_meet
        case rel => exact ⟨_, (true), (by first | rfl | (simp; done) | (simp [*]; done)), H', ⟨by have := HJ4.out; first | omega | exact Nat.le_refl _⟩, ⟨by (with_reducible repeat (first | apply Kd.R_alloc | apply Kd.R_drewN | apply Kd.R_drew)); exact Kd.R_mono (RF gb255 7 (RF gb255 6 (RF gb255 5 (RF gb255 4 (RF gb255 3 (RF gb255 2 (RF gb255 1 (RF gb255 0 (Kd.R_types HO230.out BK255.out (by decide)) (.int .i64 t240)) (.int .i64 t241)) (.int .i64 t242)) (.int .i64 t243)) (.slice Ao39 t244.length co39)) (.slice Ao40 t247.length co40)) (.slice Ao41 t250.length co41)) (.int .i64 t253)) (fun _ hk => ⟨hk.1.1.1.1.1, ⟨hk.1.1.1.1.2, ⟨hk.1.1.1.2, ⟨hk.1.1.2, hk.1.2⟩⟩⟩⟩)⟩, ⟨by (with_reducible repeat (first | apply Kd.R_alloc | apply Kd.R_drewN | apply Kd.R_drew)); exact Kd.R_mono (RF gb255 7 (RF gb255 6 (RF gb255 5 (RF gb255 4 (RF gb255 3 (RF gb255 2 (RF gb255 1 (RF gb255 0 (Kd.R_types HO233.out BK255.out (by decide)) (.int .i64 t240)) (.int .i64 t241)) (.int .i64 t242)) (.int .i64 t243)) (.slice Ao39 t244.length co39)) (.slice Ao40 t247.length co40)) (.slice Ao41 t250.length co41)) (.int .i64 t253)) (fun _ hk => ⟨hk.1.1.1.1.1, ⟨hk.1.1.1.1.2, ⟨hk.1.1.1.2, ⟨hk.1.1.2, hk.1.2⟩⟩⟩⟩)⟩, ⟨by (with_reducible repeat (first | apply Kd.R_alloc | apply Kd.R_drewN | apply Kd.R_drew)); exact Kd.R_mono (RF gb255 7 (RF gb255 6 (RF gb255 5 (RF gb255 4 (RF gb255 3 (RF gb255 2 (RF gb255 1 (RF gb255 0 (Kd.R_types HO236.out BK255.out (by decide)) (.int .i64 t240)) (.int .i64 t241)) (.int .i64 t242)) (.int .i64 t243)) (.slice Ao39 t244.length co39)) (.slice Ao40 t247.length co40)) (.slice Ao41 t250.length co41)) (.int .i64 t253)) (fun _ hk => ⟨hk.1.1.1.1.1, ⟨hk.1.1.1.1.2, ⟨hk.1.1.1.2, ⟨hk.1.1.2, hk.1.2⟩⟩⟩⟩)⟩, ⟨by (with_reducible repeat (first | apply Kd.R_alloc | apply Kd.R_drewN | apply Kd.R_drew)); exact Kd.R_mono (RF gb255 7 (RF gb255 6 (RF gb255 5 (RF gb255 4 (RF gb255 3 (RF gb255 2 (RF gb255 1 (RF gb255 0 (Kd.R_types HO246.out BK255.out (by decide)) (.int .i64 t240)) (.int .i64 t241)) (.int .i64 t242)) (.int .i64 t243)) (.slice Ao39 t244.length co39)) (.slice Ao40 t247.length co40)) (.slice Ao41 t250.length co41)) (.int .i64 t253)) (fun _ hk => ⟨hk.1.1.1.2, ⟨hk.1.1.2, ⟨hk.1.2, ⟨hk.1.1.1.1.1, hk.1.1.1.1.2⟩⟩⟩⟩)⟩, ⟨by (with_reducible repeat (first | apply Kd.R_alloc | apply Kd.R_drewN | apply Kd.R_drew)); exact Kd.R_mono (RF gb255 7 (RF gb255 6 (RF gb255 5 (RF gb255 4 (RF gb255 3 (RF gb255 2 (RF gb255 1 (RF gb255 0 (Kd.R_types HO249.out BK255.out (by decide)) (.int .i64 t240)) (.int .i64 t241)) (.int .i64 t242)) (.int .i64 t243)) (.slice Ao39 t244.length co39)) (.slice Ao40 t247.length co40)) (.slice Ao41 t250.length co41)) (.int .i64 t253)) (fun _ hk => ⟨hk.1.1.1.2, ⟨hk.1.1.2, ⟨hk.1.2, ⟨hk.1.1.1.1.1, hk.1.1.1.1.2⟩⟩⟩⟩)⟩, ⟨by (with_reducible repeat (first | apply Kd.R_alloc | apply Kd.R_drewN | apply Kd.R_drew)); exact Kd.R_mono (RF gb255 7 (RF gb255 6 (RF gb255 5 (RF gb255 4 (RF gb255 3 (RF gb255 2 (RF gb255 1 (RF gb255 0 (Kd.R_types HO252.out BK255.out (by decide)) (.int .i64 t240)) (.int .i64 t241)) (.int .i64 t242)) (.int .i64 t243)) (.slice Ao39 t244.length co39)) (.slice Ao40 t247.length co40)) (.slice Ao41 t250.length co41)) (.int .i64 t253)) (fun _ hk => ⟨hk.1.1.1.2, ⟨hk.1.1.2, ⟨hk.1.2, ⟨hk.1.1.1.1.1, hk.1.1.1.1.2⟩⟩⟩⟩)⟩, ⟨by (with_reducible repeat (first | refine blk_drewN ?_ _ | refine blk_drew ?_ | refine blk_alloc ?_ _)); refine blk_far ?_ NB220_255.out _; (with_reducible repeat (first | refine blk_drewN ?_ _ | refine blk_drew ?_ | refine blk_alloc ?_ _)); refine blk_far ?_ NB220_255.out _; (with_reducible repeat (first | refine blk_drewN ?_ _ | refine blk_drew ?_ | refine blk_alloc ?_ _)); refine blk_far ?_ NB220_255.out _; (with_reducible repeat (first | refine blk_drewN ?_ _ | refine blk_drew ?_ | refine blk_alloc ?_ _)); refine blk_far ?_ NB220_255.out _; (with_reducible repeat (first | refine blk_drewN ?_ _ | refine blk_drew ?_ | refine blk_alloc ?_ _)); refine blk_far ?_ NB220_255.out _; (with_reducible repeat (first | refine blk_drewN ?_ _ | refine blk_drew ?_ | refine blk_alloc ?_ _)); refine blk_far ?_ NB220_255.out _; (with_reducible repeat (first | refine blk_drewN ?_ _ | refine blk_drew ?_ | refine blk_alloc ?_ _)); refine blk_far ?_ NB220_255.out _; (with_reducible repeat (first | refine blk_drewN ?_ _ | refine blk_drew ?_ | refine blk_alloc ?_ _)); refine blk_far ?_ NB220_255.out _; (with_reducible repeat (first | refine blk_drewN ?_ _ | refine blk_drew ?_ | refine blk_alloc ?_ _)); exact BK220.out⟩, ⟨by (with_reducible repeat (first | refine blk_drewN ?_ _ | refine blk_drew ?_ | refine blk_alloc ?_ _)); refine blk_far ?_ NB239_255.out _; (with_reducible repeat (first | refine blk_drewN ?_ _ | refine blk_drew ?_ | refine blk_alloc ?_ _)); refine blk_far ?_ NB239_255.out _; (with_reducible repeat (first | refine blk_drewN ?_ _ | refine blk_drew ?_ | refine blk_alloc ?_ _)); refine blk_far ?_ NB239_255.out _; (with_reducible repeat (first | refine blk_drewN ?_ _ | refine blk_drew ?_ | refine blk_alloc ?_ _)); refine blk_far ?_ NB239_255.out _; (with_reducible repeat (first | refine blk_drewN ?_ _ | refine blk_drew ?_ | refine blk_alloc ?_ _)); refine blk_far ?_ NB239_255.out _; (with_reducible repeat (first | refine blk_drewN ?_ _ | refine blk_drew ?_ | refine blk_alloc ?_ _)); refine blk_far ?_ NB239_255.out _; (with_reducible repeat (first | refine blk_drewN ?_ _ | refine blk_drew ?_ | refine blk_alloc ?_ _)); refine blk_far ?_ NB239_255.out _; (with_reducible repeat (first | refine blk_drewN ?_ _ | refine blk_drew ?_ | refine blk_alloc ?_ _)); refine blk_far ?_ NB239_255.out _; (with_reducible repeat (first | refine blk_drewN ?_ _ | refine blk_drew ?_ | refine blk_alloc ?_ _)); exact BK239.out⟩, ⟨by (with_reducible repeat (first | refine blk_drewN ?_ _ | refine blk_drew ?_ | refine blk_alloc ?_ _)); refine blk_put (cs := #[.int .i64 t240, .int .i64 t241, .int .i64 t242, .int .i64 t243, .slice Ao39 t244.length co39, .slice Ao40 t247.length co40, .slice Ao41 t250.length co41, .int .i64 0]) ?_ 7 _ rfl; (with_reducible repeat (first | refine blk_drewN ?_ _ | refine blk_drew ?_ | refine blk_alloc ?_ _)); refine blk_put (cs := #[.int .i64 t240, .int .i64 t241, .int .i64 t242, .int .i64 t243, .slice Ao39 t244.length co39, .slice Ao40 t247.length co40, .slice none 0 0, .int .i64 0]) ?_ 6 _ rfl; (with_reducible repeat (first | refine blk_drewN ?_ _ | refine blk_drew ?_ | refine blk_alloc ?_ _)); refine blk_put (cs := #[.int .i64 t240, .int .i64 t241, .int .i64 t242, .int .i64 t243, .slice Ao39 t244.length co39, .slice none 0 0, .slice none 0 0, .int .i64 0]) ?_ 5 _ rfl; (with_reducible repeat (first | refine blk_drewN ?_ _ | refine blk_drew ?_ | refine blk_alloc ?_ _)); refine blk_put (cs := #[.int .i64 t240, .int .i64 t241, .int .i64 t242, .int .i64 t243, .slice none 0 0, .slice none 0 0, .slice none 0 0, .int .i64 0]) ?_ 4 _ rfl; (with_reducible repeat (first | refine blk_drewN ?_ _ | refine blk_drew ?_ | refine blk_alloc ?_ _)); refine blk_put (cs := #[.int .i64 t240, .int .i64 t241, .int .i64 t242, .int .i64 0, .slice none 0 0, .slice none 0 0, .slice none 0 0, .int .i64 0]) ?_ 3 _ rfl; (with_reducible repeat (first | refine blk_drewN ?_ _ | refine blk_drew ?_ | refine blk_alloc ?_ _)); refine blk_put (cs := #[.int .i64 t240, .int .i64 t241, .int .i64 0, .int .i64 0, .slice none 0 0, .slice none 0 0, .slice none 0 0, .int .i64 0]) ?_ 2 _ rfl; (with_reducible repeat (first | refine blk_drewN ?_ _ | refine blk_drew ?_ | refine blk_alloc ?_ _)); refine blk_put (cs := #[.int .i64 t240, .int .i64 0, .int .i64 0, .int .i64 0, .slice none 0 0, .slice none 0 0, .slice none 0 0, .int .i64 0]) ?_ 1 _ rfl; (with_reducible repeat (first | refine blk_drewN ?_ _ | refine blk_drew ?_ | refine blk_alloc ?_ _)); refine blk_put (cs := #[.int .i64 0, .int .i64 0, .int .i64 0, .int .i64 0, .slice none 0 0, .slice none 0 0, .slice none 0 0, .int .i64 0]) ?_ 0 _ rfl; (with_reducible repeat (first | refine blk_drewN ?_ _ | refine blk_drew ?_ | refine blk_alloc ?_ _)); exact BK255.out⟩, ⟨by repeat (first | (with_reducible first | exact HB.out | apply below_alloc | apply bdN | apply bd1 | refine below_set ?_ GE220.out | refine below_set ?_ GE239.out | refine below_set ?_ GE255.out) | exact HB.out)⟩⟩
    case rest =>
     clear HC24
     try clear c1
     try clear c2
     try clear p2
     try clear c3
     try clear c4
     try clear c5
     try clear c6
     try clear p6
     try clear c8
     try clear c10
     try clear c13
     try clear c19
     try clear c28
     try clear c36
     try clear c37
     try clear c42
     try clear c42b0
     try clear c43
     try clear c44
     try clear c46
     try clear c46b0
     try clear c47
     try clear c48
     try clear c50
     try clear c53
     try clear c54
     try clear c54b0
     try clear c54b1
     try clear c55
     try clear c56
     try clear c58
     try clear c60
     try clear c61
     try clear c63
     try clear p64
     try clear c65
     try clear c66
     try clear c68
     try clear hcz12_0
     try clear hcz12_1
     try clear hcz12_2
     try clear hcz12_3
     try clear hcz14_0
     try clear hcz14_1
     try clear hcz14_2
     try clear hcz14_3
     try clear hcz16_0
     try clear hcz16_1
     try clear hcz16_2
     try clear hcz16_3
     try clear hcz25_0
     try clear hcz25_1
     try clear hcz25_2
     try clear hcz25_3
     try clear hcz29_0
     try clear hcz29_1
     try clear hcz29_2
     try clear hcz29_3
     try clear hcz29_4
     try clear hcz29_5
     try clear hcz29_6
     try clear hcz29_7
     try clear hcz33_0
     try clear hcz33_1
     try clear hcz33_2
     try clear hcz33_3
     try clear hcz38_0
     try clear hcz38_1
     try clear hcz38_2
     try clear hcz38_3
     try clear hcz38_4
     try clear hcz38_5
     try clear hcz38_6
     try clear hcz38_7
     try clear hcz45_0
     try clear hcz45_1
     try clear hcz45_2
     try clear hcz45_3
     try clear hcz45_4
     try clear hcz45_5
     try clear hcz45_6
     try clear hcz45_7
     try clear hcz49_0
     try clear hcz49_1
     try clear hcz49_2
     try clear hcz49_3
     try clear hcz49_4
     try clear hcz49_5
     try clear hcz49_6
     try clear hcz49_7
     try clear hcz51_0
     try clear hcz51_1
     try clear hcz51_2
     try clear hcz51_3
     try clear hcz51_4
     try clear hcz51_5
     try clear hcz51_6
     try clear hcz51_7
     try clear hcz57_0
     try clear hcz57_1
     try clear hcz57_2
     try clear hcz57_3
     try clear hcz57_4
     try clear hcz57_5
     try clear hcz57_6
     try clear hcz57_7
     try clear hcz59_0
     try clear hcz59_1
     try clear hcz59_2
     try clear hcz59_3
     try clear hcz59_4
     try clear hcz59_5
     try clear hcz59_6
     try clear hcz59_7
     try clear hcz62_0
     try clear hcz62_1
     try clear hcz62_2
     try clear hcz62_3
     try clear hcz62_4
     try clear hcz62_5
     try clear hcz62_6
     try clear hcz62_7
     try clear hcz64_0
     try clear hcz64_1
     try clear hcz64_2
     try clear hcz64_3
     try clear hcz64_4
     try clear hcz64_5
     try clear hcz64_6
     try clear hcz64_7
     try clear hcz67_0
     try clear hcz67_1
     try clear hcz67_2
     try clear hcz67_3
     try clear hcz67_4
     try clear hcz67_5
     try clear hcz67_6
     try clear hcz67_7
     try clear hcz69_0
     try clear hcz69_1
     try clear hcz69_2
     try clear hcz69_3
     try clear hcz69_4
     try clear hcz69_5
     try clear hcz69_6
     try clear hcz69_7
     try clear hfz12_0
     try clear hfz12_1
     try clear hfz12_2
     try clear hfz12_3
     try clear hfz14_0
     try clear hfz14_1
     try clear hfz14_2
     try clear hfz14_3
     try clear hfz16_0
     try clear hfz16_1
     try clear hfz16_2
     try clear hfz16_3
     try clear hfz25_0
     try clear hfz25_1
     try clear hfz25_2
     try clear hfz25_3
     try clear hfz29_0
     try clear hfz29_1
     try clear hfz29_2
     try clear hfz29_3
     try clear hfz29_4
     try clear hfz29_5
     try clear hfz29_6
     try clear hfz29_7
     try clear hfz33_0
     try clear hfz33_1
     try clear hfz33_2
     try clear hfz33_3
     try clear hfz38_0
     try clear hfz38_1
     try clear hfz38_2
     try clear hfz38_3
     try clear hfz38_4
     try clear hfz38_5
     try clear hfz38_6
     try clear hfz38_7
     try clear hfz45_0
     try clear hfz45_1
     try clear hfz45_2
     try clear hfz45_3
     try clear hfz45_4
     try clear hfz45_5
     try clear hfz45_6
     try clear hfz45_7
     try clear hfz49_0
     try clear hfz49_1
     try clear hfz49_2
     try clear hfz49_3
     try clear hfz49_4
     try clear hfz49_5
     try clear hfz49_6
     try clear hfz49_7
     try clear hfz51_0
     try clear hfz51_1
     try clear hfz51_2
     try clear hfz51_3
     try clear hfz51_4
     try clear hfz51_5
     try clear hfz51_6
     try clear hfz51_7
     try clear hfz57_0
     try clear hfz57_1
     try clear hfz57_2
     try clear hfz57_3
     try clear hfz57_4
     try clear hfz57_5
     try clear hfz57_6
     try clear hfz57_7
     try clear hfz59_0
     try clear hfz59_1
     try clear hfz59_2
     try clear hfz59_3
     try clear hfz59_4
     try clear hfz59_5
     try clear hfz59_6
     try clear hfz59_7
     try clear hfz62_0
     try clear hfz62_1
     try clear hfz62_2
     try clear hfz62_3
     try clear hfz62_4
     try clear hfz62_5
     try clear hfz62_6
     try clear hfz62_7
     try clear hfz64_0
     try clear hfz64_1
     try clear hfz64_2
     try clear hfz64_3
     try clear hfz64_4
     try clear hfz64_5
     try clear hfz64_6
     try clear hfz64_7
     try clear hfz67_0
     try clear hfz67_1
     try clear hfz67_2
     try clear hfz67_3
     try clear hfz67_4
     try clear hfz67_5
     try clear hfz67_6
     try clear hfz67_7
     try clear hfz69_0
     try clear hfz69_1
     try clear hfz69_2
     try clear hfz69_3
     try clear hfz69_4
     try clear hfz69_5
     try clear hfz69_6
     try clear hfz69_7
     try clear p2
     obtain ⟨kq, x81_23, rfl, HA, HJ23, HO_240004, HO_240005, HO_240006, HO_256004, HO_256005, HO_256006, BK220, BK239, BK255, HB⟩ := hcut
     cases kq with
     | zero => exact absurd HA.out (by simp [regcertlaw10_ExecuteFuel.j1])
     | succ kj23 =>
      have H := HA.out
      clear HA
      simp only [regcertlaw10_ExecuteFuel.j1] at H
      by_cases c70 : x81_23 = true
      ·subst c70
       have H1 : (none) = some r := by rw [if_pos rfl] at H; exact H
       clear H
       have H := H1
       clear H1
       exact absurd H (by simp)
      ·replace c70 := Bool.eq_false_iff.mpr c70
       subst c70
       have H1 : (if t224 = 0 then (if t253 ≥ t237 then (some true) else ((regcertref09_Same.f kj23 t224 t225 t226 t227 t228 t231 t234 t237 t240 t241 t242 t243 t244 t247 t250 t253).bind fun t257 => (some t257))) else ((regcertref09_Same.f kj23 t224 t225 t226 t227 t228 t231 t234 t237 t240 t241 t242 t243 t244 t247 t250 t253).bind fun t258 => (some t258))) = some r := by rw [if_neg (show ¬ (false = true) by decide)] at H; exact H
       clear H
       have H := H1
       clear H1
       by_cases c71 : t224 = 0
       ·rw [if_pos c71] at H
        have c71b0 : (t224 == 0) = true := beq_iff_eq.mpr c71
        have c71b1 : (t224 != 0) = false := bne_eq_false_iff_eq.mpr c71
        clear c71
        by_cases c72 : t253 ≥ t237
        ·rw [if_pos c72] at H
         have c72b0 : decide (t237 ≤ t253) = true := decide_eq_true c72
         clear c72
         obtain rfl := Option.some.inj H
         have hnb73 := NB239_220.out
         have hnc73 := NB220_239.out
         have hnb74 := NB239_255.out
         have hnc74 := NB255_239.out
         have hcz75_0 : wc.cell? ⟨gb239, 0, none⟩ = some (.int .i64 t224) := (blk_cell BK239.out 0).trans rfl
         have hcz75_1 : wc.cell? ⟨gb239, 1, none⟩ = some (.int .i64 t225) := (blk_cell BK239.out 1).trans rfl
         have hcz75_2 : wc.cell? ⟨gb239, 2, none⟩ = some (.int .i64 t226) := (blk_cell BK239.out 2).trans rfl
         have hcz75_3 : wc.cell? ⟨gb239, 3, none⟩ = some (.int .i64 t227) := (blk_cell BK239.out 3).trans rfl
         have hcz75_4 : wc.cell? ⟨gb239, 4, none⟩ = some (.slice Ao30 t228.length co30) := (blk_cell BK239.out 4).trans rfl
         have hcz75_5 : wc.cell? ⟨gb239, 5, none⟩ = some (.slice Ao31 t231.length co31) := (blk_cell BK239.out 5).trans rfl
         have hcz75_6 : wc.cell? ⟨gb239, 6, none⟩ = some (.slice Ao32 t234.length co32) := (blk_cell BK239.out 6).trans rfl
         have hcz75_7 : wc.cell? ⟨gb239, 7, none⟩ = some (.int .i64 t237) := (blk_cell BK239.out 7).trans rfl
         have hfz75_0 := blk_frozen BK239.out 0
         have hfz75_1 := blk_frozen BK239.out 1
         have hfz75_2 := blk_frozen BK239.out 2
         have hfz75_3 := blk_frozen BK239.out 3
         have hfz75_4 := blk_frozen BK239.out 4
         have hfz75_5 := blk_frozen BK239.out 5
         have hfz75_6 := blk_frozen BK239.out 6
         have hfz75_7 := blk_frozen BK239.out 7
         have hnb76 := NB255_220.out
         have hnc76 := NB220_255.out
         have hcz77_0 : wc.cell? ⟨gb255, 0, none⟩ = some (.int .i64 t240) := (blk_cell BK255.out 0).trans rfl
         have hcz77_1 : wc.cell? ⟨gb255, 1, none⟩ = some (.int .i64 t241) := (blk_cell BK255.out 1).trans rfl
         have hcz77_2 : wc.cell? ⟨gb255, 2, none⟩ = some (.int .i64 t242) := (blk_cell BK255.out 2).trans rfl
         have hcz77_3 : wc.cell? ⟨gb255, 3, none⟩ = some (.int .i64 t243) := (blk_cell BK255.out 3).trans rfl
         have hcz77_4 : wc.cell? ⟨gb255, 4, none⟩ = some (.slice Ao39 t244.length co39) := (blk_cell BK255.out 4).trans rfl
         have hcz77_5 : wc.cell? ⟨gb255, 5, none⟩ = some (.slice Ao40 t247.length co40) := (blk_cell BK255.out 5).trans rfl
         have hcz77_6 : wc.cell? ⟨gb255, 6, none⟩ = some (.slice Ao41 t250.length co41) := (blk_cell BK255.out 6).trans rfl
         have hcz77_7 : wc.cell? ⟨gb255, 7, none⟩ = some (.int .i64 t253) := (blk_cell BK255.out 7).trans rfl
         have hfz77_0 := blk_frozen BK255.out 0
         have hfz77_1 := blk_frozen BK255.out 1
         have hfz77_2 := blk_frozen BK255.out 2
         have hfz77_3 := blk_frozen BK255.out 3
         have hfz77_4 := blk_frozen BK255.out 4
         have hfz77_5 := blk_frozen BK255.out 5
         have hfz77_6 := blk_frozen BK255.out 6
         have hfz77_7 := blk_frozen BK255.out 7
         go_wp2
         go_ret
         exact ⟨by first | rfl | (simp [errW_none, errW_some] <;> rfl) | (simp [*, errW_none, errW_some] <;> rfl), by repeat (first | (with_reducible first | exact HB.out | apply below_alloc | apply bdN | apply bd1 | refine below_set ?_ GE220.out | refine below_set ?_ GE239.out | refine below_set ?_ GE255.out) | exact HB.out)⟩
        ·rw [if_neg c72] at H
         have c72b0 : decide (t237 ≤ t253) = false := decide_eq_false c72
         clear c72
         replace H := Option.bind_eq_some_iff.mp H
         obtain ⟨t257, A780, H⟩ := H
         replace H : (some t257) = some r := H
         have A78 := As0 A780
         clear A780
         obtain rfl := Option.some.inj H
         have hnb79 := NB239_220.out
         have hnc79 := NB220_239.out
         have hnb80 := NB239_255.out
         have hnc80 := NB255_239.out
         have hcz81_0 : wc.cell? ⟨gb239, 0, none⟩ = some (.int .i64 t224) := (blk_cell BK239.out 0).trans rfl
         have hcz81_1 : wc.cell? ⟨gb239, 1, none⟩ = some (.int .i64 t225) := (blk_cell BK239.out 1).trans rfl
         have hcz81_2 : wc.cell? ⟨gb239, 2, none⟩ = some (.int .i64 t226) := (blk_cell BK239.out 2).trans rfl
         have hcz81_3 : wc.cell? ⟨gb239, 3, none⟩ = some (.int .i64 t227) := (blk_cell BK239.out 3).trans rfl
         have hcz81_4 : wc.cell? ⟨gb239, 4, none⟩ = some (.slice Ao30 t228.length co30) := (blk_cell BK239.out 4).trans rfl
         have hcz81_5 : wc.cell? ⟨gb239, 5, none⟩ = some (.slice Ao31 t231.length co31) := (blk_cell BK239.out 5).trans rfl
         have hcz81_6 : wc.cell? ⟨gb239, 6, none⟩ = some (.slice Ao32 t234.length co32) := (blk_cell BK239.out 6).trans rfl
         have hcz81_7 : wc.cell? ⟨gb239, 7, none⟩ = some (.int .i64 t237) := (blk_cell BK239.out 7).trans rfl
         have hfz81_0 := blk_frozen BK239.out 0
         have hfz81_1 := blk_frozen BK239.out 1
         have hfz81_2 := blk_frozen BK239.out 2
         have hfz81_3 := blk_frozen BK239.out 3
         have hfz81_4 := blk_frozen BK239.out 4
         have hfz81_5 := blk_frozen BK239.out 5
         have hfz81_6 := blk_frozen BK239.out 6
         have hfz81_7 := blk_frozen BK239.out 7
         have hnb82 := NB255_220.out
         have hnc82 := NB220_255.out
         have hcz83_0 : wc.cell? ⟨gb255, 0, none⟩ = some (.int .i64 t240) := (blk_cell BK255.out 0).trans rfl
         have hcz83_1 : wc.cell? ⟨gb255, 1, none⟩ = some (.int .i64 t241) := (blk_cell BK255.out 1).trans rfl
         have hcz83_2 : wc.cell? ⟨gb255, 2, none⟩ = some (.int .i64 t242) := (blk_cell BK255.out 2).trans rfl
         have hcz83_3 : wc.cell? ⟨gb255, 3, none⟩ = some (.int .i64 t243) := (blk_cell BK255.out 3).trans rfl
         have hcz83_4 : wc.cell? ⟨gb255, 4, none⟩ = some (.slice Ao39 t244.length co39) := (blk_cell BK255.out 4).trans rfl
         have hcz83_5 : wc.cell? ⟨gb255, 5, none⟩ = some (.slice Ao40 t247.length co40) := (blk_cell BK255.out 5).trans rfl
         have hcz83_6 : wc.cell? ⟨gb255, 6, none⟩ = some (.slice Ao41 t250.length co41) := (blk_cell BK255.out 6).trans rfl
         have hcz83_7 : wc.cell? ⟨gb255, 7, none⟩ = some (.int .i64 t253) := (blk_cell BK255.out 7).trans rfl
         have hfz83_0 := blk_frozen BK255.out 0
         have hfz83_1 := blk_frozen BK255.out 1
         have hfz83_2 := blk_frozen BK255.out 2
         have hfz83_3 := blk_frozen BK255.out 3
         have hfz83_4 := blk_frozen BK255.out 4
         have hfz83_5 := blk_frozen BK255.out 5
         have hfz83_6 := blk_frozen BK255.out 6
         have hfz83_7 := blk_frozen BK255.out 7
         go_wp2_with (first | (go_at_call 33; (with_reducible refine (regcertref09_Same.calls kj23 t224 t225 t226 t227 _ _ t228 _ _ t231 _ _ t234 t237 t240 t241 t242 t243 _ _ t244 _ _ t247 _ _ t250 t253 t257 _ ?side1 ?side2 ?side3 ?side4 ?side5 ?side6 ?side7 ?side8 ?side9 ?side10 ?side11 ?side12 A78.out).mono ?_); (case side1 => repeat (first | exact (Kd.R_reads' HO_240004.out).2.2 | (with_reducible refine Kd.C_alloc ?_ _) | (with_reducible refine Kd.C_drewN ?_ _) | (with_reducible refine Kd.C_drew ?_))); (case side2 => exact (Kd.R_reads' HO_240004.out).2.1); (case side3 => repeat (first | exact (Kd.R_reads' HO_240005.out).2.2 | (with_reducible refine Kd.C_alloc ?_ _) | (with_reducible refine Kd.C_drewN ?_ _) | (with_reducible refine Kd.C_drew ?_))); (case side4 => exact (Kd.R_reads' HO_240005.out).2.1); (case side5 => repeat (first | exact (Kd.R_reads' HO_240006.out).2.2 | (with_reducible refine Kd.C_alloc ?_ _) | (with_reducible refine Kd.C_drewN ?_ _) | (with_reducible refine Kd.C_drew ?_))); (case side6 => exact (Kd.R_reads' HO_240006.out).2.1); (case side7 => repeat (first | exact (Kd.R_reads' HO_256004.out).2.2 | (with_reducible refine Kd.C_alloc ?_ _) | (with_reducible refine Kd.C_drewN ?_ _) | (with_reducible refine Kd.C_drew ?_))); (case side8 => exact (Kd.R_reads' HO_256004.out).2.1); (case side9 => repeat (first | exact (Kd.R_reads' HO_256005.out).2.2 | (with_reducible refine Kd.C_alloc ?_ _) | (with_reducible refine Kd.C_drewN ?_ _) | (with_reducible refine Kd.C_drew ?_))); (case side10 => exact (Kd.R_reads' HO_256005.out).2.1); (case side11 => repeat (first | exact (Kd.R_reads' HO_256006.out).2.2 | (with_reducible refine Kd.C_alloc ?_ _) | (with_reducible refine Kd.C_drewN ?_ _) | (with_reducible refine Kd.C_drew ?_))); (case side12 => exact (Kd.R_reads' HO_256006.out).2.1); rintro e w84 ⟨rfl, hb⟩; have n0_ := As0 (Kd.R_below (by (with_reducible repeat (first | apply Kd.R_alloc | apply Kd.R_drewN | apply Kd.R_drew)); exact HO_240004.out) hb); have n1_ := As0 (Kd.R_below (by (with_reducible repeat (first | apply Kd.R_alloc | apply Kd.R_drewN | apply Kd.R_drew)); exact HO_240005.out) hb); have n2_ := As0 (Kd.R_below (by (with_reducible repeat (first | apply Kd.R_alloc | apply Kd.R_drewN | apply Kd.R_drew)); exact HO_240006.out) hb); have n3_ := As0 (Kd.R_below (by (with_reducible repeat (first | apply Kd.R_alloc | apply Kd.R_drewN | apply Kd.R_drew)); exact HO_256004.out) hb); have n4_ := As0 (Kd.R_below (by (with_reducible repeat (first | apply Kd.R_alloc | apply Kd.R_drewN | apply Kd.R_drew)); exact HO_256005.out) hb); have n5_ := As0 (Kd.R_below (by (with_reducible repeat (first | apply Kd.R_alloc | apply Kd.R_drewN | apply Kd.R_drew)); exact HO_256006.out) hb); have n6_ := As0 (blk_below (g := gb220) (o := .cells #[.int .i64 a0_0, .int .i64 a0_1, .int .i64 a0_2, .slice A0_3 l0_3.length c0_3] 63 (0, 0)) (by (with_reducible repeat (first | refine blk_drewN ?_ _ | refine blk_drew ?_ | refine blk_alloc ?_ _)); exact BK220.out) hb); have n7_ := As0 (blk_below (g := gb239) (o := .cells #[.int .i64 t224, .int .i64 t225, .int .i64 t226, .int .i64 t227, .slice Ao30 t228.length co30, .slice Ao31 t231.length co31, .slice Ao32 t234.length co32, .int .i64 t237] 39 (0, 0)) (by (with_reducible repeat (first | refine blk_drewN ?_ _ | refine blk_drew ?_ | refine blk_alloc ?_ _)); exact BK239.out) hb); have n8_ := As0 (blk_below (g := gb255) (o := .cells #[.int .i64 t240, .int .i64 t241, .int .i64 t242, .int .i64 t243, .slice Ao39 t244.length co39, .slice Ao40 t247.length co40, .slice Ao41 t250.length co41, .int .i64 t253] 39 (0, 0)) (by (with_reducible repeat (first | refine blk_drewN ?_ _ | refine blk_drew ?_ | refine blk_alloc ?_ _)); exact BK255.out) hb); have n9_ := As0 (below_step (by repeat (first | (with_reducible first | exact HB.out | apply below_alloc | apply bdN | apply bd1 | refine below_set ?_ GE220.out | refine below_set ?_ GE239.out | refine below_set ?_ GE255.out) | exact HB.out)) hb); clear HO_240004 HO_240005 HO_240006 HO_256004 HO_256005 HO_256006 BK220 BK239 BK255 HB; have HO_240004 := n0_; have HO_240005 := n1_; have HO_240006 := n2_; have HO_256004 := n3_; have HO_256005 := n4_; have HO_256006 := n5_; have BK220 := n6_; have BK239 := n7_; have BK255 := n8_; have HB := n9_; clear n0_ n1_ n2_ n3_ n4_ n5_ n6_ n7_ n8_ n9_; (try clear hb); (try clear hb2); (try clear hk); (try clear hi)))
         go_ret
         exact ⟨by first | rfl | (simp [errW_none, errW_some] <;> rfl) | (simp [*, errW_none, errW_some] <;> rfl), by repeat (first | (with_reducible first | exact HB.out | apply below_alloc | apply bdN | apply bd1 | refine below_set ?_ GE220.out | refine below_set ?_ GE239.out | refine below_set ?_ GE255.out) | exact HB.out)⟩
       ·rw [if_neg c71] at H
        have c71b0 : (t224 == 0) = false := beq_eq_false_iff_ne.mpr c71
        have c71b1 : (t224 != 0) = true := bne_iff_ne.mpr c71
        replace H := Option.bind_eq_some_iff.mp H
        obtain ⟨t258, A850, H⟩ := H
        replace H : (some t258) = some r := H
        have A85 := As0 A850
        clear A850
        obtain rfl := Option.some.inj H
        have hnb86 := NB239_220.out
        have hnc86 := NB220_239.out
        have hnb87 := NB239_255.out
        have hnc87 := NB255_239.out
        have hcz88_0 : wc.cell? ⟨gb239, 0, none⟩ = some (.int .i64 t224) := (blk_cell BK239.out 0).trans rfl
        have hcz88_1 : wc.cell? ⟨gb239, 1, none⟩ = some (.int .i64 t225) := (blk_cell BK239.out 1).trans rfl
        have hcz88_2 : wc.cell? ⟨gb239, 2, none⟩ = some (.int .i64 t226) := (blk_cell BK239.out 2).trans rfl
        have hcz88_3 : wc.cell? ⟨gb239, 3, none⟩ = some (.int .i64 t227) := (blk_cell BK239.out 3).trans rfl
        have hcz88_4 : wc.cell? ⟨gb239, 4, none⟩ = some (.slice Ao30 t228.length co30) := (blk_cell BK239.out 4).trans rfl
        have hcz88_5 : wc.cell? ⟨gb239, 5, none⟩ = some (.slice Ao31 t231.length co31) := (blk_cell BK239.out 5).trans rfl
        have hcz88_6 : wc.cell? ⟨gb239, 6, none⟩ = some (.slice Ao32 t234.length co32) := (blk_cell BK239.out 6).trans rfl
        have hcz88_7 : wc.cell? ⟨gb239, 7, none⟩ = some (.int .i64 t237) := (blk_cell BK239.out 7).trans rfl
        have hfz88_0 := blk_frozen BK239.out 0
        have hfz88_1 := blk_frozen BK239.out 1
        have hfz88_2 := blk_frozen BK239.out 2
        have hfz88_3 := blk_frozen BK239.out 3
        have hfz88_4 := blk_frozen BK239.out 4
        have hfz88_5 := blk_frozen BK239.out 5
        have hfz88_6 := blk_frozen BK239.out 6
        have hfz88_7 := blk_frozen BK239.out 7
        have hnb89 := NB255_220.out
        have hnc89 := NB220_255.out
        have hcz90_0 : wc.cell? ⟨gb255, 0, none⟩ = some (.int .i64 t240) := (blk_cell BK255.out 0).trans rfl
        have hcz90_1 : wc.cell? ⟨gb255, 1, none⟩ = some (.int .i64 t241) := (blk_cell BK255.out 1).trans rfl
        have hcz90_2 : wc.cell? ⟨gb255, 2, none⟩ = some (.int .i64 t242) := (blk_cell BK255.out 2).trans rfl
        have hcz90_3 : wc.cell? ⟨gb255, 3, none⟩ = some (.int .i64 t243) := (blk_cell BK255.out 3).trans rfl
        have hcz90_4 : wc.cell? ⟨gb255, 4, none⟩ = some (.slice Ao39 t244.length co39) := (blk_cell BK255.out 4).trans rfl
        have hcz90_5 : wc.cell? ⟨gb255, 5, none⟩ = some (.slice Ao40 t247.length co40) := (blk_cell BK255.out 5).trans rfl
        have hcz90_6 : wc.cell? ⟨gb255, 6, none⟩ = some (.slice Ao41 t250.length co41) := (blk_cell BK255.out 6).trans rfl
        have hcz90_7 : wc.cell? ⟨gb255, 7, none⟩ = some (.int .i64 t253) := (blk_cell BK255.out 7).trans rfl
        have hfz90_0 := blk_frozen BK255.out 0
        have hfz90_1 := blk_frozen BK255.out 1
        have hfz90_2 := blk_frozen BK255.out 2
        have hfz90_3 := blk_frozen BK255.out 3
        have hfz90_4 := blk_frozen BK255.out 4
        have hfz90_5 := blk_frozen BK255.out 5
        have hfz90_6 := blk_frozen BK255.out 6
        have hfz90_7 := blk_frozen BK255.out 7
        go_wp2_with (first | (go_at_call 33; (with_reducible refine (regcertref09_Same.calls kj23 t224 t225 t226 t227 _ _ t228 _ _ t231 _ _ t234 t237 t240 t241 t242 t243 _ _ t244 _ _ t247 _ _ t250 t253 t258 _ ?side1 ?side2 ?side3 ?side4 ?side5 ?side6 ?side7 ?side8 ?side9 ?side10 ?side11 ?side12 A85.out).mono ?_); (case side1 => repeat (first | exact (Kd.R_reads' HO_240004.out).2.2 | (with_reducible refine Kd.C_alloc ?_ _) | (with_reducible refine Kd.C_drewN ?_ _) | (with_reducible refine Kd.C_drew ?_))); (case side2 => exact (Kd.R_reads' HO_240004.out).2.1); (case side3 => repeat (first | exact (Kd.R_reads' HO_240005.out).2.2 | (with_reducible refine Kd.C_alloc ?_ _) | (with_reducible refine Kd.C_drewN ?_ _) | (with_reducible refine Kd.C_drew ?_))); (case side4 => exact (Kd.R_reads' HO_240005.out).2.1); (case side5 => repeat (first | exact (Kd.R_reads' HO_240006.out).2.2 | (with_reducible refine Kd.C_alloc ?_ _) | (with_reducible refine Kd.C_drewN ?_ _) | (with_reducible refine Kd.C_drew ?_))); (case side6 => exact (Kd.R_reads' HO_240006.out).2.1); (case side7 => repeat (first | exact (Kd.R_reads' HO_256004.out).2.2 | (with_reducible refine Kd.C_alloc ?_ _) | (with_reducible refine Kd.C_drewN ?_ _) | (with_reducible refine Kd.C_drew ?_))); (case side8 => exact (Kd.R_reads' HO_256004.out).2.1); (case side9 => repeat (first | exact (Kd.R_reads' HO_256005.out).2.2 | (with_reducible refine Kd.C_alloc ?_ _) | (with_reducible refine Kd.C_drewN ?_ _) | (with_reducible refine Kd.C_drew ?_))); (case side10 => exact (Kd.R_reads' HO_256005.out).2.1); (case side11 => repeat (first | exact (Kd.R_reads' HO_256006.out).2.2 | (with_reducible refine Kd.C_alloc ?_ _) | (with_reducible refine Kd.C_drewN ?_ _) | (with_reducible refine Kd.C_drew ?_))); (case side12 => exact (Kd.R_reads' HO_256006.out).2.1); rintro e w91 ⟨rfl, hb⟩; have n0_ := As0 (Kd.R_below (by (with_reducible repeat (first | apply Kd.R_alloc | apply Kd.R_drewN | apply Kd.R_drew)); exact HO_240004.out) hb); have n1_ := As0 (Kd.R_below (by (with_reducible repeat (first | apply Kd.R_alloc | apply Kd.R_drewN | apply Kd.R_drew)); exact HO_240005.out) hb); have n2_ := As0 (Kd.R_below (by (with_reducible repeat (first | apply Kd.R_alloc | apply Kd.R_drewN | apply Kd.R_drew)); exact HO_240006.out) hb); have n3_ := As0 (Kd.R_below (by (with_reducible repeat (first | apply Kd.R_alloc | apply Kd.R_drewN | apply Kd.R_drew)); exact HO_256004.out) hb); have n4_ := As0 (Kd.R_below (by (with_reducible repeat (first | apply Kd.R_alloc | apply Kd.R_drewN | apply Kd.R_drew)); exact HO_256005.out) hb); have n5_ := As0 (Kd.R_below (by (with_reducible repeat (first | apply Kd.R_alloc | apply Kd.R_drewN | apply Kd.R_drew)); exact HO_256006.out) hb); have n6_ := As0 (blk_below (g := gb220) (o := .cells #[.int .i64 a0_0, .int .i64 a0_1, .int .i64 a0_2, .slice A0_3 l0_3.length c0_3] 63 (0, 0)) (by (with_reducible repeat (first | refine blk_drewN ?_ _ | refine blk_drew ?_ | refine blk_alloc ?_ _)); exact BK220.out) hb); have n7_ := As0 (blk_below (g := gb239) (o := .cells #[.int .i64 t224, .int .i64 t225, .int .i64 t226, .int .i64 t227, .slice Ao30 t228.length co30, .slice Ao31 t231.length co31, .slice Ao32 t234.length co32, .int .i64 t237] 39 (0, 0)) (by (with_reducible repeat (first | refine blk_drewN ?_ _ | refine blk_drew ?_ | refine blk_alloc ?_ _)); exact BK239.out) hb); have n8_ := As0 (blk_below (g := gb255) (o := .cells #[.int .i64 t240, .int .i64 t241, .int .i64 t242, .int .i64 t243, .slice Ao39 t244.length co39, .slice Ao40 t247.length co40, .slice Ao41 t250.length co41, .int .i64 t253] 39 (0, 0)) (by (with_reducible repeat (first | refine blk_drewN ?_ _ | refine blk_drew ?_ | refine blk_alloc ?_ _)); exact BK255.out) hb); have n9_ := As0 (below_step (by repeat (first | (with_reducible first | exact HB.out | apply below_alloc | apply bdN | apply bd1 | refine below_set ?_ GE220.out | refine below_set ?_ GE239.out | refine below_set ?_ GE255.out) | exact HB.out)) hb); clear HO_240004 HO_240005 HO_240006 HO_256004 HO_256005 HO_256006 BK220 BK239 BK255 HB; have HO_240004 := n0_; have HO_240005 := n1_; have HO_240006 := n2_; have HO_256004 := n3_; have HO_256005 := n4_; have HO_256006 := n5_; have BK220 := n6_; have BK239 := n7_; have BK255 := n8_; have HB := n9_; clear n0_ n1_ n2_ n3_ n4_ n5_ n6_ n7_ n8_ n9_; (try clear hb); (try clear hb2); (try clear hk); (try clear hi)))
        go_ret
        exact ⟨by first | rfl | (simp [errW_none, errW_some] <;> rfl) | (simp [*, errW_none, errW_some] <;> rfl), by repeat (first | (with_reducible first | exact HB.out | apply below_alloc | apply bdN | apply bd1 | refine below_set ?_ GE220.out | refine below_set ?_ GE239.out | refine below_set ?_ GE255.out) | exact HB.out)⟩

end Go.Proofs.Ytgkmagfajalnhaa.E
