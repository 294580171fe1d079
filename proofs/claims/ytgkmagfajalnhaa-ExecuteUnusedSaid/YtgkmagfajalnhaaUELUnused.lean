-- Written by a program of this session (xprint), out of the translation. Not trusted: Lean checks it.
import Derived.Test.YtgkmagfajalnhaaUE0
import Derived.Test.YtgkmagfajalnhaaUEAwk
import Derived.Test.YtgkmagfajalnhaaUEChk
import Derived.Test.YtgkmagfajalnhaaUEPrefix
import Derived.Test.YtgkmagfajalnhaaUEExec
import Derived.Test.YtgkmagfajalnhaaUEInstr
namespace Go.Proofs.Ytgkmagfajalnhaa.E
open Go.RowKit Go.Proofs.YtgkmagfajalnhaaW.PrintWords Go.Proofs.YtgkmagfajalnhaaW.PrintLast Go.Proofs.YtgkmagfajalnhaaW.PrintMore
attribute [local go_sem] max2_int min2_int max_two min_two max_three min_three max_four min_four   -- for this text's walks alone
set_option linter.unusedVariables false
set_option linter.unusedSimpArgs false

theorem R8 {α : Type} {d : Kd α} {e : Nat} {w : World} {base : Nat} {ok : Nat → Prop} {v : Value} {xs : List α} {g : Nat} {u0 u1 u2 u3 u4 u5 u6 u7 : Value} (h : d.R e w base (fun k => ok k ∧ k ≠ g) v xs) : d.R e ((((((((w.setCell ⟨g, 0, none⟩ u0).setCell ⟨g, 1, none⟩ u1).setCell ⟨g, 2, none⟩ u2).setCell ⟨g, 3, none⟩ u3).setCell ⟨g, 4, none⟩ u4).setCell ⟨g, 5, none⟩ u5).setCell ⟨g, 6, none⟩ u6).setCell ⟨g, 7, none⟩ u7) base (fun k => ok k ∧ k ≠ g) v xs := RF g 7 (RF g 6 (RF g 5 (RF g 4 (RF g 3 (RF g 2 (RF g 1 (RF g 0 h u0) u1) u2) u3) u4) u5) u6) u7
/-! ### regcertref08_Copy: function 47 -/
def regcertref08_Copy.l0 : Nat → Int → Int → Int → Int → List (S69) → Int → Int → Int → List (S69) → Option (Int × Int × Int × (List (S69)))
 | 0, _, _, _, _, _, _, _, _, _ => none
 | k + 1, x4, x216000, x216001, x216002, x216003, x218000, x218001, x218002, x218003 => if x4 < (x216003.length : Int) then ((some (([] : List (S84)) : List (S84))).bind fun y218 => (if 0 ≤ x4 then (if y218.length + ((rd_T69 x216003 x4).f0).length < 2513169434916 then (if x218003.length < 2513169434916 then (regcertref08_Copy.l0 k (wrap64 (x4 + 1)) x216000 x216001 x216002 x216003 x218000 x218001 x218002 (x218003 ++ [(⟨(y218 ++ ((rd_T69 x216003 x4).f0)), (⟨(rd_T69 x216003 x4).f1.f0, (rd_T69 x216003 x4).f1.f1, (rd_T69 x216003 x4).f1.f2, (rd_T69 x216003 x4).f1.f3⟩ : S48)⟩ : S69)])) else (none)) else (none)) else (none))) else (some (x218000, x218001, x218002, x218003))
def regcertref08_Copy.f (k : Nat) (a0_0 : Int) (a0_1 : Int) (a0_2 : Int) (l0_3 : List (S69)) : Option (Int × Int × Int × (List (S69))) := regcertref08_Copy.l0 k 0 a0_0 a0_1 a0_2 l0_3 a0_0 a0_1 a0_2 ([] : List (S69))
theorem regcertref08_Copy.mono_l : ∀ k, (∀ y0 y1 y2 y3 y4 y5 y6 y7 y8, LeO (regcertref08_Copy.l0 k y0 y1 y2 y3 y4 y5 y6 y7 y8) (regcertref08_Copy.l0 (k + 1) y0 y1 y2 y3 y4 y5 y6 y7 y8))
 | 0 => fun _ _ _ _ _ _ _ _ _ r h => by simp [regcertref08_Copy.l0] at h
 | k + 1 => by
  have ih0 := regcertref08_Copy.mono_l k
  ·intro y0 y1 y2 y3 y4 y5 y6 y7 y8
   unfold regcertref08_Copy.l0
   repeat' first
   | (with_reducible exact ih0 _ _ _ _ _ _ _ _ _)
   | (with_reducible exact LeO.refl _)
   | (with_reducible exact LeO.none _)
   | (with_reducible refine LeO.ite ?_ ?_)
   | (with_reducible refine LeO.bind ?_ (fun _ => ?_))
   | exact ih0 _ _ _ _ _ _ _ _ _
   | exact LeO.none _
   | refine LeO.ite ?_ ?_
   | refine LeO.bind ?_ (fun _ => ?_)
theorem regcertref08_Copy.mono : ∀ a0 a1 a2 a3 k, LeO (regcertref08_Copy.f k a0 a1 a2 a3) (regcertref08_Copy.f (k + 1) a0 a1 a2 a3) := by
 intro a0 a1 a2 a3 k
 have ih0 := regcertref08_Copy.mono_l k
 unfold regcertref08_Copy.f
 repeat' first
   | (with_reducible exact ih0 _ _ _ _ _ _ _ _ _)
   | (with_reducible exact LeO.refl _)
   | (with_reducible exact LeO.none _)
   | (with_reducible refine LeO.ite ?_ ?_)
   | (with_reducible refine LeO.bind ?_ (fun _ => ?_))
   | exact ih0 _ _ _ _ _ _ _ _ _
   | exact LeO.none _
   | refine LeO.ite ?_ ?_
   | refine LeO.bind ?_ (fun _ => ?_)
def regcertref08_Copy.T5 : Bool × List (List Nat × List Nat) := (true, [([], []), ([0], [0]), ([], []), ([], []), ([3], [3]), ([], []), ([4, 5], [4, 5]), ([6], [6]), ([7], [7]), ([2, 8], [2, 8]), ([], []), ([10], [10]), ([], []), ([11, 12], [11, 12]), ([13], [13]), ([14], [14]), ([9, 15], [9, 15]), ([16], [16]), ([1, 17, 9], [1, 17]), ([0, 1, 2, 3, 4, 5, 6, 7, 8, 9, 10, 11, 12, 13, 14, 15, 16, 17, 18], []), ([19, 18, 18, 0, 1, 2, 3, 4, 5, 6, 7, 8, 9, 10, 11, 12, 13, 14, 15, 16, 17, 18], [18, 19])])
def regcertref08_Copy.B5 : List Nat := [0, 1, 0, 0, 8, 0, 56, 120, 248, 508, 0, 1024, 0, 7168, 15360, 31744, 65532, 131068, 262143, 524287, 1048575]
theorem regcertref08_Copy.tab5 : rtab .any (opsOf Try.f47 5) = regcertref08_Copy.T5 := by kernel_rfl
theorem regcertref08_Copy.bits5 : waitsOk regcertref08_Copy.T5.2 regcertref08_Copy.B5 = true := by kernel_rfl
set_option maxHeartbeats 8000000 in
set_option maxRecDepth 100000 in
theorem regcertref08_Copy.calls (k : Nat) (a0_0 : Int) (a0_1 : Int) (a0_2 : Int) (A0_3 : Option Addr) (c0_3 : Nat) (l0_3 : List (S69)) (r1 : Int) (r2 : Int) (r3 : Int) (r4 : List (S69)) (w : World) (hr0_3 : Kd.C k69 w A0_3 l0_3.length l0_3) (hc0_3 : l0_3.length ≤ c0_3) (h : regcertref08_Copy.f k a0_0 a0_1 a0_2 l0_3 = some (r1, r2, r3, r4)) :
  Calls Try.prog 47 #[.agg #[.int .i64 a0_0, .int .i64 a0_1, .int .i64 a0_2, .slice A0_3 l0_3.length c0_3]] w fun e w' => ∃ v3_ : Value, e = .returned (.agg #[.int .i64 r1, .int .i64 r2, .int .i64 r3, v3_]) ∧ Kd.S k69 69 w' w.heap.size (fun _ => True) v3_ r4 ∧ Below w.heap.size w w' := by
 have hu63 := Try.underlying63
 have hu48 := Try.underlying48
 have hu69 := Try.underlying69
 have HR0_3 := As0 hr0_3
 have HC0_3 := As0 hc0_3
 clear hr0_3 hc0_3
 have HB := As0 (Below.refl w.heap.size w)
 have H : (regcertref08_Copy.l0 k 0 a0_0 a0_1 a0_2 l0_3 a0_0 a0_1 a0_2 ([] : List (S69))) = some (r1, r2, r3, r4) := h
 clear h
 have H' := As0 H
 clear H
 go_enter Try.func47, Try.ntmps47
 go_wp2_with (first | ((with_reducible refine gate_dst (N := 1) rfl ?_); refine box_event ?hg (N := 1) ?hd (cs := #[.int .i64 a0_0, .int .i64 a0_1, .int .i64 a0_2, .slice A0_3 l0_3.length c0_3]) (t := 63) ?hr ?_; (case hd => rfl); (case hg => rfl); (case hr => first | (go_simp; done) | (go_simp; rfl)); intro gb215 hg w2 hbox hb; have n0_ := As0 (below_step (by repeat (first | (with_reducible first | exact HB.out | apply below_alloc | apply bdN | apply bd1) | exact HB.out)) hb); have n1_ := As0 (hbox); have n2_ := As0 ((by rw [hg]; exact (below_size (by repeat (first | (with_reducible first | exact HB.out | apply below_alloc | apply bdN | apply bd1) | exact HB.out))) : w.heap.size ≤ gb215)); have n3_ := As0 ((by rw [hg]; exact (below_size (by repeat (first | (with_reducible first | exact HB.out | apply below_alloc | apply bdN | apply bd1) | exact HB.out))) : w.heap.size ≤ gb215)); clear HB; have HB := n0_; have BK215 := n1_; have GW215 := n2_; have GE215 := n3_; clear n0_ n1_ n2_ n3_ hb hbox hg) | ((with_reducible refine gate_dst (N := 2) rfl ?_); refine box_event ?hg (N := 2) ?hd (cs := #[.int .i64 0, .int .i64 0, .int .i64 0, .slice none 0 0]) (t := 63) ?hr ?_; (case hd => rfl); (case hg => rfl); (case hr => first | (go_simp; done) | (go_simp; rfl)); intro gb216 hg w3 hbox hb; have n0_ := As0 (blk_below (g := gb215) (o := .cells #[.int .i64 a0_0, .int .i64 a0_1, .int .i64 a0_2, .slice A0_3 l0_3.length c0_3] 63 (0, 0)) (by (with_reducible repeat (first | refine blk_drewN ?_ _ | refine blk_drew ?_ | refine blk_alloc ?_ _)); exact BK215.out) hb); have n1_ := As0 (below_step (by repeat (first | (with_reducible first | exact HB.out | apply below_alloc | apply bdN | apply bd1 | refine below_set ?_ GE215.out) | exact HB.out)) hb); have n2_ := As0 (hbox); have n3_ := As0 ((by rw [hg]; exact (below_size (by repeat (first | (with_reducible first | exact HB.out | apply below_alloc | apply bdN | apply bd1 | refine below_set ?_ GE215.out) | exact HB.out))) : w.heap.size ≤ gb216)); have n4_ := As0 ((by rw [hg]; exact (below_size (by repeat (first | (with_reducible first | exact HB.out | apply below_alloc | apply bdN | apply bd1 | refine below_set ?_ GE215.out) | exact HB.out))) : w.heap.size ≤ gb216)); have n5_ := As0 ((by rw [hg]; exact Nat.ne_of_lt (blk_lt (g := gb215) (o := .cells #[.int .i64 a0_0, .int .i64 a0_1, .int .i64 a0_2, .slice A0_3 l0_3.length c0_3] 63 (0, 0)) (by (with_reducible repeat (first | refine blk_drewN ?_ _ | refine blk_drew ?_ | refine blk_alloc ?_ _)); exact BK215.out)) : gb215 ≠ gb216)); have n6_ := As0 ((by rw [hg]; exact Nat.ne_of_gt (blk_lt (g := gb215) (o := .cells #[.int .i64 a0_0, .int .i64 a0_1, .int .i64 a0_2, .slice A0_3 l0_3.length c0_3] 63 (0, 0)) (by (with_reducible repeat (first | refine blk_drewN ?_ _ | refine blk_drew ?_ | refine blk_alloc ?_ _)); exact BK215.out)) : gb216 ≠ gb215)); clear BK215 HB; have BK215 := n0_; have HB := n1_; have BK216 := n2_; have GW216 := n3_; have GE216 := n4_; have NB215_216 := n5_; have NB216_215 := n6_; clear n0_ n1_ n2_ n3_ n4_ n5_ n6_ hb hbox hg; have hnb4 := NB215_216.out; have hnc4 := NB216_215.out; have hcz5_0 : w3.cell? ⟨gb215, 0, none⟩ = some (.int .i64 a0_0) := (blk_cell BK215.out 0).trans rfl; have hcz5_1 : w3.cell? ⟨gb215, 1, none⟩ = some (.int .i64 a0_1) := (blk_cell BK215.out 1).trans rfl; have hcz5_2 : w3.cell? ⟨gb215, 2, none⟩ = some (.int .i64 a0_2) := (blk_cell BK215.out 2).trans rfl; have hcz5_3 : w3.cell? ⟨gb215, 3, none⟩ = some (.slice A0_3 l0_3.length c0_3) := (blk_cell BK215.out 3).trans rfl; have hfz5_0 := blk_frozen BK215.out 0; have hfz5_1 := blk_frozen BK215.out 1; have hfz5_2 := blk_frozen BK215.out 2; have hfz5_3 := blk_frozen BK215.out 3) | ((with_reducible refine gate_dst (N := 3) rfl ?_); refine box_event ?hg (N := 3) ?hd (cs := #[.int .i64 0, .int .i64 0, .int .i64 0, .slice none 0 0]) (t := 63) ?hr ?_; (case hd => rfl); (case hg => rfl); (case hr => first | (go_simp; done) | (go_simp; rfl)); intro gb217 hg w6 hbox hb; have n0_ := As0 (blk_below (g := gb215) (o := .cells #[.int .i64 a0_0, .int .i64 a0_1, .int .i64 a0_2, .slice A0_3 l0_3.length c0_3] 63 (0, 0)) (by (with_reducible repeat (first | refine blk_drewN ?_ _ | refine blk_drew ?_ | refine blk_alloc ?_ _)); exact BK215.out) hb); have n1_ := As0 (blk_below (g := gb216) (o := .cells #[.int .i64 0, .int .i64 0, .int .i64 0, .slice none 0 0] 63 (0, 0)) (by (with_reducible repeat (first | refine blk_drewN ?_ _ | refine blk_drew ?_ | refine blk_alloc ?_ _)); exact BK216.out) hb); have n2_ := As0 (below_step (by repeat (first | (with_reducible first | exact HB.out | apply below_alloc | apply bdN | apply bd1 | refine below_set ?_ GE215.out | refine below_set ?_ GE216.out) | exact HB.out)) hb); have n3_ := As0 (hbox); have n4_ := As0 ((by rw [hg]; exact (below_size (by repeat (first | (with_reducible first | exact HB.out | apply below_alloc | apply bdN | apply bd1 | refine below_set ?_ GE215.out | refine below_set ?_ GE216.out) | exact HB.out))) : w.heap.size ≤ gb217)); have n5_ := As0 ((by rw [hg]; exact (below_size (by repeat (first | (with_reducible first | exact HB.out | apply below_alloc | apply bdN | apply bd1 | refine below_set ?_ GE215.out | refine below_set ?_ GE216.out) | exact HB.out))) : w.heap.size ≤ gb217)); have n6_ := As0 ((by rw [hg]; exact Nat.ne_of_lt (blk_lt (g := gb215) (o := .cells #[.int .i64 a0_0, .int .i64 a0_1, .int .i64 a0_2, .slice A0_3 l0_3.length c0_3] 63 (0, 0)) (by (with_reducible repeat (first | refine blk_drewN ?_ _ | refine blk_drew ?_ | refine blk_alloc ?_ _)); exact BK215.out)) : gb215 ≠ gb217)); have n7_ := As0 ((by rw [hg]; exact Nat.ne_of_gt (blk_lt (g := gb215) (o := .cells #[.int .i64 a0_0, .int .i64 a0_1, .int .i64 a0_2, .slice A0_3 l0_3.length c0_3] 63 (0, 0)) (by (with_reducible repeat (first | refine blk_drewN ?_ _ | refine blk_drew ?_ | refine blk_alloc ?_ _)); exact BK215.out)) : gb217 ≠ gb215)); have n8_ := As0 ((by rw [hg]; exact Nat.ne_of_lt (blk_lt (g := gb216) (o := .cells #[.int .i64 0, .int .i64 0, .int .i64 0, .slice none 0 0] 63 (0, 0)) (by (with_reducible repeat (first | refine blk_drewN ?_ _ | refine blk_drew ?_ | refine blk_alloc ?_ _)); exact BK216.out)) : gb216 ≠ gb217)); have n9_ := As0 ((by rw [hg]; exact Nat.ne_of_gt (blk_lt (g := gb216) (o := .cells #[.int .i64 0, .int .i64 0, .int .i64 0, .slice none 0 0] 63 (0, 0)) (by (with_reducible repeat (first | refine blk_drewN ?_ _ | refine blk_drew ?_ | refine blk_alloc ?_ _)); exact BK216.out)) : gb217 ≠ gb216)); clear BK215 BK216 HB; have BK215 := n0_; have BK216 := n1_; have HB := n2_; have BK217 := n3_; have GW217 := n4_; have GE217 := n5_; have NB215_217 := n6_; have NB217_215 := n7_; have NB216_217 := n8_; have NB217_216 := n9_; clear n0_ n1_ n2_ n3_ n4_ n5_ n6_ n7_ n8_ n9_ hb hbox hg; have hnb7 := NB217_215.out; have hnc7 := NB215_217.out; have hnb8 := NB217_216.out; have hnc8 := NB216_217.out; have hcz9_0 : w6.cell? ⟨gb217, 0, none⟩ = some (.int .i64 0) := (blk_cell BK217.out 0).trans rfl; have hcz9_1 : w6.cell? ⟨gb217, 1, none⟩ = some (.int .i64 0) := (blk_cell BK217.out 1).trans rfl; have hcz9_2 : w6.cell? ⟨gb217, 2, none⟩ = some (.int .i64 0) := (blk_cell BK217.out 2).trans rfl; have hcz9_3 : w6.cell? ⟨gb217, 3, none⟩ = some (.slice none 0 0) := (blk_cell BK217.out 3).trans rfl; have hfz9_0 := blk_frozen BK217.out 0; have hfz9_1 := blk_frozen BK217.out 1; have hfz9_2 := blk_frozen BK217.out 2; have hfz9_3 := blk_frozen BK217.out 3))
 go_loopg [4] k (fun kq v4 w' => ∃ (x4_1 : Int) (x218003_1 : List (S69)) (u218003 : Value), v4 = .int .i64 x4_1 ∧ Aside0 (regcertref08_Copy.l0 kq x4_1 a0_0 a0_1 a0_2 l0_3 a0_0 a0_1 a0_2 x218003_1 = some (r1, r2, r3, r4)) ∧ Aside0 (kq ≤ k) ∧ Aside0 (Kd.S k69 69 w' w.heap.size (fun _ => True) u218003 x218003_1) ∧ Aside0 (w'.heap[gb215]? = some (.cells #[.int .i64 a0_0, .int .i64 a0_1, .int .i64 a0_2, (.slice A0_3 l0_3.length c0_3)] 63 (0, 0))) ∧ Aside0 (w'.heap[gb216]? = some (.cells #[.int .i64 0, .int .i64 0, .int .i64 0, (.slice none 0 0)] 63 (0, 0))) ∧ Aside0 (w'.heap[gb217]? = some (.cells #[.int .i64 a0_0, .int .i64 a0_1, .int .i64 a0_2, u218003] 63 (0, 0))) ∧ Aside0 (Below w.heap.size w w'))
 case atStart => exact ⟨(0), (([] : List (S69))), (.slice none 0 0), (by first | rfl | (simp; done) | (simp [*]; done)), H', ⟨Nat.le_refl _⟩, ⟨by first | exact Kd.S_nil _ _ _ _ _ | exact Kd.N_nil _ _ _ _ _ | exact Kd.V_nil _ _ _ _ _ | exact Kd.Q_nil _ _ _ _ _ | exact Kd.R_nil _ _ _ _ _⟩, ⟨by (with_reducible repeat (first | refine blk_drewN ?_ _ | refine blk_drew ?_ | refine blk_alloc ?_ _)); refine blk_far ?_ NB215_217.out _; (with_reducible repeat (first | refine blk_drewN ?_ _ | refine blk_drew ?_ | refine blk_alloc ?_ _)); refine blk_far ?_ NB215_217.out _; (with_reducible repeat (first | refine blk_drewN ?_ _ | refine blk_drew ?_ | refine blk_alloc ?_ _)); refine blk_far ?_ NB215_217.out _; (with_reducible repeat (first | refine blk_drewN ?_ _ | refine blk_drew ?_ | refine blk_alloc ?_ _)); refine blk_far ?_ NB215_217.out _; (with_reducible repeat (first | refine blk_drewN ?_ _ | refine blk_drew ?_ | refine blk_alloc ?_ _)); exact BK215.out⟩, ⟨by (with_reducible repeat (first | refine blk_drewN ?_ _ | refine blk_drew ?_ | refine blk_alloc ?_ _)); refine blk_far ?_ NB216_217.out _; (with_reducible repeat (first | refine blk_drewN ?_ _ | refine blk_drew ?_ | refine blk_alloc ?_ _)); refine blk_far ?_ NB216_217.out _; (with_reducible repeat (first | refine blk_drewN ?_ _ | refine blk_drew ?_ | refine blk_alloc ?_ _)); refine blk_far ?_ NB216_217.out _; (with_reducible repeat (first | refine blk_drewN ?_ _ | refine blk_drew ?_ | refine blk_alloc ?_ _)); refine blk_far ?_ NB216_217.out _; (with_reducible repeat (first | refine blk_drewN ?_ _ | refine blk_drew ?_ | refine blk_alloc ?_ _)); exact BK216.out⟩, ⟨by (with_reducible repeat (first | refine blk_drewN ?_ _ | refine blk_drew ?_ | refine blk_alloc ?_ _)); refine blk_put (cs := #[.int .i64 a0_0, .int .i64 a0_1, .int .i64 a0_2, .slice none 0 0]) ?_ 3 _ rfl; (with_reducible repeat (first | refine blk_drewN ?_ _ | refine blk_drew ?_ | refine blk_alloc ?_ _)); refine blk_put (cs := #[.int .i64 a0_0, .int .i64 a0_1, .int .i64 0, .slice none 0 0]) ?_ 2 _ rfl; (with_reducible repeat (first | refine blk_drewN ?_ _ | refine blk_drew ?_ | refine blk_alloc ?_ _)); refine blk_put (cs := #[.int .i64 a0_0, .int .i64 0, .int .i64 0, .slice none 0 0]) ?_ 1 _ rfl; (with_reducible repeat (first | refine blk_drewN ?_ _ | refine blk_drew ?_ | refine blk_alloc ?_ _)); refine blk_put (cs := #[.int .i64 0, .int .i64 0, .int .i64 0, .slice none 0 0]) ?_ 0 _ rfl; (with_reducible repeat (first | refine blk_drewN ?_ _ | refine blk_drew ?_ | refine blk_alloc ?_ _)); exact BK217.out⟩, ⟨by repeat (first | (with_reducible first | exact HB.out | apply below_alloc | apply bdN | apply bd1 | refine below_set ?_ GE215.out | refine below_set ?_ GE216.out | refine below_set ?_ GE217.out) | exact HB.out)⟩⟩
 case round =>
  clear H'
  try clear p2
  try clear c4
  try clear c7
  try clear c8
  try clear hcz5_0
  try clear hcz5_1
  try clear hcz5_2
  try clear hcz5_3
  try clear hcz9_0
  try clear hcz9_1
  try clear hcz9_2
  try clear hcz9_3
  try clear hfz5_0
  try clear hfz5_1
  try clear hfz5_2
  try clear hfz5_3
  try clear hfz9_0
  try clear hfz9_1
  try clear hfz9_2
  try clear hfz9_3
  obtain ⟨x4_1, x218003_1, u218003, rfl, HA, HK1, HO_218003, BK215, BK216, BK217, HB⟩ := hrel
  cases gk with
  | zero => exact absurd HA.out (by simp [regcertref08_Copy.l0])
  | succ k1 =>
   have H := HA.out
   clear HA
   simp only [regcertref08_Copy.l0] at H
   by_cases c10 : x4_1 < (l0_3.length : Int)
   ·rw [if_pos c10] at H
    have c10b0 : decide (x4_1 < (l0_3.length : Int)) = true := decide_eq_true c10
    clear c10
    obtain ⟨y218, hy218⟩ : ∃ y_ : List (S84), y_ = (([] : List (S84))) := ⟨_, rfl⟩
    replace H : (if 0 ≤ x4_1 then (if y218.length + ((rd_T69 l0_3 x4_1).f0).length < 2513169434916 then (if x218003_1.length < 2513169434916 then (regcertref08_Copy.l0 k1 (wrap64 (x4_1 + 1)) a0_0 a0_1 a0_2 l0_3 a0_0 a0_1 a0_2 (x218003_1 ++ [(⟨(y218 ++ ((rd_T69 l0_3 x4_1).f0)), (⟨(rd_T69 l0_3 x4_1).f1.f0, (rd_T69 l0_3 x4_1).f1.f1, (rd_T69 l0_3 x4_1).f1.f2, (rd_T69 l0_3 x4_1).f1.f3⟩ : S48)⟩ : S69)])) else (none)) else (none)) else (none)) = some (r1, r2, r3, r4) := by first | (rw [hy218]; with_reducible exact H) | (have H2_ := (Option.bind_some _ _).symm.trans H; rw [hy218]; with_reducible exact H2_) | (have H2_ := (Option.bind_some _ _).symm.trans H; with_reducible exact H2_) | with_reducible exact H | (rw [hy218]; exact H) | exact H
    have Ny218 := As0 hy218
    clear hy218
    by_cases c11 : 0 ≤ x4_1
    ·rw [if_pos c11] at H
     have c11b0 : decide (0 ≤ x4_1) = true := decide_eq_true c11
     clear c11
     by_cases c12 : y218.length + ((rd_T69 l0_3 x4_1).f0).length < 2513169434916
     ·rw [if_pos c12] at H
      have LMc12 := As0 c12
      clear c12
      obtain ⟨y222, hy222⟩ : ∃ y_ : List (S84), y_ = (y218 ++ ((rd_T69 l0_3 x4_1).f0)) := ⟨_, rfl⟩
      replace H : (if x218003_1.length < 2513169434916 then (regcertref08_Copy.l0 k1 (wrap64 (x4_1 + 1)) a0_0 a0_1 a0_2 l0_3 a0_0 a0_1 a0_2 (x218003_1 ++ [(⟨y222, (⟨(rd_T69 l0_3 x4_1).f1.f0, (rd_T69 l0_3 x4_1).f1.f1, (rd_T69 l0_3 x4_1).f1.f2, (rd_T69 l0_3 x4_1).f1.f3⟩ : S48)⟩ : S69)])) else (none)) = some (r1, r2, r3, r4) := by first | (rw [hy222]; with_reducible exact H) | (have H2_ := (Option.bind_some _ _).symm.trans H; rw [hy222]; with_reducible exact H2_) | (have H2_ := (Option.bind_some _ _).symm.trans H; with_reducible exact H2_) | with_reducible exact H | (rw [hy222]; exact H) | exact H
      have Ny222 := As0 hy222
      clear hy222
      by_cases c13 : x218003_1.length < 2513169434916
      ·rw [if_pos c13] at H
       have LMc13 := As0 c13
       clear c13
       obtain ⟨y226, hy226⟩ : ∃ y_ : List (S69), y_ = (x218003_1 ++ [(⟨y222, (⟨(rd_T69 l0_3 x4_1).f1.f0, (rd_T69 l0_3 x4_1).f1.f1, (rd_T69 l0_3 x4_1).f1.f2, (rd_T69 l0_3 x4_1).f1.f3⟩ : S48)⟩ : S69)]) := ⟨_, rfl⟩
       replace H : (regcertref08_Copy.l0 k1 (wrap64 (x4_1 + 1)) a0_0 a0_1 a0_2 l0_3 a0_0 a0_1 a0_2 y226) = some (r1, r2, r3, r4) := by first | (rw [hy226]; with_reducible exact H) | (have H2_ := (Option.bind_some _ _).symm.trans H; rw [hy226]; with_reducible exact H2_) | (have H2_ := (Option.bind_some _ _).symm.trans H; with_reducible exact H2_) | with_reducible exact H | (rw [hy226]; exact H) | exact H
       have Ny226 := As0 hy226
       clear hy226
       have H' := As0 H
       clear H
       have hnb14 := NB215_216.out
       have hnc14 := NB216_215.out
       have hnb15 := NB215_217.out
       have hnc15 := NB217_215.out
       have hcz16_0 : wr.cell? ⟨gb215, 0, none⟩ = some (.int .i64 a0_0) := (blk_cell BK215.out 0).trans rfl
       have hcz16_1 : wr.cell? ⟨gb215, 1, none⟩ = some (.int .i64 a0_1) := (blk_cell BK215.out 1).trans rfl
       have hcz16_2 : wr.cell? ⟨gb215, 2, none⟩ = some (.int .i64 a0_2) := (blk_cell BK215.out 2).trans rfl
       have hcz16_3 : wr.cell? ⟨gb215, 3, none⟩ = some (.slice A0_3 l0_3.length c0_3) := (blk_cell BK215.out 3).trans rfl
       have hfz16_0 := blk_frozen BK215.out 0
       have hfz16_1 := blk_frozen BK215.out 1
       have hfz16_2 := blk_frozen BK215.out 2
       have hfz16_3 := blk_frozen BK215.out 3
       try go_wp2
       have n0_ := As0 (Kd.S_drew HO_218003.out)
       have n1_ := As0 (blk_drew BK215.out)
       have n2_ := As0 (blk_drew BK216.out)
       have n3_ := As0 (blk_drew BK217.out)
       have n4_ := As0 (bd1 HB.out)
       clear HO_218003
       clear BK215
       clear BK216
       clear BK217
       clear HB
       have HO_218003 := n0_
       have BK215 := n1_
       have BK216 := n2_
       have BK217 := n3_
       have HB := n4_
       clear n0_ n1_ n2_ n3_ n4_
       have p221 : 0 ≤ (x4_1 : Int) := of_decide_eq_true (by first | (with_reducible assumption) | assumption)
       have q221 : x4_1 < (l0_3.length : Int) := of_decide_eq_true (by first | (with_reducible assumption) | assumption)
       obtain ⟨ad221, A221_0, c221_0, e221, hx221_0, hx221_1, hx221_2, hx221_3, hx221_4, hl221_0, hi221_0⟩ := at_T69 HR0_3.out x4_1 p221 q221
       have hw221_4 := hx221_4
       have hw221_3 := hx221_3
       have hw221_2 := hx221_2
       have hw221_1 := hx221_1
       have hw221_0 := hx221_0
       cases e221
       replace hx221_0 := (HB.out.cell (wblt w hx221_0)).trans hx221_0
       replace hx221_1 := (HB.out.cell (wblt w hx221_1)).trans hx221_1
       replace hx221_2 := (HB.out.cell (wblt w hx221_2)).trans hx221_2
       replace hx221_3 := (HB.out.cell (wblt w hx221_3)).trans hx221_3
       replace hx221_4 := (HB.out.cell (wblt w hx221_4)).trans hx221_4
       have HR221_0 := As0 hi221_0
       have HC221_0 := As0 hl221_0
       clear hi221_0 hl221_0
       replace p221 := eq_true p221
       replace q221 := eq_true q221
       have p225 : 0 ≤ (x4_1 : Int) := of_decide_eq_true (by first | (with_reducible assumption) | assumption)
       have q225 : x4_1 < (l0_3.length : Int) := of_decide_eq_true (by first | (with_reducible assumption) | assumption)
       obtain ⟨ad225, A225_0, c225_0, e225, hx225_0, hx225_1, hx225_2, hx225_3, hx225_4, hl225_0, hi225_0⟩ := at_T69 HR0_3.out x4_1 p225 q225
       have hw225_4 := hx225_4
       have hw225_3 := hx225_3
       have hw225_2 := hx225_2
       have hw225_1 := hx225_1
       have hw225_0 := hx225_0
       obtain rfl : ad221 = ad225 := (by injection e225)
       replace hx225_0 := (HB.out.cell (wblt w hx225_0)).trans hx225_0
       replace hx225_1 := (HB.out.cell (wblt w hx225_1)).trans hx225_1
       replace hx225_2 := (HB.out.cell (wblt w hx225_2)).trans hx225_2
       replace hx225_3 := (HB.out.cell (wblt w hx225_3)).trans hx225_3
       replace hx225_4 := (HB.out.cell (wblt w hx225_4)).trans hx225_4
       have HR225_0 := As0 hi225_0
       have HC225_0 := As0 hl225_0
       clear hi225_0 hl225_0
       replace p225 := eq_true p225
       replace q225 := eq_true q225
       have ea_ := Option.some.inj (hx221_0.symm.trans hx225_0)
       injection ea_ with ea_ en_ ec_
       subst ea_
       subst ec_
       clear en_
       refine start_ (n := 21) (S := fun w' => w'.cell? ⟨gb217, 0, none⟩ = some (.int .i64 a0_0) ∧ w'.cell? ⟨gb217, 1, none⟩ = some (.int .i64 a0_1) ∧ w'.cell? ⟨gb217, 2, none⟩ = some (.int .i64 a0_2) ∧ w'.cell? ⟨gb217, 3, none⟩ = some (u218003) ∧ w'.cell? ⟨gb215, 0, none⟩ = some (.int .i64 a0_0) ∧ w'.cell? ⟨gb215, 1, none⟩ = some (.int .i64 a0_1) ∧ w'.cell? ⟨gb215, 2, none⟩ = some (.int .i64 a0_2) ∧ w'.cell? ⟨gb215, 3, none⟩ = some (.slice (some ad221) l0_3.length c0_3) ∧ w'.cell? (ad221.add ((x4_1).toNat * 5)) = some (.slice A221_0 ((rd_T69 l0_3 x4_1).f0).length c221_0) ∧ w'.cell? ⟨(ad221.add ((x4_1).toNat * 5)).block, (ad221.add ((x4_1).toNat * 5)).off + 1, none⟩ = some (.int .i64 ((rd_T69 l0_3 x4_1).f1.f0)) ∧ w'.cell? ⟨(ad221.add ((x4_1).toNat * 5)).block, (ad221.add ((x4_1).toNat * 5)).off + 2, none⟩ = some (.int .i64 ((rd_T69 l0_3 x4_1).f1.f1)) ∧ w'.cell? ⟨(ad221.add ((x4_1).toNat * 5)).block, (ad221.add ((x4_1).toNat * 5)).off + 3, none⟩ = some (.int .i64 ((rd_T69 l0_3 x4_1).f1.f2)) ∧ w'.cell? ⟨(ad221.add ((x4_1).toNat * 5)).block, (ad221.add ((x4_1).toNat * 5)).off + 4, none⟩ = some (.int .i64 ((rd_T69 l0_3 x4_1).f1.f3)) ∧ w'.cell? (ad221.add ((x4_1).toNat * 5)) = some (.slice A221_0 ((rd_T69 l0_3 x4_1).f0).length c221_0) ∧ w'.cell? ⟨(ad221.add ((x4_1).toNat * 5)).block, (ad221.add ((x4_1).toNat * 5)).off + 1, none⟩ = some (.int .i64 ((rd_T69 l0_3 x4_1).f1.f0)) ∧ w'.cell? ⟨(ad221.add ((x4_1).toNat * 5)).block, (ad221.add ((x4_1).toNat * 5)).off + 2, none⟩ = some (.int .i64 ((rd_T69 l0_3 x4_1).f1.f1)) ∧ w'.cell? ⟨(ad221.add ((x4_1).toNat * 5)).block, (ad221.add ((x4_1).toNat * 5)).off + 3, none⟩ = some (.int .i64 ((rd_T69 l0_3 x4_1).f1.f2)) ∧ w'.cell? ⟨(ad221.add ((x4_1).toNat * 5)).block, (ad221.add ((x4_1).toNat * 5)).off + 4, none⟩ = some (.int .i64 ((rd_T69 l0_3 x4_1).f1.f3))) (ds := [20]) #[false, false, false, false, false, false, false, false, false, false, false, false, false, false, false, false, false, false, false, false, false] (by kernel_rfl) rfl rfl ⟨(blk_cell BK217.out 0).trans rfl, (blk_cell BK217.out 1).trans rfl, (blk_cell BK217.out 2).trans rfl, (blk_cell BK217.out 3).trans rfl, (blk_cell BK215.out 0).trans rfl, (blk_cell BK215.out 1).trans rfl, (blk_cell BK215.out 2).trans rfl, (blk_cell BK215.out 3).trans rfl, ((HB.out.cell (wblt w hw221_0)).trans hw221_0), ((HB.out.cell (wblt w hw221_1)).trans hw221_1), ((HB.out.cell (wblt w hw221_2)).trans hw221_2), ((HB.out.cell (wblt w hw221_3)).trans hw221_3), ((HB.out.cell (wblt w hw221_4)).trans hw221_4), ((HB.out.cell (wblt w hw225_0)).trans hw225_0), ((HB.out.cell (wblt w hw225_1)).trans hw225_1), ((HB.out.cell (wblt w hw225_2)).trans hw225_2), ((HB.out.cell (wblt w hw225_3)).trans hw225_3), ((HB.out.cell (wblt w hw225_4)).trans hw225_4)⟩ (fun hHeld => ?_); refine with_tabW regcertref08_Copy.tab5 regcertref08_Copy.bits5 (fun HT_ HW_ => ?_)
       generalize wr.drew = w17 at HO_218003 BK215 BK216 BK217 HB HR221_0 HR225_0 hx221_0 hx221_1 hx221_2 hx221_3 hx221_4 hx225_0 hx225_1 hx225_2 hx225_3 hx225_4 hHeld ⊢
       refine pure_ (i := 0) (N := some 19) (v := ?_) (a' := ?_) #[true, false, false, false, false, false, false, false, false, false, false, false, false, false, false, false, false, false, false, false, false] rfl rfl (any_of HT_.out (by kernel_rfl)) (fun _ _ _ h => h) (Or.inl ⟨by rfl, ?_⟩) ?_ ?_
       rotate_left
       ·intro w'
        go_simp
        with_reducible rfl
       rotate_left
       ·simp only [Act.put, sL1, sL2, sL3, i64_w, i32_w]
        rfl
       refine pure_ (i := 3) (N := some 22) (v := ?_) (a' := ?_) #[true, false, false, true, false, false, false, false, false, false, false, false, false, false, false, false, false, false, false, false, false] rfl rfl (any_of HT_.out (by kernel_rfl)) (fun _ _ _ h => h) (Or.inl ⟨by rfl, ?_⟩) ?_ ?_
       rotate_left
       ·intro w'
        go_simp
        with_reducible rfl
       rotate_left
       ·simp only [Act.put, sL1, sL2, sL3, i64_w, i32_w]
        rfl
       refine pure_ (i := 5) (N := some 24) (v := ?_) (a' := ?_) #[true, false, false, true, false, true, false, false, false, false, false, false, false, false, false, false, false, false, false, false, false] rfl rfl (any_of HT_.out (by kernel_rfl)) (fun _ _ _ h => h) (Or.inl ⟨by rfl, ?_⟩) ?_ ?_
       rotate_left
       ·intro w'
        go_simp
        with_reducible rfl
       rotate_left
       ·simp only [Act.put, sL1, sL2, sL3, i64_w, i32_w]
        rfl
       refine pure_ (i := 10) (N := some 29) (v := ?_) (a' := ?_) #[true, false, false, true, false, true, false, false, false, false, true, false, false, false, false, false, false, false, false, false, false] rfl rfl (any_of HT_.out (by kernel_rfl)) (fun _ _ _ h => h) (Or.inl ⟨by rfl, ?_⟩) ?_ ?_
       rotate_left
       ·intro w'
        go_simp
        with_reducible rfl
       rotate_left
       ·simp only [Act.put, sL1, sL2, sL3, i64_w, i32_w]
        rfl
       refine pure_ (i := 12) (N := some 31) (v := ?_) (a' := ?_) #[true, false, false, true, false, true, false, false, false, false, true, false, true, false, false, false, false, false, false, false, false] rfl rfl (any_of HT_.out (by kernel_rfl)) (fun _ _ _ h => h) (Or.inl ⟨by rfl, ?_⟩) ?_ ?_
       rotate_left
       ·intro w'
        go_simp
        with_reducible rfl
       rotate_left
       ·simp only [Act.put, sL1, sL2, sL3, i64_w, i32_w]
        rfl
       refine take_ (i := 1) (N := some 20) (v := ?_) (a' := ?_) #[true, true, false, true, false, true, false, false, false, false, true, false, true, false, false, false, false, false, false, false, false] rfl rfl (take_ofW HT_.out HW_.out (by kernel_rfl)) (fun _ _ _ h => h) (Or.inl ⟨by rfl, ?_⟩) hHeld ?_ ?_
       rotate_left
       ·rintro w' ⟨s0, s1, s2, s3, s4, s5, s6, s7, s8, s9, s10, s11, s12, s13, s14, s15, s16, s17⟩
        go_simp
        with_reducible rfl
       rotate_left
       ·simp only [Act.put, sL1, sL2, sL3, i64_w, i32_w]
        rfl
       refine take_ (i := 4) (N := some 23) (v := ?_) (a' := ?_) #[true, true, false, true, true, true, false, false, false, false, true, false, true, false, false, false, false, false, false, false, false] rfl rfl (take_ofW HT_.out HW_.out (by kernel_rfl)) (fun _ _ _ h => h) (Or.inl ⟨by rfl, ?_⟩) hHeld ?_ ?_
       rotate_left
       ·rintro w' ⟨s0, s1, s2, s3, s4, s5, s6, s7, s8, s9, s10, s11, s12, s13, s14, s15, s16, s17⟩
        go_simp
        with_reducible rfl
       rotate_left
       ·simp only [Act.put, sL1, sL2, sL3, i64_w, i32_w]
        rfl
       refine pure_ (i := 6) (N := some 25) (v := ?_) (a' := ?_) #[true, true, false, true, true, true, true, false, false, false, true, false, true, false, false, false, false, false, false, false, false] rfl rfl (any_of HT_.out (by kernel_rfl)) (fun _ _ _ h => h) (Or.inl ⟨by rfl, ?_⟩) ?_ ?_
       rotate_left
       ·intro w'
        go_simp
        with_reducible rfl
       rotate_left
       ·simp only [Act.put, sL1, sL2, sL3, i64_w, i32_w]
        rfl
       refine pure_ (i := 7) (N := some 26) (v := ?_) (a' := ?_) #[true, true, false, true, true, true, true, true, false, false, true, false, true, false, false, false, false, false, false, false, false] rfl rfl (any_of HT_.out (by kernel_rfl)) (fun _ _ _ h => h) (Or.inl ⟨by rfl, ?_⟩) ?_ ?_
       rotate_left
       ·intro w'
        go_simp
        with_reducible rfl
       rotate_left
       ·simp only [Act.put, sL1, sL2, sL3, i64_w, i32_w]
        rfl
       refine take_ (i := 8) (N := some 27) (v := ?_) (a' := ?_) #[true, true, false, true, true, true, true, true, true, false, true, false, true, false, false, false, false, false, false, false, false] rfl rfl (take_ofW HT_.out HW_.out (by kernel_rfl)) (fun _ _ _ h => h) (Or.inl ⟨by rfl, ?_⟩) hHeld ?_ ?_
       rotate_left
       ·rintro w' ⟨s0, s1, s2, s3, s4, s5, s6, s7, s8, s9, s10, s11, s12, s13, s14, s15, s16, s17⟩
        go_simp
        with_reducible rfl
       rotate_left
       ·simp only [Act.put, sL1, sL2, sL3, i64_w, i32_w]
        rfl
       refine take_ (i := 11) (N := some 30) (v := ?_) (a' := ?_) #[true, true, false, true, true, true, true, true, true, false, true, true, true, false, false, false, false, false, false, false, false] rfl rfl (take_ofW HT_.out HW_.out (by kernel_rfl)) (fun _ _ _ h => h) (Or.inl ⟨by rfl, ?_⟩) hHeld ?_ ?_
       rotate_left
       ·rintro w' ⟨s0, s1, s2, s3, s4, s5, s6, s7, s8, s9, s10, s11, s12, s13, s14, s15, s16, s17⟩
        go_simp
        with_reducible rfl
       rotate_left
       ·simp only [Act.put, sL1, sL2, sL3, i64_w, i32_w]
        rfl
       refine pure_ (i := 13) (N := some 32) (v := ?_) (a' := ?_) #[true, true, false, true, true, true, true, true, true, false, true, true, true, true, false, false, false, false, false, false, false] rfl rfl (any_of HT_.out (by kernel_rfl)) (fun _ _ _ h => h) (Or.inl ⟨by rfl, ?_⟩) ?_ ?_
       rotate_left
       ·intro w'
        go_simp
        with_reducible rfl
       rotate_left
       ·simp only [Act.put, sL1, sL2, sL3, i64_w, i32_w]
        rfl
       refine pure_ (i := 14) (N := some 33) (v := ?_) (a' := ?_) #[true, true, false, true, true, true, true, true, true, false, true, true, true, true, true, false, false, false, false, false, false] rfl rfl (any_of HT_.out (by kernel_rfl)) (fun _ _ _ h => h) (Or.inl ⟨by rfl, ?_⟩) ?_ ?_
       rotate_left
       ·intro w'
        go_simp
        with_reducible rfl
       rotate_left
       ·simp only [Act.put, sL1, sL2, sL3, i64_w, i32_w]
        rfl
       refine take_ (i := 15) (N := some 34) (v := ?_) (a' := ?_) #[true, true, false, true, true, true, true, true, true, false, true, true, true, true, true, true, false, false, false, false, false] rfl rfl (take_ofW HT_.out HW_.out (by kernel_rfl)) (fun _ _ _ h => h) (Or.inl ⟨by rfl, ?_⟩) hHeld ?_ ?_
       rotate_left
       ·rintro w' ⟨s0, s1, s2, s3, s4, s5, s6, s7, s8, s9, s10, s11, s12, s13, s14, s15, s16, s17⟩
        go_simp
        with_reducible rfl
       rotate_left
       ·simp only [Act.put, sL1, sL2, sL3, i64_w, i32_w]
        rfl
       refine one_ (i := 2) (N := some 21) #[true, true, true, true, true, true, true, true, true, false, true, true, true, true, true, true, false, false, false, false, false] rfl rfl (one_of HT_.out (by kernel_rfl)) (by decide) (fun K hK => ?_)
       refine Kd.R_lit_step k84 _ 84 ?hg (N := 21) ?hd (xs := ([] : List (S84))) (inner := []) (ok := fun _ => True) (okp := fun _ => True) ?hr ?hp (fun _ hk => hk) trivial (Below.refl _ _) (Nat.le_refl _) (by simp) ?_; (case hd => rfl); (case hg => rfl); (case hr => first | (go_simp; done) | (go_simp; rfl)); (case hp => exact (Reps.none _ _))
       intro v219 w18 ho19 hb hg_ hnew_
       clear hg_ hnew_
       (first | rw [← Ny218.out] at ho19 | (simp only [Int.reduceToNat] at ho19; rw [← Ny218.out] at ho19))
       have n0_ := As0 (Kd.S_elder' (by (with_reducible repeat (first | apply Kd.S_alloc | apply Kd.S_drewN | apply Kd.S_drew)); exact HO_218003.out) (Kd.R_base ho19) hb)
       have n1_ := As0 (Kd.R_lower ho19 (below_size (by repeat (first | (with_reducible first | exact HB.out | apply below_alloc | apply bdN | apply bd1 | refine below_set ?_ GE215.out | refine below_set ?_ GE216.out | refine below_set ?_ GE217.out) | exact HB.out))))
       have n2_ := As0 (blk_below (g := gb215) (o := .cells #[.int .i64 a0_0, .int .i64 a0_1, .int .i64 a0_2, .slice (some ad221) l0_3.length c0_3] 63 (0, 0)) (by (with_reducible repeat (first | refine blk_drewN ?_ _ | refine blk_drew ?_ | refine blk_alloc ?_ _)); exact BK215.out) hb)
       have n3_ := As0 (blk_below (g := gb216) (o := .cells #[.int .i64 0, .int .i64 0, .int .i64 0, .slice none 0 0] 63 (0, 0)) (by (with_reducible repeat (first | refine blk_drewN ?_ _ | refine blk_drew ?_ | refine blk_alloc ?_ _)); exact BK216.out) hb)
       have n4_ := As0 (blk_below (g := gb217) (o := .cells #[.int .i64 a0_0, .int .i64 a0_1, .int .i64 a0_2, u218003] 63 (0, 0)) (by (with_reducible repeat (first | refine blk_drewN ?_ _ | refine blk_drew ?_ | refine blk_alloc ?_ _)); exact BK217.out) hb)
       have n5_ := As0 (below_step (by repeat (first | (with_reducible first | exact HB.out | apply below_alloc | apply bdN | apply bd1 | refine below_set ?_ GE215.out | refine below_set ?_ GE216.out | refine below_set ?_ GE217.out) | exact HB.out)) hb)
       clear HO_218003
       clear BK215
       clear BK216
       clear BK217
       clear HB
       have HO_218003 := n0_
       have HO220 := n1_
       have BK215 := n2_
       have BK216 := n3_
       have BK217 := n4_
       have HB := n5_
       clear n0_ n1_ n2_ n3_ n4_ n5_
       clear hb ho19
       refine hK.out _ _ ⟨(blk_cell BK217.out 0).trans rfl, (blk_cell BK217.out 1).trans rfl, (blk_cell BK217.out 2).trans rfl, (blk_cell BK217.out 3).trans rfl, (blk_cell BK215.out 0).trans rfl, (blk_cell BK215.out 1).trans rfl, (blk_cell BK215.out 2).trans rfl, (blk_cell BK215.out 3).trans rfl, ((HB.out.cell (wblt w hw221_0)).trans hw221_0), ((HB.out.cell (wblt w hw221_1)).trans hw221_1), ((HB.out.cell (wblt w hw221_2)).trans hw221_2), ((HB.out.cell (wblt w hw221_3)).trans hw221_3), ((HB.out.cell (wblt w hw221_4)).trans hw221_4), ((HB.out.cell (wblt w hw225_0)).trans hw225_0), ((HB.out.cell (wblt w hw225_1)).trans hw225_1), ((HB.out.cell (wblt w hw225_2)).trans hw225_2), ((HB.out.cell (wblt w hw225_3)).trans hw225_3), ((HB.out.cell (wblt w hw225_4)).trans hw225_4)⟩ (fun hHeld => ?_)
       clear hK K
       refine norm_ (a' := ?_) ?_ ?_
       rotate_left
       ·show Act.put _ (some 21) _ = _
        simp only [Act.put, sL1, sL2, sL3, i64_w, i32_w]
        rfl
       refine one_ (i := 9) (N := some 28) #[true, true, true, true, true, true, true, true, true, true, true, true, true, true, true, true, false, false, false, false, false] rfl rfl (one_of HT_.out (by kernel_rfl)) (by decide) (fun K hK => ?_)
       refine Kd.R_append_rows_step k84 (w0 := w) w.heap.size (by rfl) (.tmp 21) (.tmp 27) 67 84 (.agg #[(.int .i64 0), (.int .i64 0), (.int .i64 0), (.int .i64 0), (.int .i64 0), (.int .i64 0), (.int .i64 0)]) 56 rfl Try.underlying67 info84 rfl (by decide) (by omega) v219 y218 ((rd_T69 l0_3 x4_1).f0) _ _ _ (fun _ => True) (fun _ => False) rfl rfl ?aO ?aR (fun _ _ h => h) (fun _ h => h.elim) ?aF ?aB ?aS ?aL ?_
       (case aR => repeat (first | exact (Kd.C_below HR221_0.out HB.out) | (with_reducible refine Kd.C_alloc ?_ _) | (with_reducible refine Kd.C_drewN ?_ _) | (with_reducible refine Kd.C_drew ?_)))
       (case aB => exact (by repeat (first | (with_reducible first | exact HB.out | apply below_alloc | apply bdN | apply bd1 | refine below_set ?_ GE215.out | refine below_set ?_ GE216.out | refine below_set ?_ GE217.out) | exact HB.out)))
       (case aF => exact (fun _ _ => trivial))
       (case aO => exact (by (with_reducible repeat (first | apply Kd.R_alloc | apply Kd.R_drewN | apply Kd.R_drew)); exact HO220.out))
       (case aS => exact (below_size (by repeat (first | (with_reducible first | exact HB.out | apply below_alloc | apply bdN | apply bd1 | refine below_set ?_ GE215.out | refine below_set ?_ GE216.out | refine below_set ?_ GE217.out) | exact HB.out))))
       (case aL => have := LMc12.out; omega)
       intro v223 w20 ho hb hg hat
       rw [← Ny222.out] at ho
       have n0_ := As0 (Kd.S_after (ok := (fun _ => True)) (by (with_reducible repeat (first | apply Kd.S_alloc | apply Kd.S_drewN | apply Kd.S_drew)); exact HO_218003.out) hg hat)
       have n1_ := As0 (blk_grown (g := gb215) (o := .cells #[.int .i64 a0_0, .int .i64 a0_1, .int .i64 a0_2, .slice (some ad221) l0_3.length c0_3] 63 (0, 0)) (by (with_reducible repeat (first | refine blk_drewN ?_ _ | refine blk_drew ?_ | refine blk_alloc ?_ _)); exact BK215.out) hg (Kd.R_ne HO220.out BK215.out (by decide)))
       have n2_ := As0 (blk_grown (g := gb216) (o := .cells #[.int .i64 0, .int .i64 0, .int .i64 0, .slice none 0 0] 63 (0, 0)) (by (with_reducible repeat (first | refine blk_drewN ?_ _ | refine blk_drew ?_ | refine blk_alloc ?_ _)); exact BK216.out) hg (Kd.R_ne HO220.out BK216.out (by decide)))
       have n3_ := As0 (blk_grown (g := gb217) (o := .cells #[.int .i64 a0_0, .int .i64 a0_1, .int .i64 a0_2, u218003] 63 (0, 0)) (by (with_reducible repeat (first | refine blk_drewN ?_ _ | refine blk_drew ?_ | refine blk_alloc ?_ _)); exact BK217.out) hg (Kd.R_ne HO220.out BK217.out (by decide)))
       have n4_ := As0 (hb)
       have n5_ := As0 (ho)
       clear HO_218003
       clear BK215
       clear BK216
       clear BK217
       clear HB
       clear HO220
       have HO_218003 := n0_
       have BK215 := n1_
       have BK216 := n2_
       have BK217 := n3_
       have HB := n4_
       have HO224 := n5_
       clear n0_ n1_ n2_ n3_ n4_ n5_
       clear ho hb hg hat
       obtain ⟨Ao21, co21, eo21⟩ := Kd.R_slice HO224.out
       (first | subst eo21 | (injection eo21 with f1_ f2_ f3_; have f4_ := f1_.symm; have f5_ := f3_.symm; clear f1_ f2_ f3_; subst f4_; subst f5_))
       refine hK.out _ _ ⟨(blk_cell BK217.out 0).trans rfl, (blk_cell BK217.out 1).trans rfl, (blk_cell BK217.out 2).trans rfl, (blk_cell BK217.out 3).trans rfl, (blk_cell BK215.out 0).trans rfl, (blk_cell BK215.out 1).trans rfl, (blk_cell BK215.out 2).trans rfl, (blk_cell BK215.out 3).trans rfl, ((HB.out.cell (wblt w hw221_0)).trans hw221_0), ((HB.out.cell (wblt w hw221_1)).trans hw221_1), ((HB.out.cell (wblt w hw221_2)).trans hw221_2), ((HB.out.cell (wblt w hw221_3)).trans hw221_3), ((HB.out.cell (wblt w hw221_4)).trans hw221_4), ((HB.out.cell (wblt w hw225_0)).trans hw225_0), ((HB.out.cell (wblt w hw225_1)).trans hw225_1), ((HB.out.cell (wblt w hw225_2)).trans hw225_2), ((HB.out.cell (wblt w hw225_3)).trans hw225_3), ((HB.out.cell (wblt w hw225_4)).trans hw225_4)⟩ (fun hHeld => ?_)
       clear hK K
       refine norm_ (a' := ?_) ?_ ?_
       rotate_left
       ·show Act.put _ (some 28) _ = _
        simp only [Act.put, sL1, sL2, sL3, i64_w, i32_w]
        rfl
       refine pure_ (i := 16) (N := some 35) (v := ?_) (a' := ?_) #[true, true, true, true, true, true, true, true, true, true, true, true, true, true, true, true, true, false, false, false, false] rfl rfl (any_of HT_.out (by kernel_rfl)) (fun _ _ _ h => h) (Or.inl ⟨by rfl, ?_⟩) ?_ ?_
       rotate_left
       ·intro w'
        go_simp
        with_reducible rfl
       rotate_left
       ·simp only [Act.put, sL1, sL2, sL3, i64_w, i32_w]
        rfl
       refine one_ (i := 17) (N := some 36) #[true, true, true, true, true, true, true, true, true, true, true, true, true, true, true, true, true, true, false, false, false] rfl rfl (one_of HT_.out (by kernel_rfl)) (by decide) (fun K hK => ?_)
       refine value_ (w1 := ?_) (v := ?_) (by rfl) rfl ?_ ?_
       rotate_left 2
       ·go_simp
        constructor
        ·rfl
        ·rfl
       refine hK.out _ _ ⟨(blk_cell (blk_alloc BK217.out _) 0).trans rfl, (blk_cell (blk_alloc BK217.out _) 1).trans rfl, (blk_cell (blk_alloc BK217.out _) 2).trans rfl, (blk_cell (blk_alloc BK217.out _) 3).trans rfl, (blk_cell (blk_alloc BK215.out _) 0).trans rfl, (blk_cell (blk_alloc BK215.out _) 1).trans rfl, (blk_cell (blk_alloc BK215.out _) 2).trans rfl, (blk_cell (blk_alloc BK215.out _) 3).trans rfl, (World.cell?_alloc_lt _ _ _ (World.block_lt_of_cell? _ _ (((HB.out.cell (wblt w hw221_0)).trans hw221_0)))).trans (((HB.out.cell (wblt w hw221_0)).trans hw221_0)), (World.cell?_alloc_lt _ _ _ (World.block_lt_of_cell? _ _ (((HB.out.cell (wblt w hw221_1)).trans hw221_1)))).trans (((HB.out.cell (wblt w hw221_1)).trans hw221_1)), (World.cell?_alloc_lt _ _ _ (World.block_lt_of_cell? _ _ (((HB.out.cell (wblt w hw221_2)).trans hw221_2)))).trans (((HB.out.cell (wblt w hw221_2)).trans hw221_2)), (World.cell?_alloc_lt _ _ _ (World.block_lt_of_cell? _ _ (((HB.out.cell (wblt w hw221_3)).trans hw221_3)))).trans (((HB.out.cell (wblt w hw221_3)).trans hw221_3)), (World.cell?_alloc_lt _ _ _ (World.block_lt_of_cell? _ _ (((HB.out.cell (wblt w hw221_4)).trans hw221_4)))).trans (((HB.out.cell (wblt w hw221_4)).trans hw221_4)), (World.cell?_alloc_lt _ _ _ (World.block_lt_of_cell? _ _ (((HB.out.cell (wblt w hw225_0)).trans hw225_0)))).trans (((HB.out.cell (wblt w hw225_0)).trans hw225_0)), (World.cell?_alloc_lt _ _ _ (World.block_lt_of_cell? _ _ (((HB.out.cell (wblt w hw225_1)).trans hw225_1)))).trans (((HB.out.cell (wblt w hw225_1)).trans hw225_1)), (World.cell?_alloc_lt _ _ _ (World.block_lt_of_cell? _ _ (((HB.out.cell (wblt w hw225_2)).trans hw225_2)))).trans (((HB.out.cell (wblt w hw225_2)).trans hw225_2)), (World.cell?_alloc_lt _ _ _ (World.block_lt_of_cell? _ _ (((HB.out.cell (wblt w hw225_3)).trans hw225_3)))).trans (((HB.out.cell (wblt w hw225_3)).trans hw225_3)), (World.cell?_alloc_lt _ _ _ (World.block_lt_of_cell? _ _ (((HB.out.cell (wblt w hw225_4)).trans hw225_4)))).trans (((HB.out.cell (wblt w hw225_4)).trans hw225_4))⟩ (fun hHeld => ?_)
       clear hK K
       refine norm_ (a' := ?_) ?_ ?_
       rotate_left
       ·show Act.put _ (some 36) _ = _
        simp only [Act.put, sL1, sL2, sL3, i64_w, i32_w]
        rfl
       refine one_ (i := 18) (N := some 37) #[true, true, true, true, true, true, true, true, true, true, true, true, true, true, true, true, true, true, true, false, false] rfl rfl (one_of HT_.out (by kernel_rfl)) (by decide) (fun K hK => ?_)
       refine Kd.S_append_step k69 (w0 := w) w.heap.size (by rfl) (.tmp 20) (.tmp 36) 61 69 (.agg #[(.slice none 0 0), (.int .i64 0), (.int .i64 0), (.int .i64 0), (.int .i64 0)]) 56 rfl Try.underlying61 info69 rfl (by decide) (by omega) u218003 x218003_1 (⟨y222, (⟨(rd_T69 l0_3 x4_1).f1.f0, (rd_T69 l0_3 x4_1).f1.f1, (rd_T69 l0_3 x4_1).f1.f2, (rd_T69 l0_3 x4_1).f1.f3⟩ : S48)⟩ : S69) [.slice Ao21 y222.length co21, .int .i64 ((rd_T69 l0_3 x4_1).f1.f0), .int .i64 ((rd_T69 l0_3 x4_1).f1.f1), .int .i64 ((rd_T69 l0_3 x4_1).f1.f2), .int .i64 ((rd_T69 l0_3 x4_1).f1.f3)] (fun _ => True) (fun k_ => some k_ = (.slice Ao21 y222.length co21 : Value).ownBlock) rfl rfl ?aP (fun k_ hk_ => ((Kd.R_mono (ok' := fun k_ => ((fun _ => True)) k_ ∧ some k_ ≠ (u218003 : Value).ownBlock) (Kd.R_apart' (HO224.out) (Kd.S_typed HO_218003.out) (by decide)) (fun k_ hk => ⟨trivial, hk.2⟩))).1 k_ hk_.symm) ?aF ?aO ?aB ?aS ?aL ?_
       (case aP => exact k69_mkM _ _ _ (⟨y222, (⟨(rd_T69 l0_3 x4_1).f1.f0, (rd_T69 l0_3 x4_1).f1.f1, (rd_T69 l0_3 x4_1).f1.f2, (rd_T69 l0_3 x4_1).f1.f3⟩ : S48)⟩ : S69) (Kd.R_mono (Kd.R_tight rfl (Kd.R_mono (ok' := fun k_ => ((fun _ => True)) k_ ∧ some k_ ≠ (u218003 : Value).ownBlock) (Kd.R_apart' (HO224.out) (Kd.S_typed HO_218003.out) (by decide)) (fun k_ hk => ⟨trivial, hk.2⟩))) (fun _ h_ => h_)))
       (case aB => exact (by repeat (first | (with_reducible first | exact HB.out | apply below_alloc | apply bdN | apply bd1 | refine below_set ?_ GE215.out | refine below_set ?_ GE216.out | refine below_set ?_ GE217.out) | exact HB.out)))
       (case aF => exact (fun _ _ => trivial))
       (case aO => exact (by (with_reducible repeat (first | apply Kd.S_alloc | apply Kd.S_drewN | apply Kd.S_drew)); exact Kd.S_mono HO_218003.out (fun k_ hk => ⟨trivial, fun e_ => hk.2 e_⟩)))
       (case aS => exact (below_size (by repeat (first | (with_reducible first | exact HB.out | apply below_alloc | apply bdN | apply bd1 | refine below_set ?_ GE215.out | refine below_set ?_ GE216.out | refine below_set ?_ GE217.out) | exact HB.out))))
       (case aL => have := LMc13.out; omega)
       intro v227 w22 ho hb hg hat
       rw [← Ny226.out] at ho
       have n0_ := As0 (blk_grown (g := gb215) (o := .cells #[.int .i64 a0_0, .int .i64 a0_1, .int .i64 a0_2, .slice (some ad221) l0_3.length c0_3] 63 (0, 0)) (by (with_reducible repeat (first | refine blk_drewN ?_ _ | refine blk_drew ?_ | refine blk_alloc ?_ _)); exact BK215.out) hg (Kd.S_ne HO_218003.out BK215.out (by decide)))
       have n1_ := As0 (blk_grown (g := gb216) (o := .cells #[.int .i64 0, .int .i64 0, .int .i64 0, .slice none 0 0] 63 (0, 0)) (by (with_reducible repeat (first | refine blk_drewN ?_ _ | refine blk_drew ?_ | refine blk_alloc ?_ _)); exact BK216.out) hg (Kd.S_ne HO_218003.out BK216.out (by decide)))
       have n2_ := As0 (blk_grown (g := gb217) (o := .cells #[.int .i64 a0_0, .int .i64 a0_1, .int .i64 a0_2, u218003] 63 (0, 0)) (by (with_reducible repeat (first | refine blk_drewN ?_ _ | refine blk_drew ?_ | refine blk_alloc ?_ _)); exact BK217.out) hg (Kd.S_ne HO_218003.out BK217.out (by decide)))
       have n3_ := As0 (hb)
       have n4_ := As0 (ho)
       clear BK215
       clear BK216
       clear BK217
       clear HB
       clear HO_218003
       clear HO224
       have BK215 := n0_
       have BK216 := n1_
       have BK217 := n2_
       have HB := n3_
       have HO228 := n4_
       clear n0_ n1_ n2_ n3_ n4_
       clear ho hb hg hat
       obtain ⟨Ao23, co23, eo23⟩ := Kd.S_slice HO228.out
       (first | subst eo23 | (injection eo23 with f1_ f2_ f3_; have f4_ := f1_.symm; have f5_ := f3_.symm; clear f1_ f2_ f3_; subst f4_; subst f5_))
       refine hK.out _ _ ⟨(blk_cell BK217.out 0).trans rfl, (blk_cell BK217.out 1).trans rfl, (blk_cell BK217.out 2).trans rfl, (blk_cell BK217.out 3).trans rfl, (blk_cell BK215.out 0).trans rfl, (blk_cell BK215.out 1).trans rfl, (blk_cell BK215.out 2).trans rfl, (blk_cell BK215.out 3).trans rfl, ((HB.out.cell (wblt w hw221_0)).trans hw221_0), ((HB.out.cell (wblt w hw221_1)).trans hw221_1), ((HB.out.cell (wblt w hw221_2)).trans hw221_2), ((HB.out.cell (wblt w hw221_3)).trans hw221_3), ((HB.out.cell (wblt w hw221_4)).trans hw221_4), ((HB.out.cell (wblt w hw225_0)).trans hw225_0), ((HB.out.cell (wblt w hw225_1)).trans hw225_1), ((HB.out.cell (wblt w hw225_2)).trans hw225_2), ((HB.out.cell (wblt w hw225_3)).trans hw225_3), ((HB.out.cell (wblt w hw225_4)).trans hw225_4)⟩ (fun hHeld => ?_)
       clear hK K
       refine norm_ (a' := ?_) ?_ ?_
       rotate_left
       ·show Act.put _ (some 37) _ = _
        simp only [Act.put, sL1, sL2, sL3, i64_w, i32_w]
        rfl
       refine pure_ (i := 19) (N := some 38) (v := ?_) (a' := ?_) #[true, true, true, true, true, true, true, true, true, true, true, true, true, true, true, true, true, true, true, true, false] rfl rfl (any_of HT_.out (by kernel_rfl)) (fun _ _ _ h => h) (Or.inl ⟨by rfl, ?_⟩) ?_ ?_
       rotate_left
       ·intro w'
        go_simp
        with_reducible rfl
       rotate_left
       ·simp only [Act.put, sL1, sL2, sL3, i64_w, i32_w]
        rfl
       refine last_ (i := 20) (N := none) #[true, true, true, true, true, true, true, true, true, true, true, true, true, true, true, true, true, true, true, true, true] rfl rfl (one_of HT_.out (by kernel_rfl)) (by decide) (fun K hK => ?_)
       have hs24 : w22.cell? ⟨gb217, 3, none⟩ = some (u218003) := (blk_cell BK217.out 3).trans rfl
       have hfs24 := blk_frozen BK217.out 3
       have hns24_0 := NB215_217.out
       have hns24_1 := NB216_217.out
       have hms24_0 := NB217_215.out
       have hms24_1 := NB217_216.out
       refine skip_ (w1 := ?_) (by rfl) rfl ?_ ?_
       rotate_left
       ·go_simp
        rfl
       refine hK.out _ _ ?_
       clear hK K
       refine done_ (done_of HT_.out (by kernel_rfl)) ?_
       try go_wp2
       go_roundg k1
       case measure => have := HK1.out; omega
       case rel => exact ⟨(wrap64 (x4_1 + 1)), (y226), (.slice Ao23 y226.length co23), (by first | rfl | (simp; done) | (simp [*]; done)), H', ⟨by have := HK1.out; omega⟩, ⟨by (with_reducible repeat (first | apply Kd.S_alloc | apply Kd.S_drewN | apply Kd.S_drew)); exact Kd.S_mono (Kd.S_far (p := ⟨gb217, 3, none⟩) (Kd.S_types HO228.out BK217.out (by decide)) (fun _ hk => hk.2) (.slice Ao23 y226.length co23)) (fun _ hk => trivial)⟩, ⟨by (with_reducible repeat (first | refine blk_drewN ?_ _ | refine blk_drew ?_ | refine blk_alloc ?_ _)); refine blk_far ?_ NB215_217.out _; (with_reducible repeat (first | refine blk_drewN ?_ _ | refine blk_drew ?_ | refine blk_alloc ?_ _)); exact BK215.out⟩, ⟨by (with_reducible repeat (first | refine blk_drewN ?_ _ | refine blk_drew ?_ | refine blk_alloc ?_ _)); refine blk_far ?_ NB216_217.out _; (with_reducible repeat (first | refine blk_drewN ?_ _ | refine blk_drew ?_ | refine blk_alloc ?_ _)); exact BK216.out⟩, ⟨by (with_reducible repeat (first | refine blk_drewN ?_ _ | refine blk_drew ?_ | refine blk_alloc ?_ _)); refine blk_put (cs := #[.int .i64 a0_0, .int .i64 a0_1, .int .i64 a0_2, u218003]) ?_ 3 _ rfl; (with_reducible repeat (first | refine blk_drewN ?_ _ | refine blk_drew ?_ | refine blk_alloc ?_ _)); exact BK217.out⟩, ⟨by repeat (first | (with_reducible first | exact HB.out | apply below_alloc | apply bdN | apply bd1 | refine below_set ?_ GE215.out | refine below_set ?_ GE216.out | refine below_set ?_ GE217.out) | exact HB.out)⟩⟩
      ·rw [if_neg c13] at H
       exact absurd H (by simp)
     ·rw [if_neg c12] at H
      exact absurd H (by simp)
    ·rw [if_neg c11] at H
     exact absurd H (by simp)
   ·rw [if_neg c10] at H
    have c10b0 : decide (x4_1 < (l0_3.length : Int)) = false := decide_eq_false c10
    clear c10
    simp only [Option.some.injEq, Prod.mk.injEq] at H
    obtain ⟨rfl, rfl, rfl, rfl⟩ := H
    have hnb25 := NB215_216.out
    have hnc25 := NB216_215.out
    have hnb26 := NB215_217.out
    have hnc26 := NB217_215.out
    have hcz27_0 : wr.cell? ⟨gb215, 0, none⟩ = some (.int .i64 a0_0) := (blk_cell BK215.out 0).trans rfl
    have hcz27_1 : wr.cell? ⟨gb215, 1, none⟩ = some (.int .i64 a0_1) := (blk_cell BK215.out 1).trans rfl
    have hcz27_2 : wr.cell? ⟨gb215, 2, none⟩ = some (.int .i64 a0_2) := (blk_cell BK215.out 2).trans rfl
    have hcz27_3 : wr.cell? ⟨gb215, 3, none⟩ = some (.slice A0_3 l0_3.length c0_3) := (blk_cell BK215.out 3).trans rfl
    have hfz27_0 := blk_frozen BK215.out 0
    have hfz27_1 := blk_frozen BK215.out 1
    have hfz27_2 := blk_frozen BK215.out 2
    have hfz27_3 := blk_frozen BK215.out 3
    have hnb28 := NB217_216.out
    have hnc28 := NB216_217.out
    have hcz29_0 : wr.cell? ⟨gb217, 0, none⟩ = some (.int .i64 a0_0) := (blk_cell BK217.out 0).trans rfl
    have hcz29_1 : wr.cell? ⟨gb217, 1, none⟩ = some (.int .i64 a0_1) := (blk_cell BK217.out 1).trans rfl
    have hcz29_2 : wr.cell? ⟨gb217, 2, none⟩ = some (.int .i64 a0_2) := (blk_cell BK217.out 2).trans rfl
    have hcz29_3 : wr.cell? ⟨gb217, 3, none⟩ = some (u218003) := (blk_cell BK217.out 3).trans rfl
    have hfz29_0 := blk_frozen BK217.out 0
    have hfz29_1 := blk_frozen BK217.out 1
    have hfz29_2 := blk_frozen BK217.out 2
    have hfz29_3 := blk_frozen BK217.out 3
    have hcz30_0 : wr.cell? ⟨gb216, 0, none⟩ = some (.int .i64 0) := (blk_cell BK216.out 0).trans rfl
    have hcz30_1 : wr.cell? ⟨gb216, 1, none⟩ = some (.int .i64 0) := (blk_cell BK216.out 1).trans rfl
    have hcz30_2 : wr.cell? ⟨gb216, 2, none⟩ = some (.int .i64 0) := (blk_cell BK216.out 2).trans rfl
    have hcz30_3 : wr.cell? ⟨gb216, 3, none⟩ = some (.slice none 0 0) := (blk_cell BK216.out 3).trans rfl
    have hfz30_0 := blk_frozen BK216.out 0
    have hfz30_1 := blk_frozen BK216.out 1
    have hfz30_2 := blk_frozen BK216.out 2
    have hfz30_3 := blk_frozen BK216.out 3
    obtain ⟨Ao31, co31, eo31⟩ := Kd.S_slice HO_218003.out
    subst eo31
    go_wp2
    refine bodyPost_ret (results_cell_row rfl _ _ gb216 63 #[.int .i64 a0_0, .int .i64 a0_1, .int .i64 a0_2, .slice Ao31 x218003_1.length co31] (0, 0) _ rfl (by (with_reducible repeat (first | refine blk_drewN ?_ _ | refine blk_drew ?_ | refine blk_alloc ?_ _)); refine blk_put (cs := #[.int .i64 a0_0, .int .i64 a0_1, .int .i64 a0_2, .slice none 0 0]) ?_ 3 _ rfl; (with_reducible repeat (first | refine blk_drewN ?_ _ | refine blk_drew ?_ | refine blk_alloc ?_ _)); refine blk_put (cs := #[.int .i64 a0_0, .int .i64 a0_1, .int .i64 0, .slice none 0 0]) ?_ 2 _ rfl; (with_reducible repeat (first | refine blk_drewN ?_ _ | refine blk_drew ?_ | refine blk_alloc ?_ _)); refine blk_put (cs := #[.int .i64 a0_0, .int .i64 0, .int .i64 0, .slice none 0 0]) ?_ 1 _ rfl; (with_reducible repeat (first | refine blk_drewN ?_ _ | refine blk_drew ?_ | refine blk_alloc ?_ _)); refine blk_put (cs := #[.int .i64 0, .int .i64 0, .int .i64 0, .slice none 0 0]) ?_ 0 _ rfl; (with_reducible repeat (first | refine blk_drewN ?_ _ | refine blk_drew ?_ | refine blk_alloc ?_ _)); exact BK216.out) Try.underlying63 rfl (by kernel_rfl)) rfl ?_
    exact ⟨_, by first | rfl | (simp [errW_none, errW_some] <;> rfl) | (simp [*, errW_none, errW_some] <;> rfl), by (with_reducible repeat (first | apply Kd.S_alloc | apply Kd.S_drewN | apply Kd.S_drew)); exact Kd.S_mono (Kd.S_far (p := ⟨gb216, 3, none⟩) (Kd.S_far (p := ⟨gb216, 2, none⟩) (Kd.S_far (p := ⟨gb216, 1, none⟩) (Kd.S_far (p := ⟨gb216, 0, none⟩) (Kd.S_types HO_218003.out BK216.out (by decide)) (fun _ hk => hk.2) (.int .i64 a0_0)) (fun _ hk => hk.2) (.int .i64 a0_1)) (fun _ hk => hk.2) (.int .i64 a0_2)) (fun _ hk => hk.2) (.slice Ao31 x218003_1.length co31)) (fun _ hk => trivial), by repeat (first | (with_reducible first | exact HB.out | apply below_alloc | apply bdN | apply bd1 | refine below_set ?_ GE215.out | refine below_set ?_ GE216.out | refine below_set ?_ GE217.out) | exact HB.out)⟩

/-! ### regcertlaw10_ExecuteUnused: function 14 -/
mutual
def regcertlaw10_ExecuteUnused.j0 : Nat → List Int → Int → Int → Bool → Int → Int → Int → List (S69) → List (S84) → Int → Int → Int → Int → Option (Bool)
 | 0, _, _, _, _, _, _, _, _, _, _, _, _, _ => none
 | k + 1, x1, x2, x4, x30, x230000, x230001, x230002, x230003, x231000, x231001, x231002, x231003, x231004 => if x30 = true then ((regcertlaw10_awake.f k).bind fun t233 => (some t233)) else ((regcertref08_Copy.f k x230000 x230001 x230002 x230003).bind fun bt234 => (if bt234.2.2.2.length < 2513169434916 then ((some (bt234.2.2.2 ++ [(⟨x231000, (⟨x231001, x231002, x231003, x231004⟩ : S48)⟩ : S69)] : List (S69))).bind fun y241 => ((regcertref08_Few.f k bt234.1 (wrap64 (bt234.2.1 + (wrap64 (Int.tmod x4 5)))) (wrap64 (bt234.2.2.1 + (wrap64 (Int.tmod x4 7)))) y241).bind fun t244 => (if t244 = true then ((regcertref08_Check.f k bt234.1 (wrap64 (bt234.2.1 + (wrap64 (Int.tmod x4 5)))) (wrap64 (bt234.2.2.1 + (wrap64 (Int.tmod x4 7)))) y241).bind fun t245 => (regcertlaw10_ExecuteUnused.j1 k x1 x2 (t245 != 0) x230000 x230001 x230002 x230003 bt234.1 (wrap64 (bt234.2.1 + (wrap64 (Int.tmod x4 5)))) (wrap64 (bt234.2.2.1 + (wrap64 (Int.tmod x4 7)))) y241)) else (regcertlaw10_ExecuteUnused.j1 k x1 x2 true x230000 x230001 x230002 x230003 bt234.1 (wrap64 (bt234.2.1 + (wrap64 (Int.tmod x4 5)))) (wrap64 (bt234.2.2.1 + (wrap64 (Int.tmod x4 7)))) y241)))) else (none)))
def regcertlaw10_ExecuteUnused.j1 : Nat → List Int → Int → Bool → Int → Int → Int → List (S69) → Int → Int → Int → List (S69) → Option (Bool)
 | 0, _, _, _, _, _, _, _, _, _, _, _ => none
 | k + 1, x1, x2, x61, x230000, x230001, x230002, x230003, x241000, x241001, x241002, x241003 => if x61 = true then (some true) else ((execute_Exec.f k x230000 x230001 x230002 x230003 x1 (wrap64 (x2))).bind fun bt246 => ((execute_Exec.f k x241000 x241001 x241002 x241003 x1 (wrap64 (x2))).bind fun bt262 => (if bt246.1 = bt262.1 then (if bt246.2.2.2.1 = bt262.2.2.2.1 then (if bt246.2.2.2.2.2.2.2.1 = bt262.2.2.2.2.2.2.2.1 then (if bt246.2.1 = bt262.2.1 then (if bt246.2.2.1 = bt262.2.2.1 then ((regcertref09_Values.f k bt246.2.2.2.2.2.2.1 bt262.2.2.2.2.2.2.1).bind fun t278 => (if t278 = true then ((regcertref09_Prefix.f k bt246.2.2.2.2.1 bt262.2.2.2.2.1).bind fun t279 => (if t279 = true then ((regcertref09_Prefix.f k bt246.2.2.2.2.2.1 bt262.2.2.2.2.2.1).bind fun t280 => (some t280)) else (none))) else (none))) else (none)) else (none)) else (none)) else (none)) else (none))))
end
def regcertlaw10_ExecuteUnused.f (k : Nat) (a0_0 : Int) (a0_1 : Int) (a0_2 : Int) (l0_3 : List (S69)) (l1 : List Int) (a2 : Int) (l3_0 : List (S84)) (a3_1 : Int) (a3_2 : Int) (a3_3 : Int) (a3_4 : Int) (a4 : Int) : Option (Bool) := (regcertlaw10_awake.f k).bind fun t231 => (if t231 = true then ((regcertref10_Right.f k a0_0 a0_1 a0_2 l0_3 l1 0).bind fun t232 => (if t232 = true then (regcertlaw10_ExecuteUnused.j0 k l1 a2 a4 ((l1.length : Int) != a0_0) a0_0 a0_1 a0_2 l0_3 l3_0 a3_1 a3_2 a3_3 a3_4) else (regcertlaw10_ExecuteUnused.j0 k l1 a2 a4 true a0_0 a0_1 a0_2 l0_3 l3_0 a3_1 a3_2 a3_3 a3_4))) else (regcertlaw10_ExecuteUnused.j0 k l1 a2 a4 true a0_0 a0_1 a0_2 l0_3 l3_0 a3_1 a3_2 a3_3 a3_4))
theorem regcertlaw10_ExecuteUnused.mono_l : ∀ k, (∀ y0 y1 y2 y3 y4 y5 y6 y7 y8 y9 y10 y11 y12, LeO (regcertlaw10_ExecuteUnused.j0 k y0 y1 y2 y3 y4 y5 y6 y7 y8 y9 y10 y11 y12) (regcertlaw10_ExecuteUnused.j0 (k + 1) y0 y1 y2 y3 y4 y5 y6 y7 y8 y9 y10 y11 y12)) ∧ (∀ y0 y1 y2 y3 y4 y5 y6 y7 y8 y9 y10, LeO (regcertlaw10_ExecuteUnused.j1 k y0 y1 y2 y3 y4 y5 y6 y7 y8 y9 y10) (regcertlaw10_ExecuteUnused.j1 (k + 1) y0 y1 y2 y3 y4 y5 y6 y7 y8 y9 y10))
 | 0 => ⟨fun _ _ _ _ _ _ _ _ _ _ _ _ _ r h => by simp [regcertlaw10_ExecuteUnused.j0] at h, fun _ _ _ _ _ _ _ _ _ _ _ r h => by simp [regcertlaw10_ExecuteUnused.j1] at h⟩
 | k + 1 => by
  obtain ⟨ih0, ih1⟩ := regcertlaw10_ExecuteUnused.mono_l k
  refine ⟨?_, ?_⟩
  ·intro y0 y1 y2 y3 y4 y5 y6 y7 y8 y9 y10 y11 y12
   unfold regcertlaw10_ExecuteUnused.j0
   repeat' first
   | (with_reducible exact ih0 _ _ _ _ _ _ _ _ _ _ _ _ _)
   | (with_reducible exact ih1 _ _ _ _ _ _ _ _ _ _ _)
   | (with_reducible exact execute_Exec.mono _ _ _ _ _ _ _)
   | (with_reducible exact regcertlaw10_awake.mono _)
   | (with_reducible exact regcertref08_Check.mono _ _ _ _ _)
   | (with_reducible exact regcertref08_Copy.mono _ _ _ _ _)
   | (with_reducible exact regcertref08_Few.mono _ _ _ _ _)
   | (with_reducible exact regcertref09_Prefix.mono _ _ _)
   | (with_reducible exact regcertref09_Values.mono _ _ _)
   | (with_reducible exact regcertref10_Right.mono _ _ _ _ _ _ _)
   | (with_reducible exact LeO.refl _)
   | (with_reducible exact LeO.none _)
   | (with_reducible refine LeO.ite ?_ ?_)
   | (with_reducible refine LeO.bind ?_ (fun _ => ?_))
   | exact ih0 _ _ _ _ _ _ _ _ _ _ _ _ _
   | exact ih1 _ _ _ _ _ _ _ _ _ _ _
   | exact execute_Exec.mono _ _ _ _ _ _ _
   | exact regcertlaw10_awake.mono _
   | exact regcertref08_Check.mono _ _ _ _ _
   | exact regcertref08_Copy.mono _ _ _ _ _
   | exact regcertref08_Few.mono _ _ _ _ _
   | exact regcertref09_Prefix.mono _ _ _
   | exact regcertref09_Values.mono _ _ _
   | exact regcertref10_Right.mono _ _ _ _ _ _ _
   | exact LeO.none _
   | refine LeO.ite ?_ ?_
   | refine LeO.bind ?_ (fun _ => ?_)
  ·intro y0 y1 y2 y3 y4 y5 y6 y7 y8 y9 y10
   unfold regcertlaw10_ExecuteUnused.j1
   repeat' first
   | (with_reducible exact ih0 _ _ _ _ _ _ _ _ _ _ _ _ _)
   | (with_reducible exact ih1 _ _ _ _ _ _ _ _ _ _ _)
   | (with_reducible exact execute_Exec.mono _ _ _ _ _ _ _)
   | (with_reducible exact regcertlaw10_awake.mono _)
   | (with_reducible exact regcertref08_Check.mono _ _ _ _ _)
   | (with_reducible exact regcertref08_Copy.mono _ _ _ _ _)
   | (with_reducible exact regcertref08_Few.mono _ _ _ _ _)
   | (with_reducible exact regcertref09_Prefix.mono _ _ _)
   | (with_reducible exact regcertref09_Values.mono _ _ _)
   | (with_reducible exact regcertref10_Right.mono _ _ _ _ _ _ _)
   | (with_reducible exact LeO.refl _)
   | (with_reducible exact LeO.none _)
   | (with_reducible refine LeO.ite ?_ ?_)
   | (with_reducible refine LeO.bind ?_ (fun _ => ?_))
   | exact ih0 _ _ _ _ _ _ _ _ _ _ _ _ _
   | exact ih1 _ _ _ _ _ _ _ _ _ _ _
   | exact execute_Exec.mono _ _ _ _ _ _ _
   | exact regcertlaw10_awake.mono _
   | exact regcertref08_Check.mono _ _ _ _ _
   | exact regcertref08_Copy.mono _ _ _ _ _
   | exact regcertref08_Few.mono _ _ _ _ _
   | exact regcertref09_Prefix.mono _ _ _
   | exact regcertref09_Values.mono _ _ _
   | exact regcertref10_Right.mono _ _ _ _ _ _ _
   | exact LeO.none _
   | refine LeO.ite ?_ ?_
   | refine LeO.bind ?_ (fun _ => ?_)
theorem regcertlaw10_ExecuteUnused.mono : ∀ a0 a1 a2 a3 a4 a5 a6 a7 a8 a9 a10 a11 k, LeO (regcertlaw10_ExecuteUnused.f k a0 a1 a2 a3 a4 a5 a6 a7 a8 a9 a10 a11) (regcertlaw10_ExecuteUnused.f (k + 1) a0 a1 a2 a3 a4 a5 a6 a7 a8 a9 a10 a11) := by
 intro a0 a1 a2 a3 a4 a5 a6 a7 a8 a9 a10 a11 k
 obtain ⟨ih0, ih1⟩ := regcertlaw10_ExecuteUnused.mono_l k
 unfold regcertlaw10_ExecuteUnused.f
 repeat' first
   | (with_reducible exact ih0 _ _ _ _ _ _ _ _ _ _ _ _ _)
   | (with_reducible exact ih1 _ _ _ _ _ _ _ _ _ _ _)
   | (with_reducible exact execute_Exec.mono _ _ _ _ _ _ _)
   | (with_reducible exact regcertlaw10_awake.mono _)
   | (with_reducible exact regcertref08_Check.mono _ _ _ _ _)
   | (with_reducible exact regcertref08_Copy.mono _ _ _ _ _)
   | (with_reducible exact regcertref08_Few.mono _ _ _ _ _)
   | (with_reducible exact regcertref09_Prefix.mono _ _ _)
   | (with_reducible exact regcertref09_Values.mono _ _ _)
   | (with_reducible exact regcertref10_Right.mono _ _ _ _ _ _ _)
   | (with_reducible exact LeO.refl _)
   | (with_reducible exact LeO.none _)
   | (with_reducible refine LeO.ite ?_ ?_)
   | (with_reducible refine LeO.bind ?_ (fun _ => ?_))
   | exact ih0 _ _ _ _ _ _ _ _ _ _ _ _ _
   | exact ih1 _ _ _ _ _ _ _ _ _ _ _
   | exact execute_Exec.mono _ _ _ _ _ _ _
   | exact regcertlaw10_awake.mono _
   | exact regcertref08_Check.mono _ _ _ _ _
   | exact regcertref08_Copy.mono _ _ _ _ _
   | exact regcertref08_Few.mono _ _ _ _ _
   | exact regcertref09_Prefix.mono _ _ _
   | exact regcertref09_Values.mono _ _ _
   | exact regcertref10_Right.mono _ _ _ _ _ _ _
   | exact LeO.none _
   | refine LeO.ite ?_ ?_
   | refine LeO.bind ?_ (fun _ => ?_)
set_option maxHeartbeats 8000000 in
set_option maxRecDepth 100000 in
theorem regcertlaw10_ExecuteUnused.calls (k : Nat) (a0_0 : Int) (a0_1 : Int) (a0_2 : Int) (A0_3 : Option Addr) (c0_3 : Nat) (l0_3 : List (S69)) (A1 : Option Addr) (c1 : Nat) (l1 : List Int) (a2 : Int) (P3_0_ : Nat → Prop) (A3_0 : Option Addr) (c3_0 : Nat) (l3_0 : List (S84)) (a3_1 : Int) (a3_2 : Int) (a3_3 : Int) (a3_4 : Int) (a4 : Int) (r : Bool) (w : World) (hr0_3 : Kd.C k69 w A0_3 l0_3.length l0_3) (hc0_3 : l0_3.length ≤ c0_3) (hr1 : Kd.C (Kd.int .i64) w A1 l1.length l1) (hc1 : l1.length ≤ c1) (hs3_0 : Kd.V k84 84 w w.heap.size (fun k_ => P3_0_ k_) (.slice A3_0 l3_0.length c3_0) l3_0) (h : regcertlaw10_ExecuteUnused.f k a0_0 a0_1 a0_2 l0_3 l1 a2 l3_0 a3_1 a3_2 a3_3 a3_4 a4 = some r) :
  Calls Try.prog 14 #[.agg #[.int .i64 a0_0, .int .i64 a0_1, .int .i64 a0_2, .slice A0_3 l0_3.length c0_3], .slice A1 l1.length c1, .int .u8 a2, .agg #[.slice A3_0 l3_0.length c3_0, .int .i64 a3_1, .int .i64 a3_2, .int .i64 a3_3, .int .i64 a3_4], .int .u8 a4] w fun e w' => e = .returned (.bool r) ∧ Below w.heap.size w w' := by
 have hu63 := Try.underlying63
 have hu69 := Try.underlying69
 have hu39 := Try.underlying39
 have HR0_3 := As0 hr0_3
 have HC0_3 := As0 hc0_3
 clear hr0_3 hc0_3
 have HR1 := As0 hr1
 have HC1 := As0 hc1
 clear hr1 hc1
 have HO3_0 := As0 (show Kd.V k84 84 w w.heap.size (fun k_ => (P3_0_ k_ ∨ w.heap.size ≤ k_)) (.slice A3_0 l3_0.length c3_0) l3_0 from Kd.V_mono hs3_0 (fun k_ hk => .inl hk))
 have HB := As0 (Below.refl w.heap.size w)
 have H : ((regcertlaw10_awake.f k).bind fun t231 => (if t231 = true then ((regcertref10_Right.f k a0_0 a0_1 a0_2 l0_3 l1 0).bind fun t232 => (if t232 = true then (regcertlaw10_ExecuteUnused.j0 k l1 a2 a4 ((l1.length : Int) != a0_0) a0_0 a0_1 a0_2 l0_3 l3_0 a3_1 a3_2 a3_3 a3_4) else (regcertlaw10_ExecuteUnused.j0 k l1 a2 a4 true a0_0 a0_1 a0_2 l0_3 l3_0 a3_1 a3_2 a3_3 a3_4))) else (regcertlaw10_ExecuteUnused.j0 k l1 a2 a4 true a0_0 a0_1 a0_2 l0_3 l3_0 a3_1 a3_2 a3_3 a3_4))) = some r := h
 clear h
 have HC6 := As0 H
 clear H
 go_enter Try.func14, Try.ntmps14
 go_upto_region 1 with (first | ((with_reducible refine gate_dst (N := 5) rfl ?_); (try (refine gate_guard (by rfl) ?_; dsimp only)); refine box_event ?hg (N := 5) ?hd (cs := #[.int .i64 a0_0, .int .i64 a0_1, .int .i64 a0_2, .slice A0_3 l0_3.length c0_3]) (t := 63) ?hr ?_; (case hd => rfl); (case hg => rfl); (case hr => first | (go_simp; done) | (go_simp; rfl)); intro gb229 hg w7 hbox hb; have n0_ := As0 (Kd.V_below (Kd.V_elderB (by (with_reducible repeat (first | apply Kd.V_alloc | apply Kd.V_drewN | apply Kd.V_drew)); exact HO3_0.out) gb229 (Nat.le_of_eq hg.symm)) hb); have n1_ := As0 (below_step (by repeat (first | (with_reducible first | exact HB.out | apply below_alloc | apply bdN | apply bd1) | exact HB.out)) hb); have n2_ := As0 (hbox); have n3_ := As0 ((by rw [hg]; exact (below_size (by repeat (first | (with_reducible first | exact HB.out | apply below_alloc | apply bdN | apply bd1) | exact HB.out))) : w.heap.size ≤ gb229)); have n4_ := As0 ((by rw [hg]; exact (below_size (by repeat (first | (with_reducible first | exact HB.out | apply below_alloc | apply bdN | apply bd1) | exact HB.out))) : w.heap.size ≤ gb229)); clear HO3_0 HB; have HO3_0 := n0_; have HB := n1_; have BK229 := n2_; have GW229 := n3_; have GE229 := n4_; clear n0_ n1_ n2_ n3_ n4_ hb hbox hg) | ((with_reducible refine gate_dst (N := 8) rfl ?_); (try (refine gate_guard (by rfl) ?_; dsimp only)); refine box_event ?hg (N := 8) ?hd (cs := #[.slice A3_0 l3_0.length c3_0, .int .i64 a3_1, .int .i64 a3_2, .int .i64 a3_3, .int .i64 a3_4]) (t := 69) ?hr ?_; (case hd => rfl); (case hg => rfl); (case hr => first | (go_simp; done) | (go_simp; rfl)); intro gb230 hg w8 hbox hb; have n0_ := As0 (Kd.V_below (Kd.V_elderB (by (with_reducible repeat (first | apply Kd.V_alloc | apply Kd.V_drewN | apply Kd.V_drew)); exact HO3_0.out) gb230 (Nat.le_of_eq hg.symm)) hb); have n1_ := As0 (blk_below (g := gb229) (o := .cells #[.int .i64 a0_0, .int .i64 a0_1, .int .i64 a0_2, .slice A0_3 l0_3.length c0_3] 63 (0, 0)) (by (with_reducible repeat (first | refine blk_drewN ?_ _ | refine blk_drew ?_ | refine blk_alloc ?_ _)); exact BK229.out) hb); have n2_ := As0 (below_step (by repeat (first | (with_reducible first | exact HB.out | apply below_alloc | apply bdN | apply bd1 | refine below_set ?_ GE229.out) | exact HB.out)) hb); have n3_ := As0 (hbox); have n4_ := As0 ((by rw [hg]; exact (below_size (by repeat (first | (with_reducible first | exact HB.out | apply below_alloc | apply bdN | apply bd1 | refine below_set ?_ GE229.out) | exact HB.out))) : w.heap.size ≤ gb230)); have n5_ := As0 ((by rw [hg]; exact (below_size (by repeat (first | (with_reducible first | exact HB.out | apply below_alloc | apply bdN | apply bd1 | refine below_set ?_ GE229.out) | exact HB.out))) : w.heap.size ≤ gb230)); have n6_ := As0 ((by rw [hg]; exact Nat.ne_of_lt (blk_lt (g := gb229) (o := .cells #[.int .i64 a0_0, .int .i64 a0_1, .int .i64 a0_2, .slice A0_3 l0_3.length c0_3] 63 (0, 0)) (by (with_reducible repeat (first | refine blk_drewN ?_ _ | refine blk_drew ?_ | refine blk_alloc ?_ _)); exact BK229.out)) : gb229 ≠ gb230)); have n7_ := As0 ((by rw [hg]; exact Nat.ne_of_gt (blk_lt (g := gb229) (o := .cells #[.int .i64 a0_0, .int .i64 a0_1, .int .i64 a0_2, .slice A0_3 l0_3.length c0_3] 63 (0, 0)) (by (with_reducible repeat (first | refine blk_drewN ?_ _ | refine blk_drew ?_ | refine blk_alloc ?_ _)); exact BK229.out)) : gb230 ≠ gb229)); clear HO3_0 BK229 HB; have HO3_0 := n0_; have BK229 := n1_; have HB := n2_; have BK230 := n3_; have GW230 := n4_; have GE230 := n5_; have NB229_230 := n6_; have NB230_229 := n7_; clear n0_ n1_ n2_ n3_ n4_ n5_ n6_ n7_ hb hbox hg))
 (try simp only [Act.put, sL1, sL2, sL3])
 go_cut [30] (fun v30 wc => ∃ (kq : Nat) (x30_5 : Bool), v30 = .bool x30_5 ∧ Aside0 (regcertlaw10_ExecuteUnused.j0 kq l1 a2 a4 x30_5 a0_0 a0_1 a0_2 l0_3 l3_0 a3_1 a3_2 a3_3 a3_4 = some r) ∧ Aside0 (kq ≤ k) ∧ Aside0 (Kd.V k84 84 wc w.heap.size (fun k_ => (P3_0_ k_ ∨ w.heap.size ≤ k_) ∧ k_ ≠ gb229 ∧ k_ ≠ gb230) (.slice A3_0 l3_0.length c3_0) l3_0) ∧ Aside0 (wc.heap[gb229]? = some (.cells #[.int .i64 a0_0, .int .i64 a0_1, .int .i64 a0_2, (.slice A0_3 l0_3.length c0_3)] 63 (0, 0))) ∧ Aside0 (wc.heap[gb230]? = some (.cells #[(.slice A3_0 l3_0.length c3_0), .int .i64 a3_1, .int .i64 a3_2, .int .i64 a3_3, .int .i64 a3_4] 69 (0, 0))) ∧ Aside0 (Below w.heap.size w wc))
 case first =>
  have H := HC6.out
  clear HC6
  replace H := Option.bind_eq_some_iff.mp H
  obtain ⟨t231, A90, H⟩ := H
  replace H : (if t231 = true then ((regcertref10_Right.f k a0_0 a0_1 a0_2 l0_3 l1 0).bind fun t232 => (if t232 = true then (regcertlaw10_ExecuteUnused.j0 k l1 a2 a4 ((l1.length : Int) != a0_0) a0_0 a0_1 a0_2 l0_3 l3_0 a3_1 a3_2 a3_3 a3_4) else (regcertlaw10_ExecuteUnused.j0 k l1 a2 a4 true a0_0 a0_1 a0_2 l0_3 l3_0 a3_1 a3_2 a3_3 a3_4))) else (regcertlaw10_ExecuteUnused.j0 k l1 a2 a4 true a0_0 a0_1 a0_2 l0_3 l3_0 a3_1 a3_2 a3_3 a3_4)) = some r := H
  have A9 := As0 A90
  clear A90
  by_cases c10 : t231 = true
  ·subst c10
   have H1 : ((regcertref10_Right.f k a0_0 a0_1 a0_2 l0_3 l1 0).bind fun t232 => (if t232 = true then (regcertlaw10_ExecuteUnused.j0 k l1 a2 a4 ((l1.length : Int) != a0_0) a0_0 a0_1 a0_2 l0_3 l3_0 a3_1 a3_2 a3_3 a3_4) else (regcertlaw10_ExecuteUnused.j0 k l1 a2 a4 true a0_0 a0_1 a0_2 l0_3 l3_0 a3_1 a3_2 a3_3 a3_4))) = some r := by rw [if_pos rfl] at H; exact H
   clear H
   have H := H1
   clear H1
   replace H := Option.bind_eq_some_iff.mp H
   obtain ⟨t232, A110, H⟩ := H
   replace H : (if t232 = true then (regcertlaw10_ExecuteUnused.j0 k l1 a2 a4 ((l1.length : Int) != a0_0) a0_0 a0_1 a0_2 l0_3 l3_0 a3_1 a3_2 a3_3 a3_4) else (regcertlaw10_ExecuteUnused.j0 k l1 a2 a4 true a0_0 a0_1 a0_2 l0_3 l3_0 a3_1 a3_2 a3_3 a3_4)) = some r := H
   have A11 := As0 A110
   clear A110
   by_cases c12 : t232 = true
   ·subst c12
    have H1 : (regcertlaw10_ExecuteUnused.j0 k l1 a2 a4 ((l1.length : Int) != a0_0) a0_0 a0_1 a0_2 l0_3 l3_0 a3_1 a3_2 a3_3 a3_4) = some r := by rw [if_pos rfl] at H; exact H
    clear H
    have H := H1
    clear H1
    have H' := As0 H
    clear H
    go_wp2_with (first | ((with_reducible refine gate_callee (f := 44) rfl ?_); refine goesL_ (some 16) rfl rfl Try.func44 (by kernel_rfl) rfl #[] rfl (by (try simp only [List.map_toArray, List.map_cons, List.map_nil]); first | done | rfl | (simp only [List.length_drop, List.length_take]; rfl)) ?_; (with_reducible refine (regcertlaw10_awake.calls k  true _ A9.out).mono ?_); rintro e w13 ⟨rfl, hb⟩; refine ⟨_, rfl, ?_⟩; have n0_ := As0 (Kd.V_below (by (with_reducible repeat (first | apply Kd.V_alloc | apply Kd.V_drewN | apply Kd.V_drew)); exact HO3_0.out) hb); have n1_ := As0 (blk_below (g := gb229) (o := .cells #[.int .i64 a0_0, .int .i64 a0_1, .int .i64 a0_2, .slice A0_3 l0_3.length c0_3] 63 (0, 0)) (by (with_reducible repeat (first | refine blk_drewN ?_ _ | refine blk_drew ?_ | refine blk_alloc ?_ _)); exact BK229.out) hb); have n2_ := As0 (blk_below (g := gb230) (o := .cells #[.slice A3_0 l3_0.length c3_0, .int .i64 a3_1, .int .i64 a3_2, .int .i64 a3_3, .int .i64 a3_4] 69 (0, 0)) (by (with_reducible repeat (first | refine blk_drewN ?_ _ | refine blk_drew ?_ | refine blk_alloc ?_ _)); exact BK230.out) hb); have n3_ := As0 (below_step (by repeat (first | (with_reducible first | exact HB.out | apply below_alloc | apply bdN | apply bd1 | refine below_set ?_ GE229.out | refine below_set ?_ GE230.out) | exact HB.out)) hb); clear HO3_0 BK229 BK230 HB; have HO3_0 := n0_; have BK229 := n1_; have BK230 := n2_; have HB := n3_; clear n0_ n1_ n2_ n3_; (try clear hb); (try clear hb2); (try clear hk); (try clear hi); have hnb14 := NB229_230.out; have hnc14 := NB230_229.out; have hcz15_0 : w13.cell? ⟨gb229, 0, none⟩ = some (.int .i64 a0_0) := (blk_cell BK229.out 0).trans rfl; have hcz15_1 : w13.cell? ⟨gb229, 1, none⟩ = some (.int .i64 a0_1) := (blk_cell BK229.out 1).trans rfl; have hcz15_2 : w13.cell? ⟨gb229, 2, none⟩ = some (.int .i64 a0_2) := (blk_cell BK229.out 2).trans rfl; have hcz15_3 : w13.cell? ⟨gb229, 3, none⟩ = some (.slice A0_3 l0_3.length c0_3) := (blk_cell BK229.out 3).trans rfl; have hfz15_0 := blk_frozen BK229.out 0; have hfz15_1 := blk_frozen BK229.out 1; have hfz15_2 := blk_frozen BK229.out 2; have hfz15_3 := blk_frozen BK229.out 3) | (go_at_call 45; (with_reducible refine (regcertref10_Right.calls k a0_0 a0_1 a0_2 _ _ l0_3 _ _ l1 0 true _ ?side1 ?side2 ?side3 ?side4 A11.out).mono ?_); (case side1 => repeat (first | exact (Kd.C_below HR0_3.out HB.out) | (with_reducible refine Kd.C_alloc ?_ _) | (with_reducible refine Kd.C_drewN ?_ _) | (with_reducible refine Kd.C_drew ?_))); (case side2 => exact HC0_3.out); (case side3 => repeat (first | exact (Kd.C_below HR1.out HB.out) | (with_reducible refine Kd.C_alloc ?_ _) | (with_reducible refine Kd.C_drewN ?_ _) | (with_reducible refine Kd.C_drew ?_))); (case side4 => exact HC1.out); rintro e w16 ⟨rfl, hb⟩; have n0_ := As0 (Kd.V_below (by (with_reducible repeat (first | apply Kd.V_alloc | apply Kd.V_drewN | apply Kd.V_drew)); exact HO3_0.out) hb); have n1_ := As0 (blk_below (g := gb229) (o := .cells #[.int .i64 a0_0, .int .i64 a0_1, .int .i64 a0_2, .slice A0_3 l0_3.length c0_3] 63 (0, 0)) (by (with_reducible repeat (first | refine blk_drewN ?_ _ | refine blk_drew ?_ | refine blk_alloc ?_ _)); exact BK229.out) hb); have n2_ := As0 (blk_below (g := gb230) (o := .cells #[.slice A3_0 l3_0.length c3_0, .int .i64 a3_1, .int .i64 a3_2, .int .i64 a3_3, .int .i64 a3_4] 69 (0, 0)) (by (with_reducible repeat (first | refine blk_drewN ?_ _ | refine blk_drew ?_ | refine blk_alloc ?_ _)); exact BK230.out) hb); have n3_ := As0 (below_step (by repeat (first | (with_reducible first | exact HB.out | apply below_alloc | apply bdN | apply bd1 | refine below_set ?_ GE229.out | refine below_set ?_ GE230.out) | exact HB.out)) hb); clear HO3_0 BK229 BK230 HB; have HO3_0 := n0_; have BK229 := n1_; have BK230 := n2_; have HB := n3_; clear n0_ n1_ n2_ n3_; (try clear hb); (try clear hb2); (try clear hk); (try clear hi); have hcz17_0 : w16.cell? ⟨gb229, 0, none⟩ = some (.int .i64 a0_0) := (blk_cell BK229.out 0).trans rfl; have hcz17_1 : w16.cell? ⟨gb229, 1, none⟩ = some (.int .i64 a0_1) := (blk_cell BK229.out 1).trans rfl; have hcz17_2 : w16.cell? ⟨gb229, 2, none⟩ = some (.int .i64 a0_2) := (blk_cell BK229.out 2).trans rfl; have hcz17_3 : w16.cell? ⟨gb229, 3, none⟩ = some (.slice A0_3 l0_3.length c0_3) := (blk_cell BK229.out 3).trans rfl; have hfz17_0 := blk_frozen BK229.out 0; have hfz17_1 := blk_frozen BK229.out 1; have hfz17_2 := blk_frozen BK229.out 2; have hfz17_3 := blk_frozen BK229.out 3))
    go_meet
    case rel => exact ⟨_, (((l1.length : Int) != a0_0)), (by first | rfl | (simp; done) | (simp [*]; done)), H', ⟨by first | omega | exact Nat.le_refl _⟩, ⟨by (with_reducible repeat (first | apply Kd.V_alloc | apply Kd.V_drewN | apply Kd.V_drew)); exact Kd.V_mono HO3_0.out (fun _ hk => ⟨hk.1.1, ⟨hk.1.2, hk.2⟩⟩)⟩, ⟨by (with_reducible repeat (first | refine blk_drewN ?_ _ | refine blk_drew ?_ | refine blk_alloc ?_ _)); exact BK229.out⟩, ⟨by (with_reducible repeat (first | refine blk_drewN ?_ _ | refine blk_drew ?_ | refine blk_alloc ?_ _)); exact BK230.out⟩, ⟨by repeat (first | (with_reducible first | exact HB.out | apply below_alloc | apply bdN | apply bd1 | refine below_set ?_ GE229.out | refine below_set ?_ GE230.out) | exact HB.out)⟩⟩
   ·replace c12 := Bool.eq_false_iff.mpr c12
    subst c12
    have H1 : (regcertlaw10_ExecuteUnused.j0 k l1 a2 a4 true a0_0 a0_1 a0_2 l0_3 l3_0 a3_1 a3_2 a3_3 a3_4) = some r := by rw [if_neg (show ¬ (false = true) by decide)] at H; exact H
    clear H
    have H := H1
    clear H1
    have H' := As0 H
    clear H
    go_wp2_with (first | ((with_reducible refine gate_callee (f := 44) rfl ?_); refine goesL_ (some 16) rfl rfl Try.func44 (by kernel_rfl) rfl #[] rfl (by (try simp only [List.map_toArray, List.map_cons, List.map_nil]); first | done | rfl | (simp only [List.length_drop, List.length_take]; rfl)) ?_; (with_reducible refine (regcertlaw10_awake.calls k  true _ A9.out).mono ?_); rintro e w18 ⟨rfl, hb⟩; refine ⟨_, rfl, ?_⟩; have n0_ := As0 (Kd.V_below (by (with_reducible repeat (first | apply Kd.V_alloc | apply Kd.V_drewN | apply Kd.V_drew)); exact HO3_0.out) hb); have n1_ := As0 (blk_below (g := gb229) (o := .cells #[.int .i64 a0_0, .int .i64 a0_1, .int .i64 a0_2, .slice A0_3 l0_3.length c0_3] 63 (0, 0)) (by (with_reducible repeat (first | refine blk_drewN ?_ _ | refine blk_drew ?_ | refine blk_alloc ?_ _)); exact BK229.out) hb); have n2_ := As0 (blk_below (g := gb230) (o := .cells #[.slice A3_0 l3_0.length c3_0, .int .i64 a3_1, .int .i64 a3_2, .int .i64 a3_3, .int .i64 a3_4] 69 (0, 0)) (by (with_reducible repeat (first | refine blk_drewN ?_ _ | refine blk_drew ?_ | refine blk_alloc ?_ _)); exact BK230.out) hb); have n3_ := As0 (below_step (by repeat (first | (with_reducible first | exact HB.out | apply below_alloc | apply bdN | apply bd1 | refine below_set ?_ GE229.out | refine below_set ?_ GE230.out) | exact HB.out)) hb); clear HO3_0 BK229 BK230 HB; have HO3_0 := n0_; have BK229 := n1_; have BK230 := n2_; have HB := n3_; clear n0_ n1_ n2_ n3_; (try clear hb); (try clear hb2); (try clear hk); (try clear hi); have hnb19 := NB229_230.out; have hnc19 := NB230_229.out; have hcz20_0 : w18.cell? ⟨gb229, 0, none⟩ = some (.int .i64 a0_0) := (blk_cell BK229.out 0).trans rfl; have hcz20_1 : w18.cell? ⟨gb229, 1, none⟩ = some (.int .i64 a0_1) := (blk_cell BK229.out 1).trans rfl; have hcz20_2 : w18.cell? ⟨gb229, 2, none⟩ = some (.int .i64 a0_2) := (blk_cell BK229.out 2).trans rfl; have hcz20_3 : w18.cell? ⟨gb229, 3, none⟩ = some (.slice A0_3 l0_3.length c0_3) := (blk_cell BK229.out 3).trans rfl; have hfz20_0 := blk_frozen BK229.out 0; have hfz20_1 := blk_frozen BK229.out 1; have hfz20_2 := blk_frozen BK229.out 2; have hfz20_3 := blk_frozen BK229.out 3) | (go_at_call 45; (with_reducible refine (regcertref10_Right.calls k a0_0 a0_1 a0_2 _ _ l0_3 _ _ l1 0 false _ ?side1 ?side2 ?side3 ?side4 A11.out).mono ?_); (case side1 => repeat (first | exact (Kd.C_below HR0_3.out HB.out) | (with_reducible refine Kd.C_alloc ?_ _) | (with_reducible refine Kd.C_drewN ?_ _) | (with_reducible refine Kd.C_drew ?_))); (case side2 => exact HC0_3.out); (case side3 => repeat (first | exact (Kd.C_below HR1.out HB.out) | (with_reducible refine Kd.C_alloc ?_ _) | (with_reducible refine Kd.C_drewN ?_ _) | (with_reducible refine Kd.C_drew ?_))); (case side4 => exact HC1.out); rintro e w21 ⟨rfl, hb⟩; have n0_ := As0 (Kd.V_below (by (with_reducible repeat (first | apply Kd.V_alloc | apply Kd.V_drewN | apply Kd.V_drew)); exact HO3_0.out) hb); have n1_ := As0 (blk_below (g := gb229) (o := .cells #[.int .i64 a0_0, .int .i64 a0_1, .int .i64 a0_2, .slice A0_3 l0_3.length c0_3] 63 (0, 0)) (by (with_reducible repeat (first | refine blk_drewN ?_ _ | refine blk_drew ?_ | refine blk_alloc ?_ _)); exact BK229.out) hb); have n2_ := As0 (blk_below (g := gb230) (o := .cells #[.slice A3_0 l3_0.length c3_0, .int .i64 a3_1, .int .i64 a3_2, .int .i64 a3_3, .int .i64 a3_4] 69 (0, 0)) (by (with_reducible repeat (first | refine blk_drewN ?_ _ | refine blk_drew ?_ | refine blk_alloc ?_ _)); exact BK230.out) hb); have n3_ := As0 (below_step (by repeat (first | (with_reducible first | exact HB.out | apply below_alloc | apply bdN | apply bd1 | refine below_set ?_ GE229.out | refine below_set ?_ GE230.out) | exact HB.out)) hb); clear HO3_0 BK229 BK230 HB; have HO3_0 := n0_; have BK229 := n1_; have BK230 := n2_; have HB := n3_; clear n0_ n1_ n2_ n3_; (try clear hb); (try clear hb2); (try clear hk); (try clear hi)))
    go_meet
    case rel => exact ⟨_, (true), (by first | rfl | (simp; done) | (simp [*]; done)), H', ⟨by first | omega | exact Nat.le_refl _⟩, ⟨by (with_reducible repeat (first | apply Kd.V_alloc | apply Kd.V_drewN | apply Kd.V_drew)); exact Kd.V_mono HO3_0.out (fun _ hk => ⟨hk.1.1, ⟨hk.1.2, hk.2⟩⟩)⟩, ⟨by (with_reducible repeat (first | refine blk_drewN ?_ _ | refine blk_drew ?_ | refine blk_alloc ?_ _)); exact BK229.out⟩, ⟨by (with_reducible repeat (first | refine blk_drewN ?_ _ | refine blk_drew ?_ | refine blk_alloc ?_ _)); exact BK230.out⟩, ⟨by repeat (first | (with_reducible first | exact HB.out | apply below_alloc | apply bdN | apply bd1 | refine below_set ?_ GE229.out | refine below_set ?_ GE230.out) | exact HB.out)⟩⟩
  ·replace c10 := Bool.eq_false_iff.mpr c10
   subst c10
   have H1 : (regcertlaw10_ExecuteUnused.j0 k l1 a2 a4 true a0_0 a0_1 a0_2 l0_3 l3_0 a3_1 a3_2 a3_3 a3_4) = some r := by rw [if_neg (show ¬ (false = true) by decide)] at H; exact H
   clear H
   have H := H1
   clear H1
   have H' := As0 H
   clear H
   go_wp2_with (first | ((with_reducible refine gate_callee (f := 44) rfl ?_); refine goesL_ (some 16) rfl rfl Try.func44 (by kernel_rfl) rfl #[] rfl (by (try simp only [List.map_toArray, List.map_cons, List.map_nil]); first | done | rfl | (simp only [List.length_drop, List.length_take]; rfl)) ?_; (with_reducible refine (regcertlaw10_awake.calls k  false _ A9.out).mono ?_); rintro e w22 ⟨rfl, hb⟩; refine ⟨_, rfl, ?_⟩; have n0_ := As0 (Kd.V_below (by (with_reducible repeat (first | apply Kd.V_alloc | apply Kd.V_drewN | apply Kd.V_drew)); exact HO3_0.out) hb); have n1_ := As0 (blk_below (g := gb229) (o := .cells #[.int .i64 a0_0, .int .i64 a0_1, .int .i64 a0_2, .slice A0_3 l0_3.length c0_3] 63 (0, 0)) (by (with_reducible repeat (first | refine blk_drewN ?_ _ | refine blk_drew ?_ | refine blk_alloc ?_ _)); exact BK229.out) hb); have n2_ := As0 (blk_below (g := gb230) (o := .cells #[.slice A3_0 l3_0.length c3_0, .int .i64 a3_1, .int .i64 a3_2, .int .i64 a3_3, .int .i64 a3_4] 69 (0, 0)) (by (with_reducible repeat (first | refine blk_drewN ?_ _ | refine blk_drew ?_ | refine blk_alloc ?_ _)); exact BK230.out) hb); have n3_ := As0 (below_step (by repeat (first | (with_reducible first | exact HB.out | apply below_alloc | apply bdN | apply bd1 | refine below_set ?_ GE229.out | refine below_set ?_ GE230.out) | exact HB.out)) hb); clear HO3_0 BK229 BK230 HB; have HO3_0 := n0_; have BK229 := n1_; have BK230 := n2_; have HB := n3_; clear n0_ n1_ n2_ n3_; (try clear hb); (try clear hb2); (try clear hk); (try clear hi)))
   go_meet
   case rel => exact ⟨_, (true), (by first | rfl | (simp; done) | (simp [*]; done)), H', ⟨by first | omega | exact Nat.le_refl _⟩, ⟨by (with_reducible repeat (first | apply Kd.V_alloc | apply Kd.V_drewN | apply Kd.V_drew)); exact Kd.V_mono HO3_0.out (fun _ hk => ⟨hk.1.1, ⟨hk.1.2, hk.2⟩⟩)⟩, ⟨by (with_reducible repeat (first | refine blk_drewN ?_ _ | refine blk_drew ?_ | refine blk_alloc ?_ _)); exact BK229.out⟩, ⟨by (with_reducible repeat (first | refine blk_drewN ?_ _ | refine blk_drew ?_ | refine blk_alloc ?_ _)); exact BK230.out⟩, ⟨by repeat (first | (with_reducible first | exact HB.out | apply below_alloc | apply bdN | apply bd1 | refine below_set ?_ GE229.out | refine below_set ?_ GE230.out) | exact HB.out)⟩⟩
 case rest =>
  clear HC6
  try clear c1
  try clear p2
  try clear c3
  try clear c4
  try clear c10
  try clear c12
  try clear c14
  try clear c19
  try clear hcz15_0
  try clear hcz15_1
  try clear hcz15_2
  try clear hcz15_3
  try clear hcz17_0
  try clear hcz17_1
  try clear hcz17_2
  try clear hcz17_3
  try clear hcz20_0
  try clear hcz20_1
  try clear hcz20_2
  try clear hcz20_3
  try clear hfz15_0
  try clear hfz15_1
  try clear hfz15_2
  try clear hfz15_3
  try clear hfz17_0
  try clear hfz17_1
  try clear hfz17_2
  try clear hfz17_3
  try clear hfz20_0
  try clear hfz20_1
  try clear hfz20_2
  try clear hfz20_3
  obtain ⟨kq, x30_5, rfl, HA, HJ5, HO_231000, BK229, BK230, HB⟩ := hcut
  cases kq with
  | zero => exact absurd HA.out (by simp [regcertlaw10_ExecuteUnused.j0])
  | succ kj5 =>
   have H := HA.out
   clear HA
   simp only [regcertlaw10_ExecuteUnused.j0] at H
   by_cases c23 : x30_5 = true
   ·subst c23
    have H1 : ((regcertlaw10_awake.f kj5).bind fun t233 => (some t233)) = some r := by rw [if_pos rfl] at H; exact H
    clear H
    have H := H1
    clear H1
    replace H := Option.bind_eq_some_iff.mp H
    obtain ⟨t233, A240, H⟩ := H
    replace H : (some t233) = some r := H
    have A24 := As0 A240
    clear A240
    obtain rfl := Option.some.inj H
    go_wp2_with (first | ((with_reducible refine gate_callee (f := 44) rfl ?_); refine goesL_ (some 31) rfl rfl Try.func44 (by kernel_rfl) rfl #[] rfl (by (try simp only [List.map_toArray, List.map_cons, List.map_nil]); first | done | rfl | (simp only [List.length_drop, List.length_take]; rfl)) ?_; (with_reducible refine (regcertlaw10_awake.calls kj5  t233 _ A24.out).mono ?_); rintro e w25 ⟨rfl, hb⟩; refine ⟨_, rfl, ?_⟩; have n0_ := As0 (Kd.V_below (by (with_reducible repeat (first | apply Kd.V_alloc | apply Kd.V_drewN | apply Kd.V_drew)); exact HO_231000.out) hb); have n1_ := As0 (blk_below (g := gb229) (o := .cells #[.int .i64 a0_0, .int .i64 a0_1, .int .i64 a0_2, .slice A0_3 l0_3.length c0_3] 63 (0, 0)) (by (with_reducible repeat (first | refine blk_drewN ?_ _ | refine blk_drew ?_ | refine blk_alloc ?_ _)); exact BK229.out) hb); have n2_ := As0 (blk_below (g := gb230) (o := .cells #[.slice A3_0 l3_0.length c3_0, .int .i64 a3_1, .int .i64 a3_2, .int .i64 a3_3, .int .i64 a3_4] 69 (0, 0)) (by (with_reducible repeat (first | refine blk_drewN ?_ _ | refine blk_drew ?_ | refine blk_alloc ?_ _)); exact BK230.out) hb); have n3_ := As0 (below_step (by repeat (first | (with_reducible first | exact HB.out | apply below_alloc | apply bdN | apply bd1 | refine below_set ?_ GE229.out | refine below_set ?_ GE230.out) | exact HB.out)) hb); clear HO_231000 BK229 BK230 HB; have HO_231000 := n0_; have BK229 := n1_; have BK230 := n2_; have HB := n3_; clear n0_ n1_ n2_ n3_; (try clear hb); (try clear hb2); (try clear hk); (try clear hi)))
    go_ret
    exact ⟨by first | rfl | (simp [errW_none, errW_some] <;> rfl) | (simp [*, errW_none, errW_some] <;> rfl), by repeat (first | (with_reducible first | exact HB.out | apply below_alloc | apply bdN | apply bd1 | refine below_set ?_ GE229.out | refine below_set ?_ GE230.out) | exact HB.out)⟩
   ·replace c23 := Bool.eq_false_iff.mpr c23
    subst c23
    have H1 : ((regcertref08_Copy.f kj5 a0_0 a0_1 a0_2 l0_3).bind fun bt234 => (if bt234.2.2.2.length < 2513169434916 then ((some (bt234.2.2.2 ++ [(⟨l3_0, (⟨a3_1, a3_2, a3_3, a3_4⟩ : S48)⟩ : S69)] : List (S69))).bind fun y241 => ((regcertref08_Few.f kj5 bt234.1 (wrap64 (bt234.2.1 + (wrap64 (Int.tmod a4 5)))) (wrap64 (bt234.2.2.1 + (wrap64 (Int.tmod a4 7)))) y241).bind fun t244 => (if t244 = true then ((regcertref08_Check.f kj5 bt234.1 (wrap64 (bt234.2.1 + (wrap64 (Int.tmod a4 5)))) (wrap64 (bt234.2.2.1 + (wrap64 (Int.tmod a4 7)))) y241).bind fun t245 => (regcertlaw10_ExecuteUnused.j1 kj5 l1 a2 (t245 != 0) a0_0 a0_1 a0_2 l0_3 bt234.1 (wrap64 (bt234.2.1 + (wrap64 (Int.tmod a4 5)))) (wrap64 (bt234.2.2.1 + (wrap64 (Int.tmod a4 7)))) y241)) else (regcertlaw10_ExecuteUnused.j1 kj5 l1 a2 true a0_0 a0_1 a0_2 l0_3 bt234.1 (wrap64 (bt234.2.1 + (wrap64 (Int.tmod a4 5)))) (wrap64 (bt234.2.2.1 + (wrap64 (Int.tmod a4 7)))) y241)))) else (none))) = some r := by rw [if_neg (show ¬ (false = true) by decide)] at H; exact H
    clear H
    have H := H1
    clear H1
    replace H := Option.bind_eq_some_iff.mp H
    obtain ⟨⟨t234, t235, t236, t237⟩, A260, H⟩ := H
    replace H : (if t237.length < 2513169434916 then ((some (t237 ++ [(⟨l3_0, (⟨a3_1, a3_2, a3_3, a3_4⟩ : S48)⟩ : S69)] : List (S69))).bind fun y241 => ((regcertref08_Few.f kj5 t234 (wrap64 (t235 + (wrap64 (Int.tmod a4 5)))) (wrap64 (t236 + (wrap64 (Int.tmod a4 7)))) y241).bind fun t244 => (if t244 = true then ((regcertref08_Check.f kj5 t234 (wrap64 (t235 + (wrap64 (Int.tmod a4 5)))) (wrap64 (t236 + (wrap64 (Int.tmod a4 7)))) y241).bind fun t245 => (regcertlaw10_ExecuteUnused.j1 kj5 l1 a2 (t245 != 0) a0_0 a0_1 a0_2 l0_3 t234 (wrap64 (t235 + (wrap64 (Int.tmod a4 5)))) (wrap64 (t236 + (wrap64 (Int.tmod a4 7)))) y241)) else (regcertlaw10_ExecuteUnused.j1 kj5 l1 a2 true a0_0 a0_1 a0_2 l0_3 t234 (wrap64 (t235 + (wrap64 (Int.tmod a4 5)))) (wrap64 (t236 + (wrap64 (Int.tmod a4 7)))) y241)))) else (none)) = some r := H
    have A26 := As0 A260
    clear A260
    by_cases c27 : t237.length < 2513169434916
    ·rw [if_pos c27] at H
     have LMc27 := As0 c27
     clear c27
     obtain ⟨y241, hy241⟩ : ∃ y_ : List (S69), y_ = (t237 ++ [(⟨l3_0, (⟨a3_1, a3_2, a3_3, a3_4⟩ : S48)⟩ : S69)]) := ⟨_, rfl⟩
     replace H : ((regcertref08_Few.f kj5 t234 (wrap64 (t235 + (wrap64 (Int.tmod a4 5)))) (wrap64 (t236 + (wrap64 (Int.tmod a4 7)))) y241).bind fun t244 => (if t244 = true then ((regcertref08_Check.f kj5 t234 (wrap64 (t235 + (wrap64 (Int.tmod a4 5)))) (wrap64 (t236 + (wrap64 (Int.tmod a4 7)))) y241).bind fun t245 => (regcertlaw10_ExecuteUnused.j1 kj5 l1 a2 (t245 != 0) a0_0 a0_1 a0_2 l0_3 t234 (wrap64 (t235 + (wrap64 (Int.tmod a4 5)))) (wrap64 (t236 + (wrap64 (Int.tmod a4 7)))) y241)) else (regcertlaw10_ExecuteUnused.j1 kj5 l1 a2 true a0_0 a0_1 a0_2 l0_3 t234 (wrap64 (t235 + (wrap64 (Int.tmod a4 5)))) (wrap64 (t236 + (wrap64 (Int.tmod a4 7)))) y241))) = some r := by first | (rw [hy241]; with_reducible exact H) | (have H2_ := (Option.bind_some _ _).symm.trans H; rw [hy241]; with_reducible exact H2_) | (have H2_ := (Option.bind_some _ _).symm.trans H; with_reducible exact H2_) | with_reducible exact H | (rw [hy241]; exact H) | exact H
     have Ny241 := As0 hy241
     clear hy241
     have HC28 := As0 H
     clear H
     have hnb29 := NB229_230.out
     have hnc29 := NB230_229.out
     have hcz30_0 : wc.cell? ⟨gb229, 0, none⟩ = some (.int .i64 a0_0) := (blk_cell BK229.out 0).trans rfl
     have hcz30_1 : wc.cell? ⟨gb229, 1, none⟩ = some (.int .i64 a0_1) := (blk_cell BK229.out 1).trans rfl
     have hcz30_2 : wc.cell? ⟨gb229, 2, none⟩ = some (.int .i64 a0_2) := (blk_cell BK229.out 2).trans rfl
     have hcz30_3 : wc.cell? ⟨gb229, 3, none⟩ = some (.slice A0_3 l0_3.length c0_3) := (blk_cell BK229.out 3).trans rfl
     have hfz30_0 := blk_frozen BK229.out 0
     have hfz30_1 := blk_frozen BK229.out 1
     have hfz30_2 := blk_frozen BK229.out 2
     have hfz30_3 := blk_frozen BK229.out 3
     go_upto_region 7 with (first | ((with_reducible refine gate_callee (f := 47) rfl ?_); refine goesL_ (some 33) rfl rfl Try.func47 (by kernel_rfl) rfl #[.agg #[.int .i64 a0_0, .int .i64 a0_1, .int .i64 a0_2, .slice A0_3 l0_3.length c0_3]] rfl (by (try simp only [List.map_toArray, List.map_cons, List.map_nil]); first | done | rfl | (simp only [List.length_drop, List.length_take]; rfl)) ?_; (with_reducible refine (regcertref08_Copy.calls kj5 a0_0 a0_1 a0_2 _ _ l0_3 t234 t235 t236 t237 _ ?side1 ?side2 A26.out).mono ?_); (case side1 => repeat (first | exact (Kd.C_below HR0_3.out HB.out) | (with_reducible refine Kd.C_alloc ?_ _) | (with_reducible refine Kd.C_drewN ?_ _) | (with_reducible refine Kd.C_drew ?_))); (case side2 => exact HC0_3.out); rintro e w31 ⟨v238, rfl, ho0, hb⟩; refine ⟨_, rfl, ?_⟩; have n0_ := As0 (Kd.V_elder' (by (with_reducible repeat (first | apply Kd.V_alloc | apply Kd.V_drewN | apply Kd.V_drew)); exact HO_231000.out) (Kd.N_base (Kd.S_N (Kd.S_bound ho0))) hb); have n1_ := As0 (Kd.N_lower (Kd.N_mono (ok' := fun k_ => (P3_0_ k_ ∨ w.heap.size ≤ k_) ∧ k_ ≠ gb229 ∧ k_ ≠ gb230) (Kd.S_N (Kd.S_bound ho0)) (fun k_ hk_ => ⟨(.inr (Nat.le_trans (below_size (by repeat (first | (with_reducible first | exact HB.out | apply below_alloc | apply bdN | apply bd1 | refine below_set ?_ GE229.out | refine below_set ?_ GE230.out) | exact HB.out))) hk_.2.1)), (Kd.freshB (g := gb229) (o := .cells #[.int .i64 a0_0, .int .i64 a0_1, .int .i64 a0_2, .slice A0_3 l0_3.length c0_3] 63 (0, 0)) (by (with_reducible repeat (first | refine blk_drewN ?_ _ | refine blk_drew ?_ | refine blk_alloc ?_ _)); exact BK229.out) k_ hk_.2.1), (Kd.freshB (g := gb230) (o := .cells #[.slice A3_0 l3_0.length c3_0, .int .i64 a3_1, .int .i64 a3_2, .int .i64 a3_3, .int .i64 a3_4] 69 (0, 0)) (by (with_reducible repeat (first | refine blk_drewN ?_ _ | refine blk_drew ?_ | refine blk_alloc ?_ _)); exact BK230.out) k_ hk_.2.1)⟩)) (below_size (by repeat (first | (with_reducible first | exact HB.out | apply below_alloc | apply bdN | apply bd1 | refine below_set ?_ GE229.out | refine below_set ?_ GE230.out) | exact HB.out)))); have n2_ := As0 (blk_below (g := gb229) (o := .cells #[.int .i64 a0_0, .int .i64 a0_1, .int .i64 a0_2, .slice A0_3 l0_3.length c0_3] 63 (0, 0)) (by (with_reducible repeat (first | refine blk_drewN ?_ _ | refine blk_drew ?_ | refine blk_alloc ?_ _)); exact BK229.out) hb); have n3_ := As0 (blk_below (g := gb230) (o := .cells #[.slice A3_0 l3_0.length c3_0, .int .i64 a3_1, .int .i64 a3_2, .int .i64 a3_3, .int .i64 a3_4] 69 (0, 0)) (by (with_reducible repeat (first | refine blk_drewN ?_ _ | refine blk_drew ?_ | refine blk_alloc ?_ _)); exact BK230.out) hb); have n4_ := As0 (below_step (by repeat (first | (with_reducible first | exact HB.out | apply below_alloc | apply bdN | apply bd1 | refine below_set ?_ GE229.out | refine below_set ?_ GE230.out) | exact HB.out)) hb); clear HO_231000 BK229 BK230 HB; have HO_231000 := n0_; have HO239 := n1_; have BK229 := n2_; have BK230 := n3_; have HB := n4_; clear n0_ n1_ n2_ n3_ n4_; (try clear hb); (try clear hb2); (try clear hk); (try clear hi); (try clear ho0)) | ((with_reducible refine gate_dst (N := 11) rfl ?_); (try (refine gate_guard (by rfl) ?_; dsimp only)); refine box_event ?hg (N := 11) ?hd (cs := #[.int .i64 0, .int .i64 0, .int .i64 0, .slice none 0 0]) (t := 63) ?hr ?_; (case hd => rfl); (case hg => rfl); (case hr => first | (go_simp; done) | (go_simp; rfl)); intro gb240 hg w32 hbox hb; have n0_ := As0 (Kd.V_below (Kd.V_elderB (by (with_reducible repeat (first | apply Kd.V_alloc | apply Kd.V_drewN | apply Kd.V_drew)); exact HO_231000.out) gb240 (Nat.le_of_eq hg.symm)) hb); have n1_ := As0 (Kd.N_below (Kd.N_elderB (by (with_reducible repeat (first | apply Kd.N_alloc | apply Kd.N_drewN | apply Kd.N_drew)); exact HO239.out) gb240 (Nat.le_of_eq hg.symm)) hb); have n2_ := As0 (blk_below (g := gb229) (o := .cells #[.int .i64 a0_0, .int .i64 a0_1, .int .i64 a0_2, .slice A0_3 l0_3.length c0_3] 63 (0, 0)) (by (with_reducible repeat (first | refine blk_drewN ?_ _ | refine blk_drew ?_ | refine blk_alloc ?_ _)); exact BK229.out) hb); have n3_ := As0 (blk_below (g := gb230) (o := .cells #[.slice A3_0 l3_0.length c3_0, .int .i64 a3_1, .int .i64 a3_2, .int .i64 a3_3, .int .i64 a3_4] 69 (0, 0)) (by (with_reducible repeat (first | refine blk_drewN ?_ _ | refine blk_drew ?_ | refine blk_alloc ?_ _)); exact BK230.out) hb); have n4_ := As0 (below_step (by repeat (first | (with_reducible first | exact HB.out | apply below_alloc | apply bdN | apply bd1 | refine below_set ?_ GE229.out | refine below_set ?_ GE230.out) | exact HB.out)) hb); have n5_ := As0 (hbox); have n6_ := As0 ((by rw [hg]; exact (below_size (by repeat (first | (with_reducible first | exact HB.out | apply below_alloc | apply bdN | apply bd1 | refine below_set ?_ GE229.out | refine below_set ?_ GE230.out) | exact HB.out))) : w.heap.size ≤ gb240)); have n7_ := As0 ((by rw [hg]; exact (below_size (by repeat (first | (with_reducible first | exact HB.out | apply below_alloc | apply bdN | apply bd1 | refine below_set ?_ GE229.out | refine below_set ?_ GE230.out) | exact HB.out))) : w.heap.size ≤ gb240)); have n8_ := As0 ((by rw [hg]; exact Nat.ne_of_lt (blk_lt (g := gb229) (o := .cells #[.int .i64 a0_0, .int .i64 a0_1, .int .i64 a0_2, .slice A0_3 l0_3.length c0_3] 63 (0, 0)) (by (with_reducible repeat (first | refine blk_drewN ?_ _ | refine blk_drew ?_ | refine blk_alloc ?_ _)); exact BK229.out)) : gb229 ≠ gb240)); have n9_ := As0 ((by rw [hg]; exact Nat.ne_of_gt (blk_lt (g := gb229) (o := .cells #[.int .i64 a0_0, .int .i64 a0_1, .int .i64 a0_2, .slice A0_3 l0_3.length c0_3] 63 (0, 0)) (by (with_reducible repeat (first | refine blk_drewN ?_ _ | refine blk_drew ?_ | refine blk_alloc ?_ _)); exact BK229.out)) : gb240 ≠ gb229)); have n10_ := As0 ((by rw [hg]; exact Nat.ne_of_lt (blk_lt (g := gb230) (o := .cells #[.slice A3_0 l3_0.length c3_0, .int .i64 a3_1, .int .i64 a3_2, .int .i64 a3_3, .int .i64 a3_4] 69 (0, 0)) (by (with_reducible repeat (first | refine blk_drewN ?_ _ | refine blk_drew ?_ | refine blk_alloc ?_ _)); exact BK230.out)) : gb230 ≠ gb240)); have n11_ := As0 ((by rw [hg]; exact Nat.ne_of_gt (blk_lt (g := gb230) (o := .cells #[.slice A3_0 l3_0.length c3_0, .int .i64 a3_1, .int .i64 a3_2, .int .i64 a3_3, .int .i64 a3_4] 69 (0, 0)) (by (with_reducible repeat (first | refine blk_drewN ?_ _ | refine blk_drew ?_ | refine blk_alloc ?_ _)); exact BK230.out)) : gb240 ≠ gb230)); clear HO_231000 HO239 BK229 BK230 HB; have HO_231000 := n0_; have HO239 := n1_; have BK229 := n2_; have BK230 := n3_; have HB := n4_; have BK240 := n5_; have GW240 := n6_; have GE240 := n7_; have NB229_240 := n8_; have NB240_229 := n9_; have NB230_240 := n10_; have NB240_230 := n11_; clear n0_ n1_ n2_ n3_ n4_ n5_ n6_ n7_ n8_ n9_ n10_ n11_ hb hbox hg; have hnb33 := NB240_229.out; have hnc33 := NB229_240.out; have hnb34 := NB240_230.out; have hnc34 := NB230_240.out; have hcz35_0 : w32.cell? ⟨gb240, 0, none⟩ = some (.int .i64 0) := (blk_cell BK240.out 0).trans rfl; have hcz35_1 : w32.cell? ⟨gb240, 1, none⟩ = some (.int .i64 0) := (blk_cell BK240.out 1).trans rfl; have hcz35_2 : w32.cell? ⟨gb240, 2, none⟩ = some (.int .i64 0) := (blk_cell BK240.out 2).trans rfl; have hcz35_3 : w32.cell? ⟨gb240, 3, none⟩ = some (.slice none 0 0) := (blk_cell BK240.out 3).trans rfl; have hfz35_0 := blk_frozen BK240.out 0; have hfz35_1 := blk_frozen BK240.out 1; have hfz35_2 := blk_frozen BK240.out 2; have hfz35_3 := blk_frozen BK240.out 3; obtain ⟨Ao36, co36, eo36⟩ := Kd.N_slice HO239.out; subst eo36) | ((with_reducible refine gate_store (t := 63) (p := 11) rfl ?_); refine store_event (t := 63) (p := 11) (v := ?vo_w37) (w1 := ((((w32.setCell ⟨gb240, 0, none⟩ (.int .i64 t234)).setCell ⟨gb240, 1, none⟩ (.int .i64 t235)).setCell ⟨gb240, 2, none⟩ (.int .i64 t236)).setCell ⟨gb240, 3, none⟩ (.slice Ao36 t237.length co36))) ?hg ?ho ?hn ?hr ?_; (case ho => rfl); (case hg => rfl); (case hn => rfl); (case hr => first | (go_simp; done) | (go_simp; rfl)); intro w37 hw; have n0_ : Aside0 (Kd.V k84 84 w37 w.heap.size (fun k_ => (P3_0_ k_ ∨ w.heap.size ≤ k_) ∧ some k_ ≠ (.slice Ao36 t237.length co36 : Value).ownBlock ∧ k_ ≠ gb229 ∧ k_ ≠ gb230 ∧ k_ ≠ gb240) (.slice A3_0 l3_0.length c3_0) l3_0) := ⟨(by rw [hw]; exact (by (with_reducible repeat (first | apply Kd.V_alloc | apply Kd.V_drewN | apply Kd.V_drew)); exact Kd.V_mono (Kd.V_far (p := ⟨gb240, 3, none⟩) (Kd.V_far (p := ⟨gb240, 2, none⟩) (Kd.V_far (p := ⟨gb240, 1, none⟩) (Kd.V_far (p := ⟨gb240, 0, none⟩) (Kd.V_mono HO_231000.out (fun k_ hk => (⟨hk, hk.2⟩ : _ ∧ k_ ≠ gb240))) (fun _ hk => hk.2) (.int .i64 t234)) (fun _ hk => hk.2) (.int .i64 t235)) (fun _ hk => hk.2) (.int .i64 t236)) (fun _ hk => hk.2) (.slice Ao36 t237.length co36)) (fun _ hk => ⟨hk.1.1.1.1, ⟨hk.1.1.2, ⟨hk.1.1.1.2.1, ⟨hk.1.1.1.2.2, hk.1.2⟩⟩⟩⟩)))⟩; have n1_ : Aside0 (Kd.N k69 69 w37 w.heap.size (fun k_ => (P3_0_ k_ ∨ w.heap.size ≤ k_) ∧ k_ ≠ gb229 ∧ k_ ≠ gb230 ∧ k_ ≠ gb240) (.slice Ao36 t237.length co36) t237) := ⟨(by rw [hw]; exact (by (with_reducible repeat (first | apply Kd.N_alloc | apply Kd.N_drewN | apply Kd.N_drew)); exact Kd.N_mono (Kd.N_far (p := ⟨gb240, 3, none⟩) (Kd.N_far (p := ⟨gb240, 2, none⟩) (Kd.N_far (p := ⟨gb240, 1, none⟩) (Kd.N_far (p := ⟨gb240, 0, none⟩) (Kd.N_mono HO239.out (fun k_ hk => (⟨hk, hk.2⟩ : _ ∧ k_ ≠ gb240))) (fun _ hk => hk.2) (.int .i64 t234)) (fun _ hk => hk.2) (.int .i64 t235)) (fun _ hk => hk.2) (.int .i64 t236)) (fun _ hk => hk.2) (.slice Ao36 t237.length co36)) (fun _ hk => ⟨hk.1.1.1, ⟨hk.1.1.2.1, ⟨hk.1.1.2.2, hk.1.2⟩⟩⟩)))⟩; have n2_ : Aside0 (w37.heap[gb229]? = some (.cells #[.int .i64 a0_0, .int .i64 a0_1, .int .i64 a0_2, .slice A0_3 l0_3.length c0_3] 63 (0, 0))) := ⟨(by rw [hw]; exact (by (with_reducible repeat (first | refine blk_drewN ?_ _ | refine blk_drew ?_ | refine blk_alloc ?_ _)); refine blk_far ?_ NB229_240.out _; (with_reducible repeat (first | refine blk_drewN ?_ _ | refine blk_drew ?_ | refine blk_alloc ?_ _)); refine blk_far ?_ NB229_240.out _; (with_reducible repeat (first | refine blk_drewN ?_ _ | refine blk_drew ?_ | refine blk_alloc ?_ _)); refine blk_far ?_ NB229_240.out _; (with_reducible repeat (first | refine blk_drewN ?_ _ | refine blk_drew ?_ | refine blk_alloc ?_ _)); refine blk_far ?_ NB229_240.out _; (with_reducible repeat (first | refine blk_drewN ?_ _ | refine blk_drew ?_ | refine blk_alloc ?_ _)); exact BK229.out))⟩; have n3_ : Aside0 (w37.heap[gb230]? = some (.cells #[.slice A3_0 l3_0.length c3_0, .int .i64 a3_1, .int .i64 a3_2, .int .i64 a3_3, .int .i64 a3_4] 69 (0, 0))) := ⟨(by rw [hw]; exact (by (with_reducible repeat (first | refine blk_drewN ?_ _ | refine blk_drew ?_ | refine blk_alloc ?_ _)); refine blk_far ?_ NB230_240.out _; (with_reducible repeat (first | refine blk_drewN ?_ _ | refine blk_drew ?_ | refine blk_alloc ?_ _)); refine blk_far ?_ NB230_240.out _; (with_reducible repeat (first | refine blk_drewN ?_ _ | refine blk_drew ?_ | refine blk_alloc ?_ _)); refine blk_far ?_ NB230_240.out _; (with_reducible repeat (first | refine blk_drewN ?_ _ | refine blk_drew ?_ | refine blk_alloc ?_ _)); refine blk_far ?_ NB230_240.out _; (with_reducible repeat (first | refine blk_drewN ?_ _ | refine blk_drew ?_ | refine blk_alloc ?_ _)); exact BK230.out))⟩; have n4_ : Aside0 (w37.heap[gb240]? = some (.cells #[.int .i64 t234, .int .i64 t235, .int .i64 t236, .slice Ao36 t237.length co36] 63 (0, 0))) := ⟨(by rw [hw]; exact (by (with_reducible repeat (first | refine blk_drewN ?_ _ | refine blk_drew ?_ | refine blk_alloc ?_ _)); refine blk_put (cs := #[.int .i64 t234, .int .i64 t235, .int .i64 t236, .slice none 0 0]) ?_ 3 _ rfl; (with_reducible repeat (first | refine blk_drewN ?_ _ | refine blk_drew ?_ | refine blk_alloc ?_ _)); refine blk_put (cs := #[.int .i64 t234, .int .i64 t235, .int .i64 0, .slice none 0 0]) ?_ 2 _ rfl; (with_reducible repeat (first | refine blk_drewN ?_ _ | refine blk_drew ?_ | refine blk_alloc ?_ _)); refine blk_put (cs := #[.int .i64 t234, .int .i64 0, .int .i64 0, .slice none 0 0]) ?_ 1 _ rfl; (with_reducible repeat (first | refine blk_drewN ?_ _ | refine blk_drew ?_ | refine blk_alloc ?_ _)); refine blk_put (cs := #[.int .i64 0, .int .i64 0, .int .i64 0, .slice none 0 0]) ?_ 0 _ rfl; (with_reducible repeat (first | refine blk_drewN ?_ _ | refine blk_drew ?_ | refine blk_alloc ?_ _)); exact BK240.out))⟩; have n5_ : Aside0 (Below w.heap.size w w37) := ⟨(by rw [hw]; exact (by repeat (first | (with_reducible first | exact HB.out | apply below_alloc | apply bdN | apply bd1 | refine below_set ?_ GE229.out | refine below_set ?_ GE230.out | refine below_set ?_ GE240.out) | exact HB.out)))⟩; clear hw HO_231000 HO239 BK229 BK230 BK240 HB; have HO_231000 := n0_; have HO239 := n1_; have BK229 := n2_; have BK230 := n3_; have BK240 := n4_; have HB := n5_; clear n0_ n1_ n2_ n3_ n4_ n5_; have hcz38_0 : w37.cell? ⟨gb240, 0, none⟩ = some (.int .i64 t234) := (blk_cell BK240.out 0).trans rfl; have hcz38_1 : w37.cell? ⟨gb240, 1, none⟩ = some (.int .i64 t235) := (blk_cell BK240.out 1).trans rfl; have hcz38_2 : w37.cell? ⟨gb240, 2, none⟩ = some (.int .i64 t236) := (blk_cell BK240.out 2).trans rfl; have hcz38_3 : w37.cell? ⟨gb240, 3, none⟩ = some (.slice Ao36 t237.length co36) := (blk_cell BK240.out 3).trans rfl; have hfz38_0 := blk_frozen BK240.out 0; have hfz38_1 := blk_frozen BK240.out 1; have hfz38_2 := blk_frozen BK240.out 2; have hfz38_3 := blk_frozen BK240.out 3) | ((with_reducible refine gate_store (t := 3) (p := 40) rfl ?_); refine store_event (t := 3) (p := 40) (v := ?vo_w39) (w1 := (w37.setCell ⟨gb240, 1, none⟩ (.int .i64 (wrap64 (t235 + (wrap64 (Int.tmod a4 5))))))) ?hg ?ho ?hn ?hr ?_; (case ho => rfl); (case hg => rfl); (case hn => rfl); (case hr => first | (go_simp; done) | (go_simp; rfl)); intro w39 hw; have n0_ : Aside0 (Kd.V k84 84 w39 w.heap.size (fun k_ => (P3_0_ k_ ∨ w.heap.size ≤ k_) ∧ some k_ ≠ (.slice Ao36 t237.length co36 : Value).ownBlock ∧ k_ ≠ gb229 ∧ k_ ≠ gb230 ∧ k_ ≠ gb240) (.slice A3_0 l3_0.length c3_0) l3_0) := ⟨(by rw [hw]; exact (by (with_reducible repeat (first | apply Kd.V_alloc | apply Kd.V_drewN | apply Kd.V_drew)); exact Kd.V_mono (Kd.V_far (p := ⟨gb240, 1, none⟩) (Kd.V_mono HO_231000.out (fun k_ hk => (⟨hk, hk.2.2.2.2⟩ : _ ∧ k_ ≠ gb240))) (fun _ hk => hk.2) (.int .i64 (wrap64 (t235 + (wrap64 (Int.tmod a4 5)))))) (fun _ hk => ⟨hk.1.1, ⟨hk.1.2.1, ⟨hk.1.2.2.1, ⟨hk.1.2.2.2.1, hk.1.2.2.2.2⟩⟩⟩⟩)))⟩; have n1_ : Aside0 (Kd.N k69 69 w39 w.heap.size (fun k_ => (P3_0_ k_ ∨ w.heap.size ≤ k_) ∧ k_ ≠ gb229 ∧ k_ ≠ gb230 ∧ k_ ≠ gb240) (.slice Ao36 t237.length co36) t237) := ⟨(by rw [hw]; exact (by (with_reducible repeat (first | apply Kd.N_alloc | apply Kd.N_drewN | apply Kd.N_drew)); exact Kd.N_mono (Kd.N_far (p := ⟨gb240, 1, none⟩) (Kd.N_mono HO239.out (fun k_ hk => (⟨hk, hk.2.2.2⟩ : _ ∧ k_ ≠ gb240))) (fun _ hk => hk.2) (.int .i64 (wrap64 (t235 + (wrap64 (Int.tmod a4 5)))))) (fun _ hk => ⟨hk.1.1, ⟨hk.1.2.1, ⟨hk.1.2.2.1, hk.1.2.2.2⟩⟩⟩)))⟩; have n2_ : Aside0 (w39.heap[gb229]? = some (.cells #[.int .i64 a0_0, .int .i64 a0_1, .int .i64 a0_2, .slice A0_3 l0_3.length c0_3] 63 (0, 0))) := ⟨(by rw [hw]; exact (by (with_reducible repeat (first | refine blk_drewN ?_ _ | refine blk_drew ?_ | refine blk_alloc ?_ _)); refine blk_far ?_ NB229_240.out _; (with_reducible repeat (first | refine blk_drewN ?_ _ | refine blk_drew ?_ | refine blk_alloc ?_ _)); exact BK229.out))⟩; have n3_ : Aside0 (w39.heap[gb230]? = some (.cells #[.slice A3_0 l3_0.length c3_0, .int .i64 a3_1, .int .i64 a3_2, .int .i64 a3_3, .int .i64 a3_4] 69 (0, 0))) := ⟨(by rw [hw]; exact (by (with_reducible repeat (first | refine blk_drewN ?_ _ | refine blk_drew ?_ | refine blk_alloc ?_ _)); refine blk_far ?_ NB230_240.out _; (with_reducible repeat (first | refine blk_drewN ?_ _ | refine blk_drew ?_ | refine blk_alloc ?_ _)); exact BK230.out))⟩; have n4_ : Aside0 (w39.heap[gb240]? = some (.cells #[.int .i64 t234, .int .i64 (wrap64 (t235 + (wrap64 (Int.tmod a4 5)))), .int .i64 t236, .slice Ao36 t237.length co36] 63 (0, 0))) := ⟨(by rw [hw]; exact (by (with_reducible repeat (first | refine blk_drewN ?_ _ | refine blk_drew ?_ | refine blk_alloc ?_ _)); refine blk_put (cs := #[.int .i64 t234, .int .i64 t235, .int .i64 t236, .slice Ao36 t237.length co36]) ?_ 1 _ rfl; (with_reducible repeat (first | refine blk_drewN ?_ _ | refine blk_drew ?_ | refine blk_alloc ?_ _)); exact BK240.out))⟩; have n5_ : Aside0 (Below w.heap.size w w39) := ⟨(by rw [hw]; exact (by repeat (first | (with_reducible first | exact HB.out | apply below_alloc | apply bdN | apply bd1 | refine below_set ?_ GE229.out | refine below_set ?_ GE230.out | refine below_set ?_ GE240.out) | exact HB.out)))⟩; clear hw HO_231000 HO239 BK229 BK230 BK240 HB; have HO_231000 := n0_; have HO239 := n1_; have BK229 := n2_; have BK230 := n3_; have BK240 := n4_; have HB := n5_; clear n0_ n1_ n2_ n3_ n4_ n5_; have hcz40_0 : w39.cell? ⟨gb240, 0, none⟩ = some (.int .i64 t234) := (blk_cell BK240.out 0).trans rfl; have hcz40_1 : w39.cell? ⟨gb240, 1, none⟩ = some (.int .i64 (wrap64 (t235 + (wrap64 (Int.tmod a4 5))))) := (blk_cell BK240.out 1).trans rfl; have hcz40_2 : w39.cell? ⟨gb240, 2, none⟩ = some (.int .i64 t236) := (blk_cell BK240.out 2).trans rfl; have hcz40_3 : w39.cell? ⟨gb240, 3, none⟩ = some (.slice Ao36 t237.length co36) := (blk_cell BK240.out 3).trans rfl; have hfz40_0 := blk_frozen BK240.out 0; have hfz40_1 := blk_frozen BK240.out 1; have hfz40_2 := blk_frozen BK240.out 2; have hfz40_3 := blk_frozen BK240.out 3) | ((with_reducible refine gate_store (t := 3) (p := 47) rfl ?_); refine store_event (t := 3) (p := 47) (v := ?vo_w41) (w1 := (w39.setCell ⟨gb240, 2, none⟩ (.int .i64 (wrap64 (t236 + (wrap64 (Int.tmod a4 7))))))) ?hg ?ho ?hn ?hr ?_; (case ho => rfl); (case hg => rfl); (case hn => rfl); (case hr => first | (go_simp; done) | (go_simp; rfl)); intro w41 hw; have n0_ : Aside0 (Kd.V k84 84 w41 w.heap.size (fun k_ => (P3_0_ k_ ∨ w.heap.size ≤ k_) ∧ some k_ ≠ (.slice Ao36 t237.length co36 : Value).ownBlock ∧ k_ ≠ gb229 ∧ k_ ≠ gb230 ∧ k_ ≠ gb240) (.slice A3_0 l3_0.length c3_0) l3_0) := ⟨(by rw [hw]; exact (by (with_reducible repeat (first | apply Kd.V_alloc | apply Kd.V_drewN | apply Kd.V_drew)); exact Kd.V_mono (Kd.V_far (p := ⟨gb240, 2, none⟩) (Kd.V_mono HO_231000.out (fun k_ hk => (⟨hk, hk.2.2.2.2⟩ : _ ∧ k_ ≠ gb240))) (fun _ hk => hk.2) (.int .i64 (wrap64 (t236 + (wrap64 (Int.tmod a4 7)))))) (fun _ hk => ⟨hk.1.1, ⟨hk.1.2.1, ⟨hk.1.2.2.1, ⟨hk.1.2.2.2.1, hk.1.2.2.2.2⟩⟩⟩⟩)))⟩; have n1_ : Aside0 (Kd.N k69 69 w41 w.heap.size (fun k_ => (P3_0_ k_ ∨ w.heap.size ≤ k_) ∧ k_ ≠ gb229 ∧ k_ ≠ gb230 ∧ k_ ≠ gb240) (.slice Ao36 t237.length co36) t237) := ⟨(by rw [hw]; exact (by (with_reducible repeat (first | apply Kd.N_alloc | apply Kd.N_drewN | apply Kd.N_drew)); exact Kd.N_mono (Kd.N_far (p := ⟨gb240, 2, none⟩) (Kd.N_mono HO239.out (fun k_ hk => (⟨hk, hk.2.2.2⟩ : _ ∧ k_ ≠ gb240))) (fun _ hk => hk.2) (.int .i64 (wrap64 (t236 + (wrap64 (Int.tmod a4 7)))))) (fun _ hk => ⟨hk.1.1, ⟨hk.1.2.1, ⟨hk.1.2.2.1, hk.1.2.2.2⟩⟩⟩)))⟩; have n2_ : Aside0 (w41.heap[gb229]? = some (.cells #[.int .i64 a0_0, .int .i64 a0_1, .int .i64 a0_2, .slice A0_3 l0_3.length c0_3] 63 (0, 0))) := ⟨(by rw [hw]; exact (by (with_reducible repeat (first | refine blk_drewN ?_ _ | refine blk_drew ?_ | refine blk_alloc ?_ _)); refine blk_far ?_ NB229_240.out _; (with_reducible repeat (first | refine blk_drewN ?_ _ | refine blk_drew ?_ | refine blk_alloc ?_ _)); exact BK229.out))⟩; have n3_ : Aside0 (w41.heap[gb230]? = some (.cells #[.slice A3_0 l3_0.length c3_0, .int .i64 a3_1, .int .i64 a3_2, .int .i64 a3_3, .int .i64 a3_4] 69 (0, 0))) := ⟨(by rw [hw]; exact (by (with_reducible repeat (first | refine blk_drewN ?_ _ | refine blk_drew ?_ | refine blk_alloc ?_ _)); refine blk_far ?_ NB230_240.out _; (with_reducible repeat (first | refine blk_drewN ?_ _ | refine blk_drew ?_ | refine blk_alloc ?_ _)); exact BK230.out))⟩; have n4_ : Aside0 (w41.heap[gb240]? = some (.cells #[.int .i64 t234, .int .i64 (wrap64 (t235 + (wrap64 (Int.tmod a4 5)))), .int .i64 (wrap64 (t236 + (wrap64 (Int.tmod a4 7)))), .slice Ao36 t237.length co36] 63 (0, 0))) := ⟨(by rw [hw]; exact (by (with_reducible repeat (first | refine blk_drewN ?_ _ | refine blk_drew ?_ | refine blk_alloc ?_ _)); refine blk_put (cs := #[.int .i64 t234, .int .i64 (wrap64 (t235 + (wrap64 (Int.tmod a4 5)))), .int .i64 t236, .slice Ao36 t237.length co36]) ?_ 2 _ rfl; (with_reducible repeat (first | refine blk_drewN ?_ _ | refine blk_drew ?_ | refine blk_alloc ?_ _)); exact BK240.out))⟩; have n5_ : Aside0 (Below w.heap.size w w41) := ⟨(by rw [hw]; exact (by repeat (first | (with_reducible first | exact HB.out | apply below_alloc | apply bdN | apply bd1 | refine below_set ?_ GE229.out | refine below_set ?_ GE230.out | refine below_set ?_ GE240.out) | exact HB.out)))⟩; clear hw HO_231000 HO239 BK229 BK230 BK240 HB; have HO_231000 := n0_; have HO239 := n1_; have BK229 := n2_; have BK230 := n3_; have BK240 := n4_; have HB := n5_; clear n0_ n1_ n2_ n3_ n4_ n5_; have hcz42_0 : w41.cell? ⟨gb240, 0, none⟩ = some (.int .i64 t234) := (blk_cell BK240.out 0).trans rfl; have hcz42_1 : w41.cell? ⟨gb240, 1, none⟩ = some (.int .i64 (wrap64 (t235 + (wrap64 (Int.tmod a4 5))))) := (blk_cell BK240.out 1).trans rfl; have hcz42_2 : w41.cell? ⟨gb240, 2, none⟩ = some (.int .i64 (wrap64 (t236 + (wrap64 (Int.tmod a4 7))))) := (blk_cell BK240.out 2).trans rfl; have hcz42_3 : w41.cell? ⟨gb240, 3, none⟩ = some (.slice Ao36 t237.length co36) := (blk_cell BK240.out 3).trans rfl; have hfz42_0 := blk_frozen BK240.out 0; have hfz42_1 := blk_frozen BK240.out 1; have hfz42_2 := blk_frozen BK240.out 2; have hfz42_3 := blk_frozen BK240.out 3; have hcz43_0 : w41.cell? ⟨gb230, 0, none⟩ = some (.slice A3_0 l3_0.length c3_0) := (blk_cell BK230.out 0).trans rfl; have hcz43_1 : w41.cell? ⟨gb230, 1, none⟩ = some (.int .i64 a3_1) := (blk_cell BK230.out 1).trans rfl; have hcz43_2 : w41.cell? ⟨gb230, 2, none⟩ = some (.int .i64 a3_2) := (blk_cell BK230.out 2).trans rfl; have hcz43_3 : w41.cell? ⟨gb230, 3, none⟩ = some (.int .i64 a3_3) := (blk_cell BK230.out 3).trans rfl; have hcz43_4 : w41.cell? ⟨gb230, 4, none⟩ = some (.int .i64 a3_4) := (blk_cell BK230.out 4).trans rfl; have hfz43_0 := blk_frozen BK230.out 0; have hfz43_1 := blk_frozen BK230.out 1; have hfz43_2 := blk_frozen BK230.out 2; have hfz43_3 := blk_frozen BK230.out 3; have hfz43_4 := blk_frozen BK230.out 4) | ((with_reducible refine gate_builtin (b := .append) (xs := #[.tmp 49, .tmp 51]) rfl ?_); (try (refine gate_guard (by rfl) ?_; dsimp only)); at_builtin; refine Kd.N_append k69 (w0 := w) w.heap.size rfl (.tmp 49) (.tmp 51) 61 69 (.agg #[(.slice none 0 0), (.int .i64 0), (.int .i64 0), (.int .i64 0), (.int .i64 0)]) 56 rfl Try.underlying61 info69 rfl (by decide) (by omega) (.slice Ao36 t237.length co36) t237 (⟨l3_0, (⟨a3_1, a3_2, a3_3, a3_4⟩ : S48)⟩ : S69) [.slice A3_0 l3_0.length c3_0, .int .i64 a3_1, .int .i64 a3_2, .int .i64 a3_3, .int .i64 a3_4] (fun k_ => (P3_0_ k_ ∨ w.heap.size ≤ k_) ∧ k_ ≠ gb229 ∧ k_ ≠ gb230 ∧ k_ ≠ gb240) (fun k_ => ((fun k_ => (P3_0_ k_ ∨ w.heap.size ≤ k_) ∧ k_ ≠ gb229 ∧ k_ ≠ gb230 ∧ k_ ≠ gb240)) k_ ∧ some k_ ≠ (.slice Ao36 t237.length co36 : Value).ownBlock) rfl rfl ?aP (fun _ hk => hk) ?aF ?aO ?aB ?aS ?aL ?_; (case aP => exact (k69_mkF _ _ (⟨l3_0, (⟨a3_1, a3_2, a3_3, a3_4⟩ : S48)⟩ : S69) (Kd.V_reads' (Kd.V_mono (ok' := (fun k_ => ((fun k_ => (P3_0_ k_ ∨ w.heap.size ≤ k_) ∧ k_ ≠ gb229 ∧ k_ ≠ gb230 ∧ k_ ≠ gb240)) k_ ∧ some k_ ≠ (.slice Ao36 t237.length co36 : Value).ownBlock)) (HO_231000.out) (fun k_ hk => ⟨⟨hk.1, ⟨hk.2.2.1, ⟨hk.2.2.2.1, hk.2.2.2.2⟩⟩⟩, hk.2.1⟩))).2.1 (Kd.V_F (Kd.V_mono (ok' := (fun k_ => ((fun k_ => (P3_0_ k_ ∨ w.heap.size ≤ k_) ∧ k_ ≠ gb229 ∧ k_ ≠ gb230 ∧ k_ ≠ gb240)) k_ ∧ some k_ ≠ (.slice Ao36 t237.length co36 : Value).ownBlock)) (HO_231000.out) (fun k_ hk => ⟨⟨hk.1, ⟨hk.2.2.1, ⟨hk.2.2.2.1, hk.2.2.2.2⟩⟩⟩, hk.2.1⟩))))); (case aB => exact (by repeat (first | (with_reducible first | exact HB.out | apply below_alloc | apply bdN | apply bd1 | refine below_set ?_ GE229.out | refine below_set ?_ GE230.out | refine below_set ?_ GE240.out) | exact HB.out))); (case aF => exact (fun k_ hk => ⟨(.inr (Nat.le_trans (below_size (by repeat (first | (with_reducible first | exact HB.out | apply below_alloc | apply bdN | apply bd1 | refine below_set ?_ GE229.out | refine below_set ?_ GE230.out | refine below_set ?_ GE240.out) | exact HB.out))) hk)), Kd.freshB (g := gb229) (o := .cells #[.int .i64 a0_0, .int .i64 a0_1, .int .i64 a0_2, .slice A0_3 l0_3.length c0_3] 63 (0, 0)) (by (with_reducible repeat (first | refine blk_drewN ?_ _ | refine blk_drew ?_ | refine blk_alloc ?_ _)); exact BK229.out) k_ hk, Kd.freshB (g := gb230) (o := .cells #[.slice A3_0 l3_0.length c3_0, .int .i64 a3_1, .int .i64 a3_2, .int .i64 a3_3, .int .i64 a3_4] 69 (0, 0)) (by (with_reducible repeat (first | refine blk_drewN ?_ _ | refine blk_drew ?_ | refine blk_alloc ?_ _)); exact BK230.out) k_ hk, Kd.freshB (g := gb240) (o := .cells #[.int .i64 t234, .int .i64 (wrap64 (t235 + (wrap64 (Int.tmod a4 5)))), .int .i64 (wrap64 (t236 + (wrap64 (Int.tmod a4 7)))), .slice Ao36 t237.length co36] 63 (0, 0)) (by (with_reducible repeat (first | refine blk_drewN ?_ _ | refine blk_drew ?_ | refine blk_alloc ?_ _)); exact BK240.out) k_ hk⟩)); (case aO => exact (by (with_reducible repeat (first | apply Kd.N_alloc | apply Kd.N_drewN | apply Kd.N_drew)); exact HO239.out)); (case aS => exact (below_size (by repeat (first | (with_reducible first | exact HB.out | apply below_alloc | apply bdN | apply bd1 | refine below_set ?_ GE229.out | refine below_set ?_ GE230.out | refine below_set ?_ GE240.out) | exact HB.out)))); (case aL => have := LMc27.out; omega); intro v242 w44 ho hb hg hat; rw [← Ny241.out] at ho; have n0_ := As0 (Kd.V_afterv (ok := (fun k_ => (P3_0_ k_ ∨ w.heap.size ≤ k_) ∧ k_ ≠ gb229 ∧ k_ ≠ gb230 ∧ k_ ≠ gb240)) (by (with_reducible repeat (first | apply Kd.V_alloc | apply Kd.V_drewN | apply Kd.V_drew)); exact Kd.V_mono HO_231000.out (fun _ hk => ⟨⟨hk.1, ⟨hk.2.2.1, ⟨hk.2.2.2.1, hk.2.2.2.2⟩⟩⟩, hk.2.1⟩)) hg hat); have n1_ := As0 (blk_grown (g := gb229) (o := .cells #[.int .i64 a0_0, .int .i64 a0_1, .int .i64 a0_2, .slice A0_3 l0_3.length c0_3] 63 (0, 0)) (by (with_reducible repeat (first | refine blk_drewN ?_ _ | refine blk_drew ?_ | refine blk_alloc ?_ _)); exact BK229.out) hg (Kd.N_ne HO239.out BK229.out (by decide))); have n2_ := As0 (blk_grown (g := gb230) (o := .cells #[.slice A3_0 l3_0.length c3_0, .int .i64 a3_1, .int .i64 a3_2, .int .i64 a3_3, .int .i64 a3_4] 69 (0, 0)) (by (with_reducible repeat (first | refine blk_drewN ?_ _ | refine blk_drew ?_ | refine blk_alloc ?_ _)); exact BK230.out) hg (Kd.N_away HO239.out (fun _ hk => hk.2.2.1))); have n3_ := As0 (blk_grown (g := gb240) (o := .cells #[.int .i64 t234, .int .i64 (wrap64 (t235 + (wrap64 (Int.tmod a4 5)))), .int .i64 (wrap64 (t236 + (wrap64 (Int.tmod a4 7)))), .slice Ao36 t237.length co36] 63 (0, 0)) (by (with_reducible repeat (first | refine blk_drewN ?_ _ | refine blk_drew ?_ | refine blk_alloc ?_ _)); exact BK240.out) hg (Kd.N_ne HO239.out BK240.out (by decide))); have n4_ := As0 (hb); have n5_ := As0 (ho); clear HO_231000 BK229 BK230 BK240 HB HO239; have HO_231000 := n0_; have BK229 := n1_; have BK230 := n2_; have BK240 := n3_; have HB := n4_; have HO243 := n5_; clear n0_ n1_ n2_ n3_ n4_ n5_ ho hb hg hat; obtain ⟨Ao45, co45, eo45⟩ := Kd.N_slice HO243.out; subst eo45; have hcz46_0 : w44.cell? ⟨gb240, 0, none⟩ = some (.int .i64 t234) := (blk_cell BK240.out 0).trans rfl; have hcz46_1 : w44.cell? ⟨gb240, 1, none⟩ = some (.int .i64 (wrap64 (t235 + (wrap64 (Int.tmod a4 5))))) := (blk_cell BK240.out 1).trans rfl; have hcz46_2 : w44.cell? ⟨gb240, 2, none⟩ = some (.int .i64 (wrap64 (t236 + (wrap64 (Int.tmod a4 7))))) := (blk_cell BK240.out 2).trans rfl; have hcz46_3 : w44.cell? ⟨gb240, 3, none⟩ = some (.slice Ao36 t237.length co36) := (blk_cell BK240.out 3).trans rfl; have hfz46_0 := blk_frozen BK240.out 0; have hfz46_1 := blk_frozen BK240.out 1; have hfz46_2 := blk_frozen BK240.out 2; have hfz46_3 := blk_frozen BK240.out 3))
     (try simp only [Act.put, sL1, sL2, sL3])
     go_cut [61] (fun v61 wc => ∃ (kq : Nat) (x61_27 : Bool), v61 = .bool x61_27 ∧ Aside0 (regcertlaw10_ExecuteUnused.j1 kq l1 a2 x61_27 a0_0 a0_1 a0_2 l0_3 t234 (wrap64 (t235 + (wrap64 (Int.tmod a4 5)))) (wrap64 (t236 + (wrap64 (Int.tmod a4 7)))) y241 = some r) ∧ Aside0 (kq ≤ kj5) ∧ Aside0 (Kd.V k84 84 wc w.heap.size (fun k_ => (P3_0_ k_ ∨ w.heap.size ≤ k_) ∧ some k_ ≠ ((.slice Ao45 y241.length co45) : Value).ownBlock ∧ k_ ≠ gb229 ∧ k_ ≠ gb230 ∧ k_ ≠ gb240) (.slice A3_0 l3_0.length c3_0) l3_0) ∧ Aside0 (Kd.N k69 69 wc w.heap.size (fun k_ => (P3_0_ k_ ∨ w.heap.size ≤ k_) ∧ k_ ≠ gb229 ∧ k_ ≠ gb230 ∧ k_ ≠ gb240) (.slice Ao45 y241.length co45) y241) ∧ Aside0 (wc.heap[gb229]? = some (.cells #[.int .i64 a0_0, .int .i64 a0_1, .int .i64 a0_2, (.slice A0_3 l0_3.length c0_3)] 63 (0, 0))) ∧ Aside0 (wc.heap[gb230]? = some (.cells #[(.slice A3_0 l3_0.length c3_0), .int .i64 a3_1, .int .i64 a3_2, .int .i64 a3_3, .int .i64 a3_4] 69 (0, 0))) ∧ Aside0 (wc.heap[gb240]? = some (.cells #[.int .i64 t234, .int .i64 (wrap64 (t235 + (wrap64 (Int.tmod a4 5)))), .int .i64 (wrap64 (t236 + (wrap64 (Int.tmod a4 7)))), (.slice Ao45 y241.length co45)] 63 (0, 0))) ∧ Aside0 (Below w.heap.size w wc))
     case first =>
      have H := HC28.out
      clear HC28
      replace H := Option.bind_eq_some_iff.mp H
      obtain ⟨t244, A470, H⟩ := H
      replace H : (if t244 = true then ((regcertref08_Check.f kj5 t234 (wrap64 (t235 + (wrap64 (Int.tmod a4 5)))) (wrap64 (t236 + (wrap64 (Int.tmod a4 7)))) y241).bind fun t245 => (regcertlaw10_ExecuteUnused.j1 kj5 l1 a2 (t245 != 0) a0_0 a0_1 a0_2 l0_3 t234 (wrap64 (t235 + (wrap64 (Int.tmod a4 5)))) (wrap64 (t236 + (wrap64 (Int.tmod a4 7)))) y241)) else (regcertlaw10_ExecuteUnused.j1 kj5 l1 a2 true a0_0 a0_1 a0_2 l0_3 t234 (wrap64 (t235 + (wrap64 (Int.tmod a4 5)))) (wrap64 (t236 + (wrap64 (Int.tmod a4 7)))) y241)) = some r := H
      have A47 := As0 A470
      clear A470
      by_cases c48 : t244 = true
      ·subst c48
       have H1 : ((regcertref08_Check.f kj5 t234 (wrap64 (t235 + (wrap64 (Int.tmod a4 5)))) (wrap64 (t236 + (wrap64 (Int.tmod a4 7)))) y241).bind fun t245 => (regcertlaw10_ExecuteUnused.j1 kj5 l1 a2 (t245 != 0) a0_0 a0_1 a0_2 l0_3 t234 (wrap64 (t235 + (wrap64 (Int.tmod a4 5)))) (wrap64 (t236 + (wrap64 (Int.tmod a4 7)))) y241)) = some r := by rw [if_pos rfl] at H; exact H
       clear H
       have H := H1
       clear H1
       replace H := Option.bind_eq_some_iff.mp H
       obtain ⟨t245, A490, H⟩ := H
       replace H : (regcertlaw10_ExecuteUnused.j1 kj5 l1 a2 (t245 != 0) a0_0 a0_1 a0_2 l0_3 t234 (wrap64 (t235 + (wrap64 (Int.tmod a4 5)))) (wrap64 (t236 + (wrap64 (Int.tmod a4 7)))) y241) = some r := H
       have A49 := As0 A490
       clear A490
       have H' := As0 H
       clear H
       have hnb50 := NB240_229.out
       have hnc50 := NB229_240.out
       have hnb51 := NB240_230.out
       have hnc51 := NB230_240.out
       have hcz52_0 : w44.cell? ⟨gb240, 0, none⟩ = some (.int .i64 t234) := (blk_cell BK240.out 0).trans rfl
       have hcz52_1 : w44.cell? ⟨gb240, 1, none⟩ = some (.int .i64 (wrap64 (t235 + (wrap64 (Int.tmod a4 5))))) := (blk_cell BK240.out 1).trans rfl
       have hcz52_2 : w44.cell? ⟨gb240, 2, none⟩ = some (.int .i64 (wrap64 (t236 + (wrap64 (Int.tmod a4 7))))) := (blk_cell BK240.out 2).trans rfl
       have hcz52_3 : w44.cell? ⟨gb240, 3, none⟩ = some (.slice Ao36 t237.length co36) := (blk_cell BK240.out 3).trans rfl
       have hfz52_0 := blk_frozen BK240.out 0
       have hfz52_1 := blk_frozen BK240.out 1
       have hfz52_2 := blk_frozen BK240.out 2
       have hfz52_3 := blk_frozen BK240.out 3
       go_wp2_with (first | ((with_reducible refine gate_callee (f := 48) rfl ?_); refine goesL_ (some 55) rfl rfl Try.func48 (by kernel_rfl) rfl #[.agg #[.int .i64 t234, .int .i64 (wrap64 (t235 + (wrap64 (Int.tmod a4 5)))), .int .i64 (wrap64 (t236 + (wrap64 (Int.tmod a4 7)))), .slice Ao45 y241.length co45]] rfl (by (try simp only [List.map_toArray, List.map_cons, List.map_nil]); first | done | rfl | (simp only [List.length_drop, List.length_take]; rfl)) ?_; (with_reducible refine (regcertref08_Few.calls kj5 t234 (wrap64 (t235 + (wrap64 (Int.tmod a4 5)))) (wrap64 (t236 + (wrap64 (Int.tmod a4 7)))) _ _ y241 true _ ?side1 ?side2 A47.out).mono ?_); (case side1 => refine (Kd.N_reads' (e := 69) (base := w.heap.size) (ok := fun k_ => ((P3_0_ k_ ∨ w.heap.size ≤ k_) ∧ (k_ ≠ gb229 ∧ (k_ ≠ gb230 ∧ k_ ≠ gb240)))) (n := y241.length) (c := co45) ?_).2.2; exact (by (with_reducible repeat (first | apply Kd.N_alloc | apply Kd.N_drewN | apply Kd.N_drew)); exact (Kd.N_mono (Kd.N_far (p := ⟨gb240, 3, none⟩) (Kd.N_mono HO243.out (fun k_ hk => (⟨hk, hk.2.2.2⟩ : _ ∧ k_ ≠ gb240))) (fun _ hk => hk.2) (.slice Ao45 y241.length co45)) (fun _ h_ => h_.1)))); (case side2 => exact (Kd.N_reads' HO243.out).2.1); rintro e w53 ⟨rfl, hb⟩; refine ⟨_, rfl, ?_⟩; have n0_ := As0 (Kd.V_below (by (with_reducible repeat (first | apply Kd.V_alloc | apply Kd.V_drewN | apply Kd.V_drew)); exact (Kd.V_mono (Kd.V_far (p := ⟨gb240, 3, none⟩) (Kd.V_mono HO_231000.out (fun k_ hk => (⟨hk, hk.1.2.2.2⟩ : _ ∧ k_ ≠ gb240))) (fun _ hk => hk.2) (.slice Ao45 y241.length co45)) (fun _ h_ => h_.1))) hb); have n1_ := As0 (Kd.N_below (by (with_reducible repeat (first | apply Kd.N_alloc | apply Kd.N_drewN | apply Kd.N_drew)); exact (Kd.N_mono (Kd.N_far (p := ⟨gb240, 3, none⟩) (Kd.N_mono HO243.out (fun k_ hk => (⟨hk, hk.2.2.2⟩ : _ ∧ k_ ≠ gb240))) (fun _ hk => hk.2) (.slice Ao45 y241.length co45)) (fun _ h_ => h_.1))) hb); have n2_ := As0 (blk_below (g := gb229) (o := .cells #[.int .i64 a0_0, .int .i64 a0_1, .int .i64 a0_2, .slice A0_3 l0_3.length c0_3] 63 (0, 0)) (by (with_reducible repeat (first | refine blk_drewN ?_ _ | refine blk_drew ?_ | refine blk_alloc ?_ _)); refine blk_far ?_ NB229_240.out _; (with_reducible repeat (first | refine blk_drewN ?_ _ | refine blk_drew ?_ | refine blk_alloc ?_ _)); exact BK229.out) hb); have n3_ := As0 (blk_below (g := gb230) (o := .cells #[.slice A3_0 l3_0.length c3_0, .int .i64 a3_1, .int .i64 a3_2, .int .i64 a3_3, .int .i64 a3_4] 69 (0, 0)) (by (with_reducible repeat (first | refine blk_drewN ?_ _ | refine blk_drew ?_ | refine blk_alloc ?_ _)); refine blk_far ?_ NB230_240.out _; (with_reducible repeat (first | refine blk_drewN ?_ _ | refine blk_drew ?_ | refine blk_alloc ?_ _)); exact BK230.out) hb); have n4_ := As0 (blk_below (g := gb240) (o := .cells #[.int .i64 t234, .int .i64 (wrap64 (t235 + (wrap64 (Int.tmod a4 5)))), .int .i64 (wrap64 (t236 + (wrap64 (Int.tmod a4 7)))), .slice Ao45 y241.length co45] 63 (0, 0)) (by (with_reducible repeat (first | refine blk_drewN ?_ _ | refine blk_drew ?_ | refine blk_alloc ?_ _)); refine blk_put (cs := #[.int .i64 t234, .int .i64 (wrap64 (t235 + (wrap64 (Int.tmod a4 5)))), .int .i64 (wrap64 (t236 + (wrap64 (Int.tmod a4 7)))), .slice Ao36 t237.length co36]) ?_ 3 _ rfl; (with_reducible repeat (first | refine blk_drewN ?_ _ | refine blk_drew ?_ | refine blk_alloc ?_ _)); exact BK240.out) hb); have n5_ := As0 (below_step (by repeat (first | (with_reducible first | exact HB.out | apply below_alloc | apply bdN | apply bd1 | refine below_set ?_ GE229.out | refine below_set ?_ GE230.out | refine below_set ?_ GE240.out) | exact HB.out)) hb); clear HO_231000 HO243 BK229 BK230 BK240 HB; have HO_231000 := n0_; have HO243 := n1_; have BK229 := n2_; have BK230 := n3_; have BK240 := n4_; have HB := n5_; clear n0_ n1_ n2_ n3_ n4_ n5_; (try clear hb); (try clear hb2); (try clear hk); (try clear hi); have hcz54_0 : w53.cell? ⟨gb240, 0, none⟩ = some (.int .i64 t234) := (blk_cell BK240.out 0).trans rfl; have hcz54_1 : w53.cell? ⟨gb240, 1, none⟩ = some (.int .i64 (wrap64 (t235 + (wrap64 (Int.tmod a4 5))))) := (blk_cell BK240.out 1).trans rfl; have hcz54_2 : w53.cell? ⟨gb240, 2, none⟩ = some (.int .i64 (wrap64 (t236 + (wrap64 (Int.tmod a4 7))))) := (blk_cell BK240.out 2).trans rfl; have hcz54_3 : w53.cell? ⟨gb240, 3, none⟩ = some (.slice Ao45 y241.length co45) := (blk_cell BK240.out 3).trans rfl; have hfz54_0 := blk_frozen BK240.out 0; have hfz54_1 := blk_frozen BK240.out 1; have hfz54_2 := blk_frozen BK240.out 2; have hfz54_3 := blk_frozen BK240.out 3) | (go_at_call 49; (with_reducible refine (regcertref08_Check.calls kj5 t234 (wrap64 (t235 + (wrap64 (Int.tmod a4 5)))) (wrap64 (t236 + (wrap64 (Int.tmod a4 7)))) _ _ y241 t245 _ ?side1 ?side2 A49.out).mono ?_); (case side1 => repeat (first | exact (Kd.N_reads' HO243.out).2.2 | (with_reducible refine Kd.C_alloc ?_ _) | (with_reducible refine Kd.C_drewN ?_ _) | (with_reducible refine Kd.C_drew ?_))); (case side2 => exact (Kd.N_reads' HO243.out).2.1); rintro e w55 ⟨rfl, hb⟩; have n0_ := As0 (Kd.V_below (by (with_reducible repeat (first | apply Kd.V_alloc | apply Kd.V_drewN | apply Kd.V_drew)); exact HO_231000.out) hb); have n1_ := As0 (Kd.N_below (by (with_reducible repeat (first | apply Kd.N_alloc | apply Kd.N_drewN | apply Kd.N_drew)); exact HO243.out) hb); have n2_ := As0 (blk_below (g := gb229) (o := .cells #[.int .i64 a0_0, .int .i64 a0_1, .int .i64 a0_2, .slice A0_3 l0_3.length c0_3] 63 (0, 0)) (by (with_reducible repeat (first | refine blk_drewN ?_ _ | refine blk_drew ?_ | refine blk_alloc ?_ _)); exact BK229.out) hb); have n3_ := As0 (blk_below (g := gb230) (o := .cells #[.slice A3_0 l3_0.length c3_0, .int .i64 a3_1, .int .i64 a3_2, .int .i64 a3_3, .int .i64 a3_4] 69 (0, 0)) (by (with_reducible repeat (first | refine blk_drewN ?_ _ | refine blk_drew ?_ | refine blk_alloc ?_ _)); exact BK230.out) hb); have n4_ := As0 (blk_below (g := gb240) (o := .cells #[.int .i64 t234, .int .i64 (wrap64 (t235 + (wrap64 (Int.tmod a4 5)))), .int .i64 (wrap64 (t236 + (wrap64 (Int.tmod a4 7)))), .slice Ao45 y241.length co45] 63 (0, 0)) (by (with_reducible repeat (first | refine blk_drewN ?_ _ | refine blk_drew ?_ | refine blk_alloc ?_ _)); exact BK240.out) hb); have n5_ := As0 (below_step (by repeat (first | (with_reducible first | exact HB.out | apply below_alloc | apply bdN | apply bd1 | refine below_set ?_ GE229.out | refine below_set ?_ GE230.out | refine below_set ?_ GE240.out) | exact HB.out)) hb); clear HO_231000 HO243 BK229 BK230 BK240 HB; have HO_231000 := n0_; have HO243 := n1_; have BK229 := n2_; have BK230 := n3_; have BK240 := n4_; have HB := n5_; clear n0_ n1_ n2_ n3_ n4_ n5_; (try clear hb); (try clear hb2); (try clear hk); (try clear hi)))
       go_meet
       case rel => exact ⟨_, ((t245 != 0)), (by first | rfl | (simp; done) | (simp [*]; done)), H', ⟨by have := HJ5.out; first | omega | exact Nat.le_refl _⟩, ⟨by (with_reducible repeat (first | apply Kd.V_alloc | apply Kd.V_drewN | apply Kd.V_drew)); exact Kd.V_mono HO_231000.out (fun _ hk => ⟨hk.1.1, ⟨hk.2, ⟨hk.1.2.1, ⟨hk.1.2.2.1, hk.1.2.2.2⟩⟩⟩⟩)⟩, ⟨by (with_reducible repeat (first | apply Kd.N_alloc | apply Kd.N_drewN | apply Kd.N_drew)); exact HO243.out⟩, ⟨by (with_reducible repeat (first | refine blk_drewN ?_ _ | refine blk_drew ?_ | refine blk_alloc ?_ _)); exact BK229.out⟩, ⟨by (with_reducible repeat (first | refine blk_drewN ?_ _ | refine blk_drew ?_ | refine blk_alloc ?_ _)); exact BK230.out⟩, ⟨by (with_reducible repeat (first | refine blk_drewN ?_ _ | refine blk_drew ?_ | refine blk_alloc ?_ _)); exact BK240.out⟩, ⟨by repeat (first | (with_reducible first | exact HB.out | apply below_alloc | apply bdN | apply bd1 | refine below_set ?_ GE229.out | refine below_set ?_ GE230.out | refine below_set ?_ GE240.out) | exact HB.out)⟩⟩
      ·replace c48 := Bool.eq_false_iff.mpr c48
       subst c48
       have H1 : (regcertlaw10_ExecuteUnused.j1 kj5 l1 a2 true a0_0 a0_1 a0_2 l0_3 t234 (wrap64 (t235 + (wrap64 (Int.tmod a4 5)))) (wrap64 (t236 + (wrap64 (Int.tmod a4 7)))) y241) = some r := by rw [if_neg (show ¬ (false = true) by decide)] at H; exact H
       clear H
       have H := H1
       clear H1
       have H' := As0 H
       clear H
       have hnb56 := NB240_229.out
       have hnc56 := NB229_240.out
       have hnb57 := NB240_230.out
       have hnc57 := NB230_240.out
       have hcz58_0 : w44.cell? ⟨gb240, 0, none⟩ = some (.int .i64 t234) := (blk_cell BK240.out 0).trans rfl
       have hcz58_1 : w44.cell? ⟨gb240, 1, none⟩ = some (.int .i64 (wrap64 (t235 + (wrap64 (Int.tmod a4 5))))) := (blk_cell BK240.out 1).trans rfl
       have hcz58_2 : w44.cell? ⟨gb240, 2, none⟩ = some (.int .i64 (wrap64 (t236 + (wrap64 (Int.tmod a4 7))))) := (blk_cell BK240.out 2).trans rfl
       have hcz58_3 : w44.cell? ⟨gb240, 3, none⟩ = some (.slice Ao36 t237.length co36) := (blk_cell BK240.out 3).trans rfl
       have hfz58_0 := blk_frozen BK240.out 0
       have hfz58_1 := blk_frozen BK240.out 1
       have hfz58_2 := blk_frozen BK240.out 2
       have hfz58_3 := blk_frozen BK240.out 3
       go_wp2_with (first | ((with_reducible refine gate_callee (f := 48) rfl ?_); refine goesL_ (some 55) rfl rfl Try.func48 (by kernel_rfl) rfl #[.agg #[.int .i64 t234, .int .i64 (wrap64 (t235 + (wrap64 (Int.tmod a4 5)))), .int .i64 (wrap64 (t236 + (wrap64 (Int.tmod a4 7)))), .slice Ao45 y241.length co45]] rfl (by (try simp only [List.map_toArray, List.map_cons, List.map_nil]); first | done | rfl | (simp only [List.length_drop, List.length_take]; rfl)) ?_; (with_reducible refine (regcertref08_Few.calls kj5 t234 (wrap64 (t235 + (wrap64 (Int.tmod a4 5)))) (wrap64 (t236 + (wrap64 (Int.tmod a4 7)))) _ _ y241 false _ ?side1 ?side2 A47.out).mono ?_); (case side1 => refine (Kd.N_reads' (e := 69) (base := w.heap.size) (ok := fun k_ => ((P3_0_ k_ ∨ w.heap.size ≤ k_) ∧ (k_ ≠ gb229 ∧ (k_ ≠ gb230 ∧ k_ ≠ gb240)))) (n := y241.length) (c := co45) ?_).2.2; exact (by (with_reducible repeat (first | apply Kd.N_alloc | apply Kd.N_drewN | apply Kd.N_drew)); exact (Kd.N_mono (Kd.N_far (p := ⟨gb240, 3, none⟩) (Kd.N_mono HO243.out (fun k_ hk => (⟨hk, hk.2.2.2⟩ : _ ∧ k_ ≠ gb240))) (fun _ hk => hk.2) (.slice Ao45 y241.length co45)) (fun _ h_ => h_.1)))); (case side2 => exact (Kd.N_reads' HO243.out).2.1); rintro e w59 ⟨rfl, hb⟩; refine ⟨_, rfl, ?_⟩; have n0_ := As0 (Kd.V_below (by (with_reducible repeat (first | apply Kd.V_alloc | apply Kd.V_drewN | apply Kd.V_drew)); exact (Kd.V_mono (Kd.V_far (p := ⟨gb240, 3, none⟩) (Kd.V_mono HO_231000.out (fun k_ hk => (⟨hk, hk.1.2.2.2⟩ : _ ∧ k_ ≠ gb240))) (fun _ hk => hk.2) (.slice Ao45 y241.length co45)) (fun _ h_ => h_.1))) hb); have n1_ := As0 (Kd.N_below (by (with_reducible repeat (first | apply Kd.N_alloc | apply Kd.N_drewN | apply Kd.N_drew)); exact (Kd.N_mono (Kd.N_far (p := ⟨gb240, 3, none⟩) (Kd.N_mono HO243.out (fun k_ hk => (⟨hk, hk.2.2.2⟩ : _ ∧ k_ ≠ gb240))) (fun _ hk => hk.2) (.slice Ao45 y241.length co45)) (fun _ h_ => h_.1))) hb); have n2_ := As0 (blk_below (g := gb229) (o := .cells #[.int .i64 a0_0, .int .i64 a0_1, .int .i64 a0_2, .slice A0_3 l0_3.length c0_3] 63 (0, 0)) (by (with_reducible repeat (first | refine blk_drewN ?_ _ | refine blk_drew ?_ | refine blk_alloc ?_ _)); refine blk_far ?_ NB229_240.out _; (with_reducible repeat (first | refine blk_drewN ?_ _ | refine blk_drew ?_ | refine blk_alloc ?_ _)); exact BK229.out) hb); have n3_ := As0 (blk_below (g := gb230) (o := .cells #[.slice A3_0 l3_0.length c3_0, .int .i64 a3_1, .int .i64 a3_2, .int .i64 a3_3, .int .i64 a3_4] 69 (0, 0)) (by (with_reducible repeat (first | refine blk_drewN ?_ _ | refine blk_drew ?_ | refine blk_alloc ?_ _)); refine blk_far ?_ NB230_240.out _; (with_reducible repeat (first | refine blk_drewN ?_ _ | refine blk_drew ?_ | refine blk_alloc ?_ _)); exact BK230.out) hb); have n4_ := As0 (blk_below (g := gb240) (o := .cells #[.int .i64 t234, .int .i64 (wrap64 (t235 + (wrap64 (Int.tmod a4 5)))), .int .i64 (wrap64 (t236 + (wrap64 (Int.tmod a4 7)))), .slice Ao45 y241.length co45] 63 (0, 0)) (by (with_reducible repeat (first | refine blk_drewN ?_ _ | refine blk_drew ?_ | refine blk_alloc ?_ _)); refine blk_put (cs := #[.int .i64 t234, .int .i64 (wrap64 (t235 + (wrap64 (Int.tmod a4 5)))), .int .i64 (wrap64 (t236 + (wrap64 (Int.tmod a4 7)))), .slice Ao36 t237.length co36]) ?_ 3 _ rfl; (with_reducible repeat (first | refine blk_drewN ?_ _ | refine blk_drew ?_ | refine blk_alloc ?_ _)); exact BK240.out) hb); have n5_ := As0 (below_step (by repeat (first | (with_reducible first | exact HB.out | apply below_alloc | apply bdN | apply bd1 | refine below_set ?_ GE229.out | refine below_set ?_ GE230.out | refine below_set ?_ GE240.out) | exact HB.out)) hb); clear HO_231000 HO243 BK229 BK230 BK240 HB; have HO_231000 := n0_; have HO243 := n1_; have BK229 := n2_; have BK230 := n3_; have BK240 := n4_; have HB := n5_; clear n0_ n1_ n2_ n3_ n4_ n5_; (try clear hb); (try clear hb2); (try clear hk); (try clear hi)))
       go_meet
       case rel => exact ⟨_, (true), (by first | rfl | (simp; done) | (simp [*]; done)), H', ⟨by have := HJ5.out; first | omega | exact Nat.le_refl _⟩, ⟨by (with_reducible repeat (first | apply Kd.V_alloc | apply Kd.V_drewN | apply Kd.V_drew)); exact Kd.V_mono HO_231000.out (fun _ hk => ⟨hk.1.1, ⟨hk.2, ⟨hk.1.2.1, ⟨hk.1.2.2.1, hk.1.2.2.2⟩⟩⟩⟩)⟩, ⟨by (with_reducible repeat (first | apply Kd.N_alloc | apply Kd.N_drewN | apply Kd.N_drew)); exact HO243.out⟩, ⟨by (with_reducible repeat (first | refine blk_drewN ?_ _ | refine blk_drew ?_ | refine blk_alloc ?_ _)); exact BK229.out⟩, ⟨by (with_reducible repeat (first | refine blk_drewN ?_ _ | refine blk_drew ?_ | refine blk_alloc ?_ _)); exact BK230.out⟩, ⟨by (with_reducible repeat (first | refine blk_drewN ?_ _ | refine blk_drew ?_ | refine blk_alloc ?_ _)); exact BK240.out⟩, ⟨by repeat (first | (with_reducible first | exact HB.out | apply below_alloc | apply bdN | apply bd1 | refine below_set ?_ GE229.out | refine below_set ?_ GE230.out | refine below_set ?_ GE240.out) | exact HB.out)⟩⟩
     case rest =>
      clear HC28
      try clear c1
      try clear c2
      try clear p2
      try clear c3
      try clear c4
      try clear c5
      try clear p6
      try clear c10
      try clear c12
      try clear c14
      try clear c19
      try clear c23
      try clear c27
      try clear c29
      try clear c33
      try clear c34
      try clear c44
      try clear c47
      try clear c48
      try clear c50
      try clear c51
      try clear c56
      try clear c57
      try clear hcz15_0
      try clear hcz15_1
      try clear hcz15_2
      try clear hcz15_3
      try clear hcz17_0
      try clear hcz17_1
      try clear hcz17_2
      try clear hcz17_3
      try clear hcz20_0
      try clear hcz20_1
      try clear hcz20_2
      try clear hcz20_3
      try clear hcz30_0
      try clear hcz30_1
      try clear hcz30_2
      try clear hcz30_3
      try clear hcz35_0
      try clear hcz35_1
      try clear hcz35_2
      try clear hcz35_3
      try clear hcz38_0
      try clear hcz38_1
      try clear hcz38_2
      try clear hcz38_3
      try clear hcz40_0
      try clear hcz40_1
      try clear hcz40_2
      try clear hcz40_3
      try clear hcz42_0
      try clear hcz42_1
      try clear hcz42_2
      try clear hcz42_3
      try clear hcz43_0
      try clear hcz43_1
      try clear hcz43_2
      try clear hcz43_3
      try clear hcz43_4
      try clear hcz46_0
      try clear hcz46_1
      try clear hcz46_2
      try clear hcz46_3
      try clear hcz52_0
      try clear hcz52_1
      try clear hcz52_2
      try clear hcz52_3
      try clear hcz54_0
      try clear hcz54_1
      try clear hcz54_2
      try clear hcz54_3
      try clear hcz58_0
      try clear hcz58_1
      try clear hcz58_2
      try clear hcz58_3
      try clear hfz15_0
      try clear hfz15_1
      try clear hfz15_2
      try clear hfz15_3
      try clear hfz17_0
      try clear hfz17_1
      try clear hfz17_2
      try clear hfz17_3
      try clear hfz20_0
      try clear hfz20_1
      try clear hfz20_2
      try clear hfz20_3
      try clear hfz30_0
      try clear hfz30_1
      try clear hfz30_2
      try clear hfz30_3
      try clear hfz35_0
      try clear hfz35_1
      try clear hfz35_2
      try clear hfz35_3
      try clear hfz38_0
      try clear hfz38_1
      try clear hfz38_2
      try clear hfz38_3
      try clear hfz40_0
      try clear hfz40_1
      try clear hfz40_2
      try clear hfz40_3
      try clear hfz42_0
      try clear hfz42_1
      try clear hfz42_2
      try clear hfz42_3
      try clear hfz43_0
      try clear hfz43_1
      try clear hfz43_2
      try clear hfz43_3
      try clear hfz43_4
      try clear hfz46_0
      try clear hfz46_1
      try clear hfz46_2
      try clear hfz46_3
      try clear hfz52_0
      try clear hfz52_1
      try clear hfz52_2
      try clear hfz52_3
      try clear hfz54_0
      try clear hfz54_1
      try clear hfz54_2
      try clear hfz54_3
      try clear hfz58_0
      try clear hfz58_1
      try clear hfz58_2
      try clear hfz58_3
      try clear p2
      obtain ⟨kq, x61_27, rfl, HA, HJ27, HO_231000, HO_241003, BK229, BK230, BK240, HB⟩ := hcut
      cases kq with
      | zero => exact absurd HA.out (by simp [regcertlaw10_ExecuteUnused.j1])
      | succ kj27 =>
       have H := HA.out
       clear HA
       simp only [regcertlaw10_ExecuteUnused.j1] at H
       by_cases c60 : x61_27 = true
       ·subst c60
        have H1 : (some true) = some r := by rw [if_pos rfl] at H; exact H
        clear H
        have H := H1
        clear H1
        obtain rfl := Option.some.inj H
        go_wp2
        go_ret
        exact ⟨by first | rfl | (simp [errW_none, errW_some] <;> rfl) | (simp [*, errW_none, errW_some] <;> rfl), by repeat (first | (with_reducible first | exact HB.out | apply below_alloc | apply bdN | apply bd1 | refine below_set ?_ GE229.out | refine below_set ?_ GE230.out | refine below_set ?_ GE240.out) | exact HB.out)⟩
       ·replace c60 := Bool.eq_false_iff.mpr c60
        subst c60
        have H1 : ((execute_Exec.f kj27 a0_0 a0_1 a0_2 l0_3 l1 (wrap64 (a2))).bind fun bt246 => ((execute_Exec.f kj27 t234 (wrap64 (t235 + (wrap64 (Int.tmod a4 5)))) (wrap64 (t236 + (wrap64 (Int.tmod a4 7)))) y241 l1 (wrap64 (a2))).bind fun bt262 => (if bt246.1 = bt262.1 then (if bt246.2.2.2.1 = bt262.2.2.2.1 then (if bt246.2.2.2.2.2.2.2.1 = bt262.2.2.2.2.2.2.2.1 then (if bt246.2.1 = bt262.2.1 then (if bt246.2.2.1 = bt262.2.2.1 then ((regcertref09_Values.f kj27 bt246.2.2.2.2.2.2.1 bt262.2.2.2.2.2.2.1).bind fun t278 => (if t278 = true then ((regcertref09_Prefix.f kj27 bt246.2.2.2.2.1 bt262.2.2.2.2.1).bind fun t279 => (if t279 = true then ((regcertref09_Prefix.f kj27 bt246.2.2.2.2.2.1 bt262.2.2.2.2.2.1).bind fun t280 => (some t280)) else (none))) else (none))) else (none)) else (none)) else (none)) else (none)) else (none)))) = some r := by rw [if_neg (show ¬ (false = true) by decide)] at H; exact H
        clear H
        have H := H1
        clear H1
        replace H := Option.bind_eq_some_iff.mp H
        obtain ⟨⟨t246, t247, t248, t249, t250, t253, t256, t259, t260⟩, A610, H⟩ := H
        replace H : ((execute_Exec.f kj27 t234 (wrap64 (t235 + (wrap64 (Int.tmod a4 5)))) (wrap64 (t236 + (wrap64 (Int.tmod a4 7)))) y241 l1 (wrap64 (a2))).bind fun bt262 => (if t246 = bt262.1 then (if t249 = bt262.2.2.2.1 then (if t259 = bt262.2.2.2.2.2.2.2.1 then (if t247 = bt262.2.1 then (if t248 = bt262.2.2.1 then ((regcertref09_Values.f kj27 t256 bt262.2.2.2.2.2.2.1).bind fun t278 => (if t278 = true then ((regcertref09_Prefix.f kj27 t250 bt262.2.2.2.2.1).bind fun t279 => (if t279 = true then ((regcertref09_Prefix.f kj27 t253 bt262.2.2.2.2.2.1).bind fun t280 => (some t280)) else (none))) else (none))) else (none)) else (none)) else (none)) else (none)) else (none))) = some r := H
        have A61 := As0 A610
        clear A610
        replace H := Option.bind_eq_some_iff.mp H
        obtain ⟨⟨t262, t263, t264, t265, t266, t269, t272, t275, t276⟩, A620, H⟩ := H
        replace H : (if t246 = t262 then (if t249 = t265 then (if t259 = t275 then (if t247 = t263 then (if t248 = t264 then ((regcertref09_Values.f kj27 t256 t272).bind fun t278 => (if t278 = true then ((regcertref09_Prefix.f kj27 t250 t266).bind fun t279 => (if t279 = true then ((regcertref09_Prefix.f kj27 t253 t269).bind fun t280 => (some t280)) else (none))) else (none))) else (none)) else (none)) else (none)) else (none)) else (none)) = some r := H
        have A62 := As0 A620
        clear A620
        by_cases c63 : t246 = t262
        ·rw [if_pos c63] at H
         have c63b0 : (t246 == t262) = true := beq_iff_eq.mpr c63
         have c63b1 : (t246 != t262) = false := bne_eq_false_iff_eq.mpr c63
         clear c63
         by_cases c64 : t249 = t265
         ·rw [if_pos c64] at H
          have c64b0 : (t249 == t265) = true := beq_iff_eq.mpr c64
          have c64b1 : (t249 != t265) = false := bne_eq_false_iff_eq.mpr c64
          clear c64
          by_cases c65 : t259 = t275
          ·rw [if_pos c65] at H
           have c65b0 : (t259 == t275) = true := beq_iff_eq.mpr c65
           have c65b1 : (t259 != t275) = false := bne_eq_false_iff_eq.mpr c65
           clear c65
           by_cases c66 : t247 = t263
           ·rw [if_pos c66] at H
            have c66b0 : (t247 == t263) = true := beq_iff_eq.mpr c66
            have c66b1 : (t247 != t263) = false := bne_eq_false_iff_eq.mpr c66
            clear c66
            by_cases c67 : t248 = t264
            ·rw [if_pos c67] at H
             have c67b0 : (t248 == t264) = true := beq_iff_eq.mpr c67
             have c67b1 : (t248 != t264) = false := bne_eq_false_iff_eq.mpr c67
             clear c67
             replace H := Option.bind_eq_some_iff.mp H
             obtain ⟨t278, A680, H⟩ := H
             replace H : (if t278 = true then ((regcertref09_Prefix.f kj27 t250 t266).bind fun t279 => (if t279 = true then ((regcertref09_Prefix.f kj27 t253 t269).bind fun t280 => (some t280)) else (none))) else (none)) = some r := H
             have A68 := As0 A680
             clear A680
             by_cases c69 : t278 = true
             ·subst c69
              have H1 : ((regcertref09_Prefix.f kj27 t250 t266).bind fun t279 => (if t279 = true then ((regcertref09_Prefix.f kj27 t253 t269).bind fun t280 => (some t280)) else (none))) = some r := by rw [if_pos rfl] at H; exact H
              clear H
              have H := H1
              clear H1
              replace H := Option.bind_eq_some_iff.mp H
              obtain ⟨t279, A700, H⟩ := H
              replace H : (if t279 = true then ((regcertref09_Prefix.f kj27 t253 t269).bind fun t280 => (some t280)) else (none)) = some r := H
              have A70 := As0 A700
              clear A700
              by_cases c71 : t279 = true
              ·subst c71
               have H1 : ((regcertref09_Prefix.f kj27 t253 t269).bind fun t280 => (some t280)) = some r := by rw [if_pos rfl] at H; exact H
               clear H
               have H := H1
               clear H1
               replace H := Option.bind_eq_some_iff.mp H
               obtain ⟨t280, A720, H⟩ := H
               replace H : (some t280) = some r := H
               have A72 := As0 A720
               clear A720
               obtain rfl := Option.some.inj H
               have hnb73 := NB229_230.out
               have hnc73 := NB230_229.out
               have hnb74 := NB229_240.out
               have hnc74 := NB240_229.out
               have hcz75_0 : wc.cell? ⟨gb229, 0, none⟩ = some (.int .i64 a0_0) := (blk_cell BK229.out 0).trans rfl
               have hcz75_1 : wc.cell? ⟨gb229, 1, none⟩ = some (.int .i64 a0_1) := (blk_cell BK229.out 1).trans rfl
               have hcz75_2 : wc.cell? ⟨gb229, 2, none⟩ = some (.int .i64 a0_2) := (blk_cell BK229.out 2).trans rfl
               have hcz75_3 : wc.cell? ⟨gb229, 3, none⟩ = some (.slice A0_3 l0_3.length c0_3) := (blk_cell BK229.out 3).trans rfl
               have hfz75_0 := blk_frozen BK229.out 0
               have hfz75_1 := blk_frozen BK229.out 1
               have hfz75_2 := blk_frozen BK229.out 2
               have hfz75_3 := blk_frozen BK229.out 3
               go_wp2_with (first | ((with_reducible refine gate_callee (f := 46) rfl ?_); refine goesL_ (some 67) rfl rfl Try.func46 (by kernel_rfl) rfl #[.agg #[.int .i64 a0_0, .int .i64 a0_1, .int .i64 a0_2, .slice A0_3 l0_3.length c0_3], .slice A1 l1.length c1, .int .i64 (wrap64 (a2))] rfl (by (try simp only [List.map_toArray, List.map_cons, List.map_nil]); first | done | rfl | (simp only [List.length_drop, List.length_take]; rfl)) ?_; (with_reducible refine (execute_Exec.calls kj27 a0_0 a0_1 a0_2 _ _ l0_3 _ _ l1 (wrap64 (a2)) t246 t247 t248 t249 t250 t253 t256 t259 t260 _ ?side1 ?side2 ?side3 ?side4 A61.out).mono ?_); (case side1 => repeat (first | exact (Kd.C_below HR0_3.out HB.out) | (with_reducible refine Kd.C_alloc ?_ _) | (with_reducible refine Kd.C_drewN ?_ _) | (with_reducible refine Kd.C_drew ?_))); (case side2 => exact HC0_3.out); (case side3 => repeat (first | exact (Kd.C_below HR1.out HB.out) | (with_reducible refine Kd.C_alloc ?_ _) | (with_reducible refine Kd.C_drewN ?_ _) | (with_reducible refine Kd.C_drew ?_))); (case side4 => exact HC1.out); rintro e w76 ⟨v251, v254, v257, rfl, ho0, ho1, ho2, hb⟩; refine ⟨_, rfl, ?_⟩; have n0_ := As0 (Kd.V_mono (Kd.V_told (Kd.V_told (Kd.V_told (Kd.V_old (by (with_reducible repeat (first | apply Kd.V_alloc | apply Kd.V_drewN | apply Kd.V_drew)); exact HO_231000.out) hb) (Kd.R_base ho0)) (Kd.R_base ho1)) (Kd.R_base ho2)) (fun _ h_ => h_.1)); have n1_ := As0 (Kd.N_mono (Kd.N_told (Kd.N_told (Kd.N_told (Kd.N_old (by (with_reducible repeat (first | apply Kd.N_alloc | apply Kd.N_drewN | apply Kd.N_drew)); exact HO_241003.out) hb) (Kd.R_base ho0)) (Kd.R_base ho1)) (Kd.R_base ho2)) (fun _ h_ => h_.1)); have n2_ := As0 (Kd.R_lower (Kd.R_newM (M := fun k_ => (w.heap.size ≤ k_)) ho0 (below_size (by repeat (first | (with_reducible first | exact HB.out | apply below_alloc | apply bdN | apply bd1 | refine below_set ?_ GE229.out | refine below_set ?_ GE230.out | refine below_set ?_ GE240.out) | exact HB.out))) (fun k_ h_ => h_)) (below_size (by repeat (first | (with_reducible first | exact HB.out | apply below_alloc | apply bdN | apply bd1 | refine below_set ?_ GE229.out | refine below_set ?_ GE230.out | refine below_set ?_ GE240.out) | exact HB.out)))); have n3_ := As0 (Kd.R_lower (Kd.R_newM (M := fun k_ => (w.heap.size ≤ k_)) ho1 (below_size (by repeat (first | (with_reducible first | exact HB.out | apply below_alloc | apply bdN | apply bd1 | refine below_set ?_ GE229.out | refine below_set ?_ GE230.out | refine below_set ?_ GE240.out) | exact HB.out))) (fun k_ h_ => h_)) (below_size (by repeat (first | (with_reducible first | exact HB.out | apply below_alloc | apply bdN | apply bd1 | refine below_set ?_ GE229.out | refine below_set ?_ GE230.out | refine below_set ?_ GE240.out) | exact HB.out)))); have n4_ := As0 (Kd.R_lower (Kd.R_newM (M := fun k_ => (w.heap.size ≤ k_)) ho2 (below_size (by repeat (first | (with_reducible first | exact HB.out | apply below_alloc | apply bdN | apply bd1 | refine below_set ?_ GE229.out | refine below_set ?_ GE230.out | refine below_set ?_ GE240.out) | exact HB.out))) (fun k_ h_ => h_)) (below_size (by repeat (first | (with_reducible first | exact HB.out | apply below_alloc | apply bdN | apply bd1 | refine below_set ?_ GE229.out | refine below_set ?_ GE230.out | refine below_set ?_ GE240.out) | exact HB.out)))); have n5_ := As0 (blk_below (g := gb229) (o := .cells #[.int .i64 a0_0, .int .i64 a0_1, .int .i64 a0_2, .slice A0_3 l0_3.length c0_3] 63 (0, 0)) (by (with_reducible repeat (first | refine blk_drewN ?_ _ | refine blk_drew ?_ | refine blk_alloc ?_ _)); exact BK229.out) hb); have n6_ := As0 (blk_below (g := gb230) (o := .cells #[.slice A3_0 l3_0.length c3_0, .int .i64 a3_1, .int .i64 a3_2, .int .i64 a3_3, .int .i64 a3_4] 69 (0, 0)) (by (with_reducible repeat (first | refine blk_drewN ?_ _ | refine blk_drew ?_ | refine blk_alloc ?_ _)); exact BK230.out) hb); have n7_ := As0 (blk_below (g := gb240) (o := .cells #[.int .i64 t234, .int .i64 (wrap64 (t235 + (wrap64 (Int.tmod a4 5)))), .int .i64 (wrap64 (t236 + (wrap64 (Int.tmod a4 7)))), .slice Ao45 y241.length co45] 63 (0, 0)) (by (with_reducible repeat (first | refine blk_drewN ?_ _ | refine blk_drew ?_ | refine blk_alloc ?_ _)); exact BK240.out) hb); have n8_ := As0 (below_step (by repeat (first | (with_reducible first | exact HB.out | apply below_alloc | apply bdN | apply bd1 | refine below_set ?_ GE229.out | refine below_set ?_ GE230.out | refine below_set ?_ GE240.out) | exact HB.out)) hb); clear HO_231000 HO_241003 BK229 BK230 BK240 HB; have HO_231000 := n0_; have HO_241003 := n1_; have HO252 := n2_; have HO255 := n3_; have HO258 := n4_; have BK229 := n5_; have BK230 := n6_; have BK240 := n7_; have HB := n8_; clear n0_ n1_ n2_ n3_ n4_ n5_ n6_ n7_ n8_; (try clear hb); (try clear hb2); (try clear hk); (try clear hi); (try clear ho0); (try clear ho1); (try clear ho2)) | ((with_reducible refine gate_dst (N := 12) rfl ?_); (try (refine gate_guard (by rfl) ?_; dsimp only)); refine box_event ?hg (N := 12) ?hd (cs := #[.int .i64 0, .int .i64 0, .int .i64 0, .int .i64 0, .slice none 0 0, .slice none 0 0, .slice none 0 0, .int .i64 0]) (t := 39) ?hr ?_; (case hd => rfl); (case hg => rfl); (case hr => first | (go_simp; done) | (go_simp; rfl)); intro gb261 hg w77 hbox hb; have n0_ := As0 (Kd.V_below (Kd.V_elderB (by (with_reducible repeat (first | apply Kd.V_alloc | apply Kd.V_drewN | apply Kd.V_drew)); exact HO_231000.out) gb261 (Nat.le_of_eq hg.symm)) hb); have n1_ := As0 (Kd.N_below (Kd.N_elderB (by (with_reducible repeat (first | apply Kd.N_alloc | apply Kd.N_drewN | apply Kd.N_drew)); exact HO_241003.out) gb261 (Nat.le_of_eq hg.symm)) hb); have n2_ := As0 (Kd.R_below (by (with_reducible repeat (first | apply Kd.R_alloc | apply Kd.R_drewN | apply Kd.R_drew)); exact HO252.out) hb); have n3_ := As0 (Kd.R_below (by (with_reducible repeat (first | apply Kd.R_alloc | apply Kd.R_drewN | apply Kd.R_drew)); exact HO255.out) hb); have n4_ := As0 (Kd.R_below (by (with_reducible repeat (first | apply Kd.R_alloc | apply Kd.R_drewN | apply Kd.R_drew)); exact HO258.out) hb); have n5_ := As0 (blk_below (g := gb229) (o := .cells #[.int .i64 a0_0, .int .i64 a0_1, .int .i64 a0_2, .slice A0_3 l0_3.length c0_3] 63 (0, 0)) (by (with_reducible repeat (first | refine blk_drewN ?_ _ | refine blk_drew ?_ | refine blk_alloc ?_ _)); exact BK229.out) hb); have n6_ := As0 (blk_below (g := gb230) (o := .cells #[.slice A3_0 l3_0.length c3_0, .int .i64 a3_1, .int .i64 a3_2, .int .i64 a3_3, .int .i64 a3_4] 69 (0, 0)) (by (with_reducible repeat (first | refine blk_drewN ?_ _ | refine blk_drew ?_ | refine blk_alloc ?_ _)); exact BK230.out) hb); have n7_ := As0 (blk_below (g := gb240) (o := .cells #[.int .i64 t234, .int .i64 (wrap64 (t235 + (wrap64 (Int.tmod a4 5)))), .int .i64 (wrap64 (t236 + (wrap64 (Int.tmod a4 7)))), .slice Ao45 y241.length co45] 63 (0, 0)) (by (with_reducible repeat (first | refine blk_drewN ?_ _ | refine blk_drew ?_ | refine blk_alloc ?_ _)); exact BK240.out) hb); have n8_ := As0 (below_step (by repeat (first | (with_reducible first | exact HB.out | apply below_alloc | apply bdN | apply bd1 | refine below_set ?_ GE229.out | refine below_set ?_ GE230.out | refine below_set ?_ GE240.out) | exact HB.out)) hb); have n9_ := As0 (hbox); have n10_ := As0 ((by rw [hg]; exact (below_size (by repeat (first | (with_reducible first | exact HB.out | apply below_alloc | apply bdN | apply bd1 | refine below_set ?_ GE229.out | refine below_set ?_ GE230.out | refine below_set ?_ GE240.out) | exact HB.out))) : w.heap.size ≤ gb261)); have n11_ := As0 ((by rw [hg]; exact (below_size (by repeat (first | (with_reducible first | exact HB.out | apply below_alloc | apply bdN | apply bd1 | refine below_set ?_ GE229.out | refine below_set ?_ GE230.out | refine below_set ?_ GE240.out) | exact HB.out))) : w.heap.size ≤ gb261)); have n12_ := As0 ((by rw [hg]; exact Nat.ne_of_lt (blk_lt (g := gb229) (o := .cells #[.int .i64 a0_0, .int .i64 a0_1, .int .i64 a0_2, .slice A0_3 l0_3.length c0_3] 63 (0, 0)) (by (with_reducible repeat (first | refine blk_drewN ?_ _ | refine blk_drew ?_ | refine blk_alloc ?_ _)); exact BK229.out)) : gb229 ≠ gb261)); have n13_ := As0 ((by rw [hg]; exact Nat.ne_of_gt (blk_lt (g := gb229) (o := .cells #[.int .i64 a0_0, .int .i64 a0_1, .int .i64 a0_2, .slice A0_3 l0_3.length c0_3] 63 (0, 0)) (by (with_reducible repeat (first | refine blk_drewN ?_ _ | refine blk_drew ?_ | refine blk_alloc ?_ _)); exact BK229.out)) : gb261 ≠ gb229)); have n14_ := As0 ((by rw [hg]; exact Nat.ne_of_lt (blk_lt (g := gb230) (o := .cells #[.slice A3_0 l3_0.length c3_0, .int .i64 a3_1, .int .i64 a3_2, .int .i64 a3_3, .int .i64 a3_4] 69 (0, 0)) (by (with_reducible repeat (first | refine blk_drewN ?_ _ | refine blk_drew ?_ | refine blk_alloc ?_ _)); exact BK230.out)) : gb230 ≠ gb261)); have n15_ := As0 ((by rw [hg]; exact Nat.ne_of_gt (blk_lt (g := gb230) (o := .cells #[.slice A3_0 l3_0.length c3_0, .int .i64 a3_1, .int .i64 a3_2, .int .i64 a3_3, .int .i64 a3_4] 69 (0, 0)) (by (with_reducible repeat (first | refine blk_drewN ?_ _ | refine blk_drew ?_ | refine blk_alloc ?_ _)); exact BK230.out)) : gb261 ≠ gb230)); have n16_ := As0 ((by rw [hg]; exact Nat.ne_of_lt (blk_lt (g := gb240) (o := .cells #[.int .i64 t234, .int .i64 (wrap64 (t235 + (wrap64 (Int.tmod a4 5)))), .int .i64 (wrap64 (t236 + (wrap64 (Int.tmod a4 7)))), .slice Ao45 y241.length co45] 63 (0, 0)) (by (with_reducible repeat (first | refine blk_drewN ?_ _ | refine blk_drew ?_ | refine blk_alloc ?_ _)); exact BK240.out)) : gb240 ≠ gb261)); have n17_ := As0 ((by rw [hg]; exact Nat.ne_of_gt (blk_lt (g := gb240) (o := .cells #[.int .i64 t234, .int .i64 (wrap64 (t235 + (wrap64 (Int.tmod a4 5)))), .int .i64 (wrap64 (t236 + (wrap64 (Int.tmod a4 7)))), .slice Ao45 y241.length co45] 63 (0, 0)) (by (with_reducible repeat (first | refine blk_drewN ?_ _ | refine blk_drew ?_ | refine blk_alloc ?_ _)); exact BK240.out)) : gb261 ≠ gb240)); clear HO_231000 HO_241003 HO252 HO255 HO258 BK229 BK230 BK240 HB; have HO_231000 := n0_; have HO_241003 := n1_; have HO252 := n2_; have HO255 := n3_; have HO258 := n4_; have BK229 := n5_; have BK230 := n6_; have BK240 := n7_; have HB := n8_; have BK261 := n9_; have GW261 := n10_; have GE261 := n11_; have NB229_261 := n12_; have NB261_229 := n13_; have NB230_261 := n14_; have NB261_230 := n15_; have NB240_261 := n16_; have NB261_240 := n17_; clear n0_ n1_ n2_ n3_ n4_ n5_ n6_ n7_ n8_ n9_ n10_ n11_ n12_ n13_ n14_ n15_ n16_ n17_ hb hbox hg; have hnb78 := NB261_229.out; have hnc78 := NB229_261.out; have hnb79 := NB261_230.out; have hnc79 := NB230_261.out; have hnb80 := NB261_240.out; have hnc80 := NB240_261.out; have hcz81_0 : w77.cell? ⟨gb261, 0, none⟩ = some (.int .i64 0) := (blk_cell BK261.out 0).trans rfl; have hcz81_1 : w77.cell? ⟨gb261, 1, none⟩ = some (.int .i64 0) := (blk_cell BK261.out 1).trans rfl; have hcz81_2 : w77.cell? ⟨gb261, 2, none⟩ = some (.int .i64 0) := (blk_cell BK261.out 2).trans rfl; have hcz81_3 : w77.cell? ⟨gb261, 3, none⟩ = some (.int .i64 0) := (blk_cell BK261.out 3).trans rfl; have hcz81_4 : w77.cell? ⟨gb261, 4, none⟩ = some (.slice none 0 0) := (blk_cell BK261.out 4).trans rfl; have hcz81_5 : w77.cell? ⟨gb261, 5, none⟩ = some (.slice none 0 0) := (blk_cell BK261.out 5).trans rfl; have hcz81_6 : w77.cell? ⟨gb261, 6, none⟩ = some (.slice none 0 0) := (blk_cell BK261.out 6).trans rfl; have hcz81_7 : w77.cell? ⟨gb261, 7, none⟩ = some (.int .i64 0) := (blk_cell BK261.out 7).trans rfl; have hfz81_0 := blk_frozen BK261.out 0; have hfz81_1 := blk_frozen BK261.out 1; have hfz81_2 := blk_frozen BK261.out 2; have hfz81_3 := blk_frozen BK261.out 3; have hfz81_4 := blk_frozen BK261.out 4; have hfz81_5 := blk_frozen BK261.out 5; have hfz81_6 := blk_frozen BK261.out 6; have hfz81_7 := blk_frozen BK261.out 7; obtain ⟨Ao82, co82, eo82⟩ := Kd.R_slice HO252.out; subst eo82; obtain ⟨Ao83, co83, eo83⟩ := Kd.R_slice HO255.out; subst eo83; obtain ⟨Ao84, co84, eo84⟩ := Kd.R_slice HO258.out; subst eo84; have hnb85 := NB240_230.out; have hnc85 := NB230_240.out; have hcz86_0 : w77.cell? ⟨gb240, 0, none⟩ = some (.int .i64 t234) := (blk_cell BK240.out 0).trans rfl; have hcz86_1 : w77.cell? ⟨gb240, 1, none⟩ = some (.int .i64 (wrap64 (t235 + (wrap64 (Int.tmod a4 5))))) := (blk_cell BK240.out 1).trans rfl; have hcz86_2 : w77.cell? ⟨gb240, 2, none⟩ = some (.int .i64 (wrap64 (t236 + (wrap64 (Int.tmod a4 7))))) := (blk_cell BK240.out 2).trans rfl; have hcz86_3 : w77.cell? ⟨gb240, 3, none⟩ = some (.slice Ao45 y241.length co45) := (blk_cell BK240.out 3).trans rfl; have hfz86_0 := blk_frozen BK240.out 0; have hfz86_1 := blk_frozen BK240.out 1; have hfz86_2 := blk_frozen BK240.out 2; have hfz86_3 := blk_frozen BK240.out 3) | ((with_reducible refine gate_callee (f := 46) rfl ?_); refine goesL_ (some 75) rfl rfl Try.func46 (by kernel_rfl) rfl #[.agg #[.int .i64 t234, .int .i64 (wrap64 (t235 + (wrap64 (Int.tmod a4 5)))), .int .i64 (wrap64 (t236 + (wrap64 (Int.tmod a4 7)))), .slice Ao45 y241.length co45], .slice A1 l1.length c1, .int .i64 (wrap64 (a2))] rfl (by (try simp only [List.map_toArray, List.map_cons, List.map_nil]); first | done | rfl | (simp only [List.length_drop, List.length_take]; rfl)) ?_; (with_reducible refine (execute_Exec.calls kj27 t234 (wrap64 (t235 + (wrap64 (Int.tmod a4 5)))) (wrap64 (t236 + (wrap64 (Int.tmod a4 7)))) _ _ y241 _ _ l1 (wrap64 (a2)) t262 t263 t264 t265 t266 t269 t272 t275 t276 _ ?side1 ?side2 ?side3 ?side4 A62.out).mono ?_); (case side1 => refine (Kd.N_reads' (e := 69) (base := w.heap.size) (ok := fun k_ => ((((((P3_0_ k_ ∨ w.heap.size ≤ k_) ∧ (k_ ≠ gb229 ∧ (k_ ≠ gb230 ∧ k_ ≠ gb240))) ∧ some k_ ≠ (.slice Ao82 t250.length co82 : Value).ownBlock) ∧ some k_ ≠ (.slice Ao83 t253.length co83 : Value).ownBlock) ∧ some k_ ≠ (.slice Ao84 t256.length co84 : Value).ownBlock) ∧ k_ ≠ gb261)) (n := y241.length) (c := co45) ?_).2.2; exact (by (with_reducible repeat (first | apply Kd.N_alloc | apply Kd.N_drewN | apply Kd.N_drew)); exact (Kd.N_mono (Kd.N_far (p := ⟨gb261, 7, none⟩) (Kd.N_far (p := ⟨gb261, 6, none⟩) (Kd.N_far (p := ⟨gb261, 5, none⟩) (Kd.N_far (p := ⟨gb261, 4, none⟩) (Kd.N_far (p := ⟨gb261, 3, none⟩) (Kd.N_far (p := ⟨gb261, 2, none⟩) (Kd.N_far (p := ⟨gb261, 1, none⟩) (Kd.N_far (p := ⟨gb261, 0, none⟩) (Kd.N_mono HO_241003.out (fun k_ hk => (⟨hk, hk.2⟩ : _ ∧ k_ ≠ gb261))) (fun _ hk => hk.2) (.int .i64 t246)) (fun _ hk => hk.2) (.int .i64 t247)) (fun _ hk => hk.2) (.int .i64 t248)) (fun _ hk => hk.2) (.int .i64 t249)) (fun _ hk => hk.2) (.slice Ao82 t250.length co82)) (fun _ hk => hk.2) (.slice Ao83 t253.length co83)) (fun _ hk => hk.2) (.slice Ao84 t256.length co84)) (fun _ hk => hk.2) (.int .i64 t259)) (fun _ h_ => h_.1)))); (case side2 => exact (Kd.N_reads' HO_241003.out).2.1); (case side3 => exact Kd.C_below HR1.out (by repeat (first | (with_reducible first | exact HB.out | apply below_alloc | apply bdN | apply bd1 | refine below_set ?_ GE229.out | refine below_set ?_ GE230.out | refine below_set ?_ GE240.out | refine below_set ?_ GE261.out) | exact HB.out))); (case side4 => exact HC1.out); rintro e w87 ⟨v267, v270, v273, rfl, ho0, ho1, ho2, hb⟩; refine ⟨_, rfl, ?_⟩; have n0_ := As0 (Kd.V_mono (Kd.V_told (Kd.V_told (Kd.V_told (Kd.V_old (by (with_reducible repeat (first | apply Kd.V_alloc | apply Kd.V_drewN | apply Kd.V_drew)); exact (Kd.V_mono (Kd.V_far (p := ⟨gb261, 7, none⟩) (Kd.V_far (p := ⟨gb261, 6, none⟩) (Kd.V_far (p := ⟨gb261, 5, none⟩) (Kd.V_far (p := ⟨gb261, 4, none⟩) (Kd.V_far (p := ⟨gb261, 3, none⟩) (Kd.V_far (p := ⟨gb261, 2, none⟩) (Kd.V_far (p := ⟨gb261, 1, none⟩) (Kd.V_far (p := ⟨gb261, 0, none⟩) (Kd.V_mono HO_231000.out (fun k_ hk => (⟨hk, hk.2⟩ : _ ∧ k_ ≠ gb261))) (fun _ hk => hk.2) (.int .i64 t246)) (fun _ hk => hk.2) (.int .i64 t247)) (fun _ hk => hk.2) (.int .i64 t248)) (fun _ hk => hk.2) (.int .i64 t249)) (fun _ hk => hk.2) (.slice Ao82 t250.length co82)) (fun _ hk => hk.2) (.slice Ao83 t253.length co83)) (fun _ hk => hk.2) (.slice Ao84 t256.length co84)) (fun _ hk => hk.2) (.int .i64 t259)) (fun _ h_ => h_.1))) hb) (Kd.R_base ho0)) (Kd.R_base ho1)) (Kd.R_base ho2)) (fun _ h_ => h_.1)); have n1_ := As0 (Kd.N_mono (Kd.N_told (Kd.N_told (Kd.N_told (Kd.N_old (by (with_reducible repeat (first | apply Kd.N_alloc | apply Kd.N_drewN | apply Kd.N_drew)); exact (Kd.N_mono (Kd.N_far (p := ⟨gb261, 7, none⟩) (Kd.N_far (p := ⟨gb261, 6, none⟩) (Kd.N_far (p := ⟨gb261, 5, none⟩) (Kd.N_far (p := ⟨gb261, 4, none⟩) (Kd.N_far (p := ⟨gb261, 3, none⟩) (Kd.N_far (p := ⟨gb261, 2, none⟩) (Kd.N_far (p := ⟨gb261, 1, none⟩) (Kd.N_far (p := ⟨gb261, 0, none⟩) (Kd.N_mono HO_241003.out (fun k_ hk => (⟨hk, hk.2⟩ : _ ∧ k_ ≠ gb261))) (fun _ hk => hk.2) (.int .i64 t246)) (fun _ hk => hk.2) (.int .i64 t247)) (fun _ hk => hk.2) (.int .i64 t248)) (fun _ hk => hk.2) (.int .i64 t249)) (fun _ hk => hk.2) (.slice Ao82 t250.length co82)) (fun _ hk => hk.2) (.slice Ao83 t253.length co83)) (fun _ hk => hk.2) (.slice Ao84 t256.length co84)) (fun _ hk => hk.2) (.int .i64 t259)) (fun _ h_ => h_.1))) hb) (Kd.R_base ho0)) (Kd.R_base ho1)) (Kd.R_base ho2)) (fun _ h_ => h_.1)); have n2_ := As0 (Kd.R_mono (Kd.R_told (Kd.R_told (Kd.R_told (Kd.R_old (by (with_reducible repeat (first | apply Kd.R_alloc | apply Kd.R_drewN | apply Kd.R_drew)); exact (Kd.R_mono (R8 (Kd.R_types HO252.out BK261.out (by decide))) (fun _ h_ => h_.1))) hb) (Kd.R_base ho0)) (Kd.R_base ho1)) (Kd.R_base ho2)) (fun _ h_ => h_.1)); have n3_ := As0 (Kd.R_mono (Kd.R_told (Kd.R_told (Kd.R_told (Kd.R_old (by (with_reducible repeat (first | apply Kd.R_alloc | apply Kd.R_drewN | apply Kd.R_drew)); exact (Kd.R_mono (R8 (Kd.R_types HO255.out BK261.out (by decide))) (fun _ h_ => h_.1))) hb) (Kd.R_base ho0)) (Kd.R_base ho1)) (Kd.R_base ho2)) (fun _ h_ => h_.1)); have n4_ := As0 (Kd.R_mono (Kd.R_told (Kd.R_told (Kd.R_told (Kd.R_old (by (with_reducible repeat (first | apply Kd.R_alloc | apply Kd.R_drewN | apply Kd.R_drew)); exact (Kd.R_mono (R8 (Kd.R_types HO258.out BK261.out (by decide))) (fun _ h_ => h_.1))) hb) (Kd.R_base ho0)) (Kd.R_base ho1)) (Kd.R_base ho2)) (fun _ h_ => h_.1)); have n5_ := As0 (Kd.R_lower (Kd.R_new' (Kd.R_new' (Kd.R_new' (Kd.R_newM (M := fun k_ => (w.heap.size ≤ k_)) ho0 (below_size (by repeat (first | (with_reducible first | exact HB.out | apply below_alloc | apply bdN | apply bd1 | refine below_set ?_ GE229.out | refine below_set ?_ GE230.out | refine below_set ?_ GE240.out | refine below_set ?_ GE261.out) | exact HB.out))) (fun k_ h_ => h_)) (Kd.R_lt (by (with_reducible repeat (first | apply Kd.R_alloc | apply Kd.R_drewN | apply Kd.R_drew)); exact (Kd.R_mono (R8 (Kd.R_types HO252.out BK261.out (by decide))) (fun _ h_ => h_.1))))) (Kd.R_lt (by (with_reducible repeat (first | apply Kd.R_alloc | apply Kd.R_drewN | apply Kd.R_drew)); exact (Kd.R_mono (R8 (Kd.R_types HO255.out BK261.out (by decide))) (fun _ h_ => h_.1))))) (Kd.R_lt (by (with_reducible repeat (first | apply Kd.R_alloc | apply Kd.R_drewN | apply Kd.R_drew)); exact (Kd.R_mono (R8 (Kd.R_types HO258.out BK261.out (by decide))) (fun _ h_ => h_.1))))) (below_size (by repeat (first | (with_reducible first | exact HB.out | apply below_alloc | apply bdN | apply bd1 | refine below_set ?_ GE229.out | refine below_set ?_ GE230.out | refine below_set ?_ GE240.out | refine below_set ?_ GE261.out) | exact HB.out)))); have n6_ := As0 (Kd.R_lower (Kd.R_new' (Kd.R_new' (Kd.R_new' (Kd.R_newM (M := fun k_ => (w.heap.size ≤ k_)) ho1 (below_size (by repeat (first | (with_reducible first | exact HB.out | apply below_alloc | apply bdN | apply bd1 | refine below_set ?_ GE229.out | refine below_set ?_ GE230.out | refine below_set ?_ GE240.out | refine below_set ?_ GE261.out) | exact HB.out))) (fun k_ h_ => h_)) (Kd.R_lt (by (with_reducible repeat (first | apply Kd.R_alloc | apply Kd.R_drewN | apply Kd.R_drew)); exact (Kd.R_mono (R8 (Kd.R_types HO252.out BK261.out (by decide))) (fun _ h_ => h_.1))))) (Kd.R_lt (by (with_reducible repeat (first | apply Kd.R_alloc | apply Kd.R_drewN | apply Kd.R_drew)); exact (Kd.R_mono (R8 (Kd.R_types HO255.out BK261.out (by decide))) (fun _ h_ => h_.1))))) (Kd.R_lt (by (with_reducible repeat (first | apply Kd.R_alloc | apply Kd.R_drewN | apply Kd.R_drew)); exact (Kd.R_mono (R8 (Kd.R_types HO258.out BK261.out (by decide))) (fun _ h_ => h_.1))))) (below_size (by repeat (first | (with_reducible first | exact HB.out | apply below_alloc | apply bdN | apply bd1 | refine below_set ?_ GE229.out | refine below_set ?_ GE230.out | refine below_set ?_ GE240.out | refine below_set ?_ GE261.out) | exact HB.out)))); have n7_ := As0 (Kd.R_lower (Kd.R_new' (Kd.R_new' (Kd.R_new' (Kd.R_newM (M := fun k_ => (w.heap.size ≤ k_)) ho2 (below_size (by repeat (first | (with_reducible first | exact HB.out | apply below_alloc | apply bdN | apply bd1 | refine below_set ?_ GE229.out | refine below_set ?_ GE230.out | refine below_set ?_ GE240.out | refine below_set ?_ GE261.out) | exact HB.out))) (fun k_ h_ => h_)) (Kd.R_lt (by (with_reducible repeat (first | apply Kd.R_alloc | apply Kd.R_drewN | apply Kd.R_drew)); exact (Kd.R_mono (R8 (Kd.R_types HO252.out BK261.out (by decide))) (fun _ h_ => h_.1))))) (Kd.R_lt (by (with_reducible repeat (first | apply Kd.R_alloc | apply Kd.R_drewN | apply Kd.R_drew)); exact (Kd.R_mono (R8 (Kd.R_types HO255.out BK261.out (by decide))) (fun _ h_ => h_.1))))) (Kd.R_lt (by (with_reducible repeat (first | apply Kd.R_alloc | apply Kd.R_drewN | apply Kd.R_drew)); exact (Kd.R_mono (R8 (Kd.R_types HO258.out BK261.out (by decide))) (fun _ h_ => h_.1))))) (below_size (by repeat (first | (with_reducible first | exact HB.out | apply below_alloc | apply bdN | apply bd1 | refine below_set ?_ GE229.out | refine below_set ?_ GE230.out | refine below_set ?_ GE240.out | refine below_set ?_ GE261.out) | exact HB.out)))); have n8_ := As0 (blk_below (g := gb229) (o := .cells #[.int .i64 a0_0, .int .i64 a0_1, .int .i64 a0_2, .slice A0_3 l0_3.length c0_3] 63 (0, 0)) (by (with_reducible repeat (first | refine blk_drewN ?_ _ | refine blk_drew ?_ | refine blk_alloc ?_ _)); refine blk_far ?_ NB229_261.out _; (with_reducible repeat (first | refine blk_drewN ?_ _ | refine blk_drew ?_ | refine blk_alloc ?_ _)); refine blk_far ?_ NB229_261.out _; (with_reducible repeat (first | refine blk_drewN ?_ _ | refine blk_drew ?_ | refine blk_alloc ?_ _)); refine blk_far ?_ NB229_261.out _; (with_reducible repeat (first | refine blk_drewN ?_ _ | refine blk_drew ?_ | refine blk_alloc ?_ _)); refine blk_far ?_ NB229_261.out _; (with_reducible repeat (first | refine blk_drewN ?_ _ | refine blk_drew ?_ | refine blk_alloc ?_ _)); refine blk_far ?_ NB229_261.out _; (with_reducible repeat (first | refine blk_drewN ?_ _ | refine blk_drew ?_ | refine blk_alloc ?_ _)); refine blk_far ?_ NB229_261.out _; (with_reducible repeat (first | refine blk_drewN ?_ _ | refine blk_drew ?_ | refine blk_alloc ?_ _)); refine blk_far ?_ NB229_261.out _; (with_reducible repeat (first | refine blk_drewN ?_ _ | refine blk_drew ?_ | refine blk_alloc ?_ _)); refine blk_far ?_ NB229_261.out _; (with_reducible repeat (first | refine blk_drewN ?_ _ | refine blk_drew ?_ | refine blk_alloc ?_ _)); exact BK229.out) hb); have n9_ := As0 (blk_below (g := gb230) (o := .cells #[.slice A3_0 l3_0.length c3_0, .int .i64 a3_1, .int .i64 a3_2, .int .i64 a3_3, .int .i64 a3_4] 69 (0, 0)) (by (with_reducible repeat (first | refine blk_drewN ?_ _ | refine blk_drew ?_ | refine blk_alloc ?_ _)); refine blk_far ?_ NB230_261.out _; (with_reducible repeat (first | refine blk_drewN ?_ _ | refine blk_drew ?_ | refine blk_alloc ?_ _)); refine blk_far ?_ NB230_261.out _; (with_reducible repeat (first | refine blk_drewN ?_ _ | refine blk_drew ?_ | refine blk_alloc ?_ _)); refine blk_far ?_ NB230_261.out _; (with_reducible repeat (first | refine blk_drewN ?_ _ | refine blk_drew ?_ | refine blk_alloc ?_ _)); refine blk_far ?_ NB230_261.out _; (with_reducible repeat (first | refine blk_drewN ?_ _ | refine blk_drew ?_ | refine blk_alloc ?_ _)); refine blk_far ?_ NB230_261.out _; (with_reducible repeat (first | refine blk_drewN ?_ _ | refine blk_drew ?_ | refine blk_alloc ?_ _)); refine blk_far ?_ NB230_261.out _; (with_reducible repeat (first | refine blk_drewN ?_ _ | refine blk_drew ?_ | refine blk_alloc ?_ _)); refine blk_far ?_ NB230_261.out _; (with_reducible repeat (first | refine blk_drewN ?_ _ | refine blk_drew ?_ | refine blk_alloc ?_ _)); refine blk_far ?_ NB230_261.out _; (with_reducible repeat (first | refine blk_drewN ?_ _ | refine blk_drew ?_ | refine blk_alloc ?_ _)); exact BK230.out) hb); have n10_ := As0 (blk_below (g := gb240) (o := .cells #[.int .i64 t234, .int .i64 (wrap64 (t235 + (wrap64 (Int.tmod a4 5)))), .int .i64 (wrap64 (t236 + (wrap64 (Int.tmod a4 7)))), .slice Ao45 y241.length co45] 63 (0, 0)) (by (with_reducible repeat (first | refine blk_drewN ?_ _ | refine blk_drew ?_ | refine blk_alloc ?_ _)); refine blk_far ?_ NB240_261.out _; (with_reducible repeat (first | refine blk_drewN ?_ _ | refine blk_drew ?_ | refine blk_alloc ?_ _)); refine blk_far ?_ NB240_261.out _; (with_reducible repeat (first | refine blk_drewN ?_ _ | refine blk_drew ?_ | refine blk_alloc ?_ _)); refine blk_far ?_ NB240_261.out _; (with_reducible repeat (first | refine blk_drewN ?_ _ | refine blk_drew ?_ | refine blk_alloc ?_ _)); refine blk_far ?_ NB240_261.out _; (with_reducible repeat (first | refine blk_drewN ?_ _ | refine blk_drew ?_ | refine blk_alloc ?_ _)); refine blk_far ?_ NB240_261.out _; (with_reducible repeat (first | refine blk_drewN ?_ _ | refine blk_drew ?_ | refine blk_alloc ?_ _)); refine blk_far ?_ NB240_261.out _; (with_reducible repeat (first | refine blk_drewN ?_ _ | refine blk_drew ?_ | refine blk_alloc ?_ _)); refine blk_far ?_ NB240_261.out _; (with_reducible repeat (first | refine blk_drewN ?_ _ | refine blk_drew ?_ | refine blk_alloc ?_ _)); refine blk_far ?_ NB240_261.out _; (with_reducible repeat (first | refine blk_drewN ?_ _ | refine blk_drew ?_ | refine blk_alloc ?_ _)); exact BK240.out) hb); have n11_ := As0 (blk_below (g := gb261) (o := .cells #[.int .i64 t246, .int .i64 t247, .int .i64 t248, .int .i64 t249, .slice Ao82 t250.length co82, .slice Ao83 t253.length co83, .slice Ao84 t256.length co84, .int .i64 t259] 39 (0, 0)) (by (with_reducible repeat (first | refine blk_drewN ?_ _ | refine blk_drew ?_ | refine blk_alloc ?_ _)); refine blk_put (cs := #[.int .i64 t246, .int .i64 t247, .int .i64 t248, .int .i64 t249, .slice Ao82 t250.length co82, .slice Ao83 t253.length co83, .slice Ao84 t256.length co84, .int .i64 0]) ?_ 7 _ rfl; (with_reducible repeat (first | refine blk_drewN ?_ _ | refine blk_drew ?_ | refine blk_alloc ?_ _)); refine blk_put (cs := #[.int .i64 t246, .int .i64 t247, .int .i64 t248, .int .i64 t249, .slice Ao82 t250.length co82, .slice Ao83 t253.length co83, .slice none 0 0, .int .i64 0]) ?_ 6 _ rfl; (with_reducible repeat (first | refine blk_drewN ?_ _ | refine blk_drew ?_ | refine blk_alloc ?_ _)); refine blk_put (cs := #[.int .i64 t246, .int .i64 t247, .int .i64 t248, .int .i64 t249, .slice Ao82 t250.length co82, .slice none 0 0, .slice none 0 0, .int .i64 0]) ?_ 5 _ rfl; (with_reducible repeat (first | refine blk_drewN ?_ _ | refine blk_drew ?_ | refine blk_alloc ?_ _)); refine blk_put (cs := #[.int .i64 t246, .int .i64 t247, .int .i64 t248, .int .i64 t249, .slice none 0 0, .slice none 0 0, .slice none 0 0, .int .i64 0]) ?_ 4 _ rfl; (with_reducible repeat (first | refine blk_drewN ?_ _ | refine blk_drew ?_ | refine blk_alloc ?_ _)); refine blk_put (cs := #[.int .i64 t246, .int .i64 t247, .int .i64 t248, .int .i64 0, .slice none 0 0, .slice none 0 0, .slice none 0 0, .int .i64 0]) ?_ 3 _ rfl; (with_reducible repeat (first | refine blk_drewN ?_ _ | refine blk_drew ?_ | refine blk_alloc ?_ _)); refine blk_put (cs := #[.int .i64 t246, .int .i64 t247, .int .i64 0, .int .i64 0, .slice none 0 0, .slice none 0 0, .slice none 0 0, .int .i64 0]) ?_ 2 _ rfl; (with_reducible repeat (first | refine blk_drewN ?_ _ | refine blk_drew ?_ | refine blk_alloc ?_ _)); refine blk_put (cs := #[.int .i64 t246, .int .i64 0, .int .i64 0, .int .i64 0, .slice none 0 0, .slice none 0 0, .slice none 0 0, .int .i64 0]) ?_ 1 _ rfl; (with_reducible repeat (first | refine blk_drewN ?_ _ | refine blk_drew ?_ | refine blk_alloc ?_ _)); refine blk_put (cs := #[.int .i64 0, .int .i64 0, .int .i64 0, .int .i64 0, .slice none 0 0, .slice none 0 0, .slice none 0 0, .int .i64 0]) ?_ 0 _ rfl; (with_reducible repeat (first | refine blk_drewN ?_ _ | refine blk_drew ?_ | refine blk_alloc ?_ _)); exact BK261.out) hb); have n12_ := As0 (below_step (by repeat (first | (with_reducible first | exact HB.out | apply below_alloc | apply bdN | apply bd1 | refine below_set ?_ GE229.out | refine below_set ?_ GE230.out | refine below_set ?_ GE240.out | refine below_set ?_ GE261.out) | exact HB.out)) hb); clear HO_231000 HO_241003 HO252 HO255 HO258 BK229 BK230 BK240 BK261 HB; have HO_231000 := n0_; have HO_241003 := n1_; have HO252 := n2_; have HO255 := n3_; have HO258 := n4_; have HO268 := n5_; have HO271 := n6_; have HO274 := n7_; have BK229 := n8_; have BK230 := n9_; have BK240 := n10_; have BK261 := n11_; have HB := n12_; clear n0_ n1_ n2_ n3_ n4_ n5_ n6_ n7_ n8_ n9_ n10_ n11_ n12_; (try clear hb); (try clear hb2); (try clear hk); (try clear hi); (try clear ho0); (try clear ho1); (try clear ho2)) | ((with_reducible refine gate_dst (N := 14) rfl ?_); (try (refine gate_guard (by rfl) ?_; dsimp only)); refine box_event ?hg (N := 14) ?hd (cs := #[.int .i64 0, .int .i64 0, .int .i64 0, .int .i64 0, .slice none 0 0, .slice none 0 0, .slice none 0 0, .int .i64 0]) (t := 39) ?hr ?_; (case hd => rfl); (case hg => rfl); (case hr => first | (go_simp; done) | (go_simp; rfl)); intro gb277 hg w88 hbox hb; have n0_ := As0 (Kd.V_below (Kd.V_elderB (by (with_reducible repeat (first | apply Kd.V_alloc | apply Kd.V_drewN | apply Kd.V_drew)); exact HO_231000.out) gb277 (Nat.le_of_eq hg.symm)) hb); have n1_ := As0 (Kd.N_below (Kd.N_elderB (by (with_reducible repeat (first | apply Kd.N_alloc | apply Kd.N_drewN | apply Kd.N_drew)); exact HO_241003.out) gb277 (Nat.le_of_eq hg.symm)) hb); have n2_ := As0 (Kd.R_below (by (with_reducible repeat (first | apply Kd.R_alloc | apply Kd.R_drewN | apply Kd.R_drew)); exact HO252.out) hb); have n3_ := As0 (Kd.R_below (by (with_reducible repeat (first | apply Kd.R_alloc | apply Kd.R_drewN | apply Kd.R_drew)); exact HO255.out) hb); have n4_ := As0 (Kd.R_below (by (with_reducible repeat (first | apply Kd.R_alloc | apply Kd.R_drewN | apply Kd.R_drew)); exact HO258.out) hb); have n5_ := As0 (Kd.R_below (by (with_reducible repeat (first | apply Kd.R_alloc | apply Kd.R_drewN | apply Kd.R_drew)); exact HO268.out) hb); have n6_ := As0 (Kd.R_below (by (with_reducible repeat (first | apply Kd.R_alloc | apply Kd.R_drewN | apply Kd.R_drew)); exact HO271.out) hb); have n7_ := As0 (Kd.R_below (by (with_reducible repeat (first | apply Kd.R_alloc | apply Kd.R_drewN | apply Kd.R_drew)); exact HO274.out) hb); have n8_ := As0 (blk_below (g := gb229) (o := .cells #[.int .i64 a0_0, .int .i64 a0_1, .int .i64 a0_2, .slice A0_3 l0_3.length c0_3] 63 (0, 0)) (by (with_reducible repeat (first | refine blk_drewN ?_ _ | refine blk_drew ?_ | refine blk_alloc ?_ _)); exact BK229.out) hb); have n9_ := As0 (blk_below (g := gb230) (o := .cells #[.slice A3_0 l3_0.length c3_0, .int .i64 a3_1, .int .i64 a3_2, .int .i64 a3_3, .int .i64 a3_4] 69 (0, 0)) (by (with_reducible repeat (first | refine blk_drewN ?_ _ | refine blk_drew ?_ | refine blk_alloc ?_ _)); exact BK230.out) hb); have n10_ := As0 (blk_below (g := gb240) (o := .cells #[.int .i64 t234, .int .i64 (wrap64 (t235 + (wrap64 (Int.tmod a4 5)))), .int .i64 (wrap64 (t236 + (wrap64 (Int.tmod a4 7)))), .slice Ao45 y241.length co45] 63 (0, 0)) (by (with_reducible repeat (first | refine blk_drewN ?_ _ | refine blk_drew ?_ | refine blk_alloc ?_ _)); exact BK240.out) hb); have n11_ := As0 (blk_below (g := gb261) (o := .cells #[.int .i64 t246, .int .i64 t247, .int .i64 t248, .int .i64 t249, .slice Ao82 t250.length co82, .slice Ao83 t253.length co83, .slice Ao84 t256.length co84, .int .i64 t259] 39 (0, 0)) (by (with_reducible repeat (first | refine blk_drewN ?_ _ | refine blk_drew ?_ | refine blk_alloc ?_ _)); exact BK261.out) hb); have n12_ := As0 (below_step (by repeat (first | (with_reducible first | exact HB.out | apply below_alloc | apply bdN | apply bd1 | refine below_set ?_ GE229.out | refine below_set ?_ GE230.out | refine below_set ?_ GE240.out | refine below_set ?_ GE261.out) | exact HB.out)) hb); have n13_ := As0 (hbox); have n14_ := As0 ((by rw [hg]; exact (below_size (by repeat (first | (with_reducible first | exact HB.out | apply below_alloc | apply bdN | apply bd1 | refine below_set ?_ GE229.out | refine below_set ?_ GE230.out | refine below_set ?_ GE240.out | refine below_set ?_ GE261.out) | exact HB.out))) : w.heap.size ≤ gb277)); have n15_ := As0 ((by rw [hg]; exact (below_size (by repeat (first | (with_reducible first | exact HB.out | apply below_alloc | apply bdN | apply bd1 | refine below_set ?_ GE229.out | refine below_set ?_ GE230.out | refine below_set ?_ GE240.out | refine below_set ?_ GE261.out) | exact HB.out))) : w.heap.size ≤ gb277)); have n16_ := As0 ((by rw [hg]; exact Nat.ne_of_lt (blk_lt (g := gb229) (o := .cells #[.int .i64 a0_0, .int .i64 a0_1, .int .i64 a0_2, .slice A0_3 l0_3.length c0_3] 63 (0, 0)) (by (with_reducible repeat (first | refine blk_drewN ?_ _ | refine blk_drew ?_ | refine blk_alloc ?_ _)); exact BK229.out)) : gb229 ≠ gb277)); have n17_ := As0 ((by rw [hg]; exact Nat.ne_of_gt (blk_lt (g := gb229) (o := .cells #[.int .i64 a0_0, .int .i64 a0_1, .int .i64 a0_2, .slice A0_3 l0_3.length c0_3] 63 (0, 0)) (by (with_reducible repeat (first | refine blk_drewN ?_ _ | refine blk_drew ?_ | refine blk_alloc ?_ _)); exact BK229.out)) : gb277 ≠ gb229)); have n18_ := As0 ((by rw [hg]; exact Nat.ne_of_lt (blk_lt (g := gb230) (o := .cells #[.slice A3_0 l3_0.length c3_0, .int .i64 a3_1, .int .i64 a3_2, .int .i64 a3_3, .int .i64 a3_4] 69 (0, 0)) (by (with_reducible repeat (first | refine blk_drewN ?_ _ | refine blk_drew ?_ | refine blk_alloc ?_ _)); exact BK230.out)) : gb230 ≠ gb277)); have n19_ := As0 ((by rw [hg]; exact Nat.ne_of_gt (blk_lt (g := gb230) (o := .cells #[.slice A3_0 l3_0.length c3_0, .int .i64 a3_1, .int .i64 a3_2, .int .i64 a3_3, .int .i64 a3_4] 69 (0, 0)) (by (with_reducible repeat (first | refine blk_drewN ?_ _ | refine blk_drew ?_ | refine blk_alloc ?_ _)); exact BK230.out)) : gb277 ≠ gb230)); have n20_ := As0 ((by rw [hg]; exact Nat.ne_of_lt (blk_lt (g := gb240) (o := .cells #[.int .i64 t234, .int .i64 (wrap64 (t235 + (wrap64 (Int.tmod a4 5)))), .int .i64 (wrap64 (t236 + (wrap64 (Int.tmod a4 7)))), .slice Ao45 y241.length co45] 63 (0, 0)) (by (with_reducible repeat (first | refine blk_drewN ?_ _ | refine blk_drew ?_ | refine blk_alloc ?_ _)); exact BK240.out)) : gb240 ≠ gb277)); have n21_ := As0 ((by rw [hg]; exact Nat.ne_of_gt (blk_lt (g := gb240) (o := .cells #[.int .i64 t234, .int .i64 (wrap64 (t235 + (wrap64 (Int.tmod a4 5)))), .int .i64 (wrap64 (t236 + (wrap64 (Int.tmod a4 7)))), .slice Ao45 y241.length co45] 63 (0, 0)) (by (with_reducible repeat (first | refine blk_drewN ?_ _ | refine blk_drew ?_ | refine blk_alloc ?_ _)); exact BK240.out)) : gb277 ≠ gb240)); have n22_ := As0 ((by rw [hg]; exact Nat.ne_of_lt (blk_lt (g := gb261) (o := .cells #[.int .i64 t246, .int .i64 t247, .int .i64 t248, .int .i64 t249, .slice Ao82 t250.length co82, .slice Ao83 t253.length co83, .slice Ao84 t256.length co84, .int .i64 t259] 39 (0, 0)) (by (with_reducible repeat (first | refine blk_drewN ?_ _ | refine blk_drew ?_ | refine blk_alloc ?_ _)); exact BK261.out)) : gb261 ≠ gb277)); have n23_ := As0 ((by rw [hg]; exact Nat.ne_of_gt (blk_lt (g := gb261) (o := .cells #[.int .i64 t246, .int .i64 t247, .int .i64 t248, .int .i64 t249, .slice Ao82 t250.length co82, .slice Ao83 t253.length co83, .slice Ao84 t256.length co84, .int .i64 t259] 39 (0, 0)) (by (with_reducible repeat (first | refine blk_drewN ?_ _ | refine blk_drew ?_ | refine blk_alloc ?_ _)); exact BK261.out)) : gb277 ≠ gb261)); clear HO_231000 HO_241003 HO252 HO255 HO258 HO268 HO271 HO274 BK229 BK230 BK240 BK261 HB; have HO_231000 := n0_; have HO_241003 := n1_; have HO252 := n2_; have HO255 := n3_; have HO258 := n4_; have HO268 := n5_; have HO271 := n6_; have HO274 := n7_; have BK229 := n8_; have BK230 := n9_; have BK240 := n10_; have BK261 := n11_; have HB := n12_; have BK277 := n13_; have GW277 := n14_; have GE277 := n15_; have NB229_277 := n16_; have NB277_229 := n17_; have NB230_277 := n18_; have NB277_230 := n19_; have NB240_277 := n20_; have NB277_240 := n21_; have NB261_277 := n22_; have NB277_261 := n23_; clear n0_ n1_ n2_ n3_ n4_ n5_ n6_ n7_ n8_ n9_ n10_ n11_ n12_ n13_ n14_ n15_ n16_ n17_ n18_ n19_ n20_ n21_ n22_ n23_ hb hbox hg; have hnb89 := NB277_229.out; have hnc89 := NB229_277.out; have hnb90 := NB277_230.out; have hnc90 := NB230_277.out; have hnb91 := NB277_240.out; have hnc91 := NB240_277.out; have hnb92 := NB277_261.out; have hnc92 := NB261_277.out; have hcz93_0 : w88.cell? ⟨gb277, 0, none⟩ = some (.int .i64 0) := (blk_cell BK277.out 0).trans rfl; have hcz93_1 : w88.cell? ⟨gb277, 1, none⟩ = some (.int .i64 0) := (blk_cell BK277.out 1).trans rfl; have hcz93_2 : w88.cell? ⟨gb277, 2, none⟩ = some (.int .i64 0) := (blk_cell BK277.out 2).trans rfl; have hcz93_3 : w88.cell? ⟨gb277, 3, none⟩ = some (.int .i64 0) := (blk_cell BK277.out 3).trans rfl; have hcz93_4 : w88.cell? ⟨gb277, 4, none⟩ = some (.slice none 0 0) := (blk_cell BK277.out 4).trans rfl; have hcz93_5 : w88.cell? ⟨gb277, 5, none⟩ = some (.slice none 0 0) := (blk_cell BK277.out 5).trans rfl; have hcz93_6 : w88.cell? ⟨gb277, 6, none⟩ = some (.slice none 0 0) := (blk_cell BK277.out 6).trans rfl; have hcz93_7 : w88.cell? ⟨gb277, 7, none⟩ = some (.int .i64 0) := (blk_cell BK277.out 7).trans rfl; have hfz93_0 := blk_frozen BK277.out 0; have hfz93_1 := blk_frozen BK277.out 1; have hfz93_2 := blk_frozen BK277.out 2; have hfz93_3 := blk_frozen BK277.out 3; have hfz93_4 := blk_frozen BK277.out 4; have hfz93_5 := blk_frozen BK277.out 5; have hfz93_6 := blk_frozen BK277.out 6; have hfz93_7 := blk_frozen BK277.out 7; obtain ⟨Ao94, co94, eo94⟩ := Kd.R_slice HO268.out; subst eo94; obtain ⟨Ao95, co95, eo95⟩ := Kd.R_slice HO271.out; subst eo95; obtain ⟨Ao96, co96, eo96⟩ := Kd.R_slice HO274.out; subst eo96; have hcz97_0 : w88.cell? ⟨gb261, 0, none⟩ = some (.int .i64 t246) := (blk_cell BK261.out 0).trans rfl; have hcz97_1 : w88.cell? ⟨gb261, 1, none⟩ = some (.int .i64 t247) := (blk_cell BK261.out 1).trans rfl; have hcz97_2 : w88.cell? ⟨gb261, 2, none⟩ = some (.int .i64 t248) := (blk_cell BK261.out 2).trans rfl; have hcz97_3 : w88.cell? ⟨gb261, 3, none⟩ = some (.int .i64 t249) := (blk_cell BK261.out 3).trans rfl; have hcz97_4 : w88.cell? ⟨gb261, 4, none⟩ = some (.slice Ao82 t250.length co82) := (blk_cell BK261.out 4).trans rfl; have hcz97_5 : w88.cell? ⟨gb261, 5, none⟩ = some (.slice Ao83 t253.length co83) := (blk_cell BK261.out 5).trans rfl; have hcz97_6 : w88.cell? ⟨gb261, 6, none⟩ = some (.slice Ao84 t256.length co84) := (blk_cell BK261.out 6).trans rfl; have hcz97_7 : w88.cell? ⟨gb261, 7, none⟩ = some (.int .i64 t259) := (blk_cell BK261.out 7).trans rfl; have hfz97_0 := blk_frozen BK261.out 0; have hfz97_1 := blk_frozen BK261.out 1; have hfz97_2 := blk_frozen BK261.out 2; have hfz97_3 := blk_frozen BK261.out 3; have hfz97_4 := blk_frozen BK261.out 4; have hfz97_5 := blk_frozen BK261.out 5; have hfz97_6 := blk_frozen BK261.out 6; have hfz97_7 := blk_frozen BK261.out 7) | (go_at_call 37; (with_reducible refine (regcertref09_Values.calls kj27 _ _ t256 _ _ t272 true _ ?side1 ?side2 ?side3 ?side4 A68.out).mono ?_); (case side1 => refine (Kd.R_reads' (e := 2) (base := w.heap.size) (ok := fun k_ => (((((w.heap.size ≤ k_) ∧ (some k_ ≠ (.slice Ao82 t250.length co82 : Value).ownBlock ∧ some k_ ≠ (.slice Ao83 t253.length co83 : Value).ownBlock)) ∧ some k_ ≠ (.slice Ao94 t266.length co94 : Value).ownBlock) ∧ some k_ ≠ (.slice Ao95 t269.length co95 : Value).ownBlock) ∧ some k_ ≠ (.slice Ao96 t272.length co96 : Value).ownBlock)) (n := t256.length) (c := co84) ?_).2.2; exact (by (with_reducible repeat (first | apply Kd.R_alloc | apply Kd.R_drewN | apply Kd.R_drew)); exact (Kd.R_mono (R8 (Kd.R_types HO258.out BK277.out (by decide))) (fun _ h_ => h_.1)))); (case side2 => exact (Kd.R_reads' HO258.out).2.1); (case side3 => refine (Kd.R_reads' (e := 2) (base := w.heap.size) (ok := fun k_ => (((((w.heap.size ≤ k_) ∧ (some k_ ≠ (.slice Ao94 t266.length co94 : Value).ownBlock ∧ some k_ ≠ (.slice Ao95 t269.length co95 : Value).ownBlock)) ∧ some k_ ≠ (.slice Ao82 t250.length co82 : Value).ownBlock) ∧ some k_ ≠ (.slice Ao83 t253.length co83 : Value).ownBlock) ∧ some k_ ≠ (.slice Ao84 t256.length co84 : Value).ownBlock)) (n := t272.length) (c := co96) ?_).2.2; exact (by (with_reducible repeat (first | apply Kd.R_alloc | apply Kd.R_drewN | apply Kd.R_drew)); exact (Kd.R_mono (R8 (Kd.R_types HO274.out BK277.out (by decide))) (fun _ h_ => h_.1)))); (case side4 => exact (Kd.R_reads' HO274.out).2.1); rintro e w' ⟨rfl, ⟨nd, rfl⟩⟩) | (go_at_call 32; (with_reducible refine (regcertref09_Prefix.calls kj27 _ _ t250 _ _ t266 true _ ?side1 ?side2 ?side3 ?side4 A70.out).mono ?_); (case side1 => refine (Kd.R_reads' (e := 2) (base := w.heap.size) (ok := fun k_ => (((((w.heap.size ≤ k_) ∧ (some k_ ≠ (.slice Ao83 t253.length co83 : Value).ownBlock ∧ some k_ ≠ (.slice Ao84 t256.length co84 : Value).ownBlock)) ∧ some k_ ≠ (.slice Ao94 t266.length co94 : Value).ownBlock) ∧ some k_ ≠ (.slice Ao95 t269.length co95 : Value).ownBlock) ∧ some k_ ≠ (.slice Ao96 t272.length co96 : Value).ownBlock)) (n := t250.length) (c := co82) ?_).2.2; exact (by (with_reducible repeat (first | apply Kd.R_alloc | apply Kd.R_drewN | apply Kd.R_drew)); exact (Kd.R_mono (R8 (Kd.R_types HO252.out BK277.out (by decide))) (fun _ h_ => h_.1)))); (case side2 => exact (Kd.R_reads' HO252.out).2.1); (case side3 => refine (Kd.R_reads' (e := 2) (base := w.heap.size) (ok := fun k_ => (((((w.heap.size ≤ k_) ∧ (some k_ ≠ (.slice Ao95 t269.length co95 : Value).ownBlock ∧ some k_ ≠ (.slice Ao96 t272.length co96 : Value).ownBlock)) ∧ some k_ ≠ (.slice Ao82 t250.length co82 : Value).ownBlock) ∧ some k_ ≠ (.slice Ao83 t253.length co83 : Value).ownBlock) ∧ some k_ ≠ (.slice Ao84 t256.length co84 : Value).ownBlock)) (n := t266.length) (c := co94) ?_).2.2; exact (by (with_reducible repeat (first | apply Kd.R_alloc | apply Kd.R_drewN | apply Kd.R_drew)); exact (Kd.R_mono (R8 (Kd.R_types HO268.out BK277.out (by decide))) (fun _ h_ => h_.1)))); (case side4 => exact (Kd.R_reads' HO268.out).2.1); rintro e w' ⟨rfl, ⟨nd, rfl⟩⟩) | (go_at_call 32; (with_reducible refine (regcertref09_Prefix.calls kj27 _ _ t253 _ _ t269 t280 _ ?side1 ?side2 ?side3 ?side4 A72.out).mono ?_); (case side1 => refine (Kd.R_reads' (e := 2) (base := w.heap.size) (ok := fun k_ => (((((w.heap.size ≤ k_) ∧ (some k_ ≠ (.slice Ao82 t250.length co82 : Value).ownBlock ∧ some k_ ≠ (.slice Ao84 t256.length co84 : Value).ownBlock)) ∧ some k_ ≠ (.slice Ao94 t266.length co94 : Value).ownBlock) ∧ some k_ ≠ (.slice Ao95 t269.length co95 : Value).ownBlock) ∧ some k_ ≠ (.slice Ao96 t272.length co96 : Value).ownBlock)) (n := t253.length) (c := co83) ?_).2.2; exact (by (with_reducible repeat (first | apply Kd.R_alloc | apply Kd.R_drewN | apply Kd.R_drew)); exact (Kd.R_mono (R8 (Kd.R_types HO255.out BK277.out (by decide))) (fun _ h_ => h_.1)))); (case side2 => exact (Kd.R_reads' HO255.out).2.1); (case side3 => refine (Kd.R_reads' (e := 2) (base := w.heap.size) (ok := fun k_ => (((((w.heap.size ≤ k_) ∧ (some k_ ≠ (.slice Ao94 t266.length co94 : Value).ownBlock ∧ some k_ ≠ (.slice Ao96 t272.length co96 : Value).ownBlock)) ∧ some k_ ≠ (.slice Ao82 t250.length co82 : Value).ownBlock) ∧ some k_ ≠ (.slice Ao83 t253.length co83 : Value).ownBlock) ∧ some k_ ≠ (.slice Ao84 t256.length co84 : Value).ownBlock)) (n := t269.length) (c := co95) ?_).2.2; exact (by (with_reducible repeat (first | apply Kd.R_alloc | apply Kd.R_drewN | apply Kd.R_drew)); exact (Kd.R_mono (R8 (Kd.R_types HO271.out BK277.out (by decide))) (fun _ h_ => h_.1)))); (case side4 => exact (Kd.R_reads' HO271.out).2.1); rintro e w' ⟨rfl, ⟨nd, rfl⟩⟩))
               go_ret
               exact ⟨by first | rfl | (simp [errW_none, errW_some] <;> rfl) | (simp [*, errW_none, errW_some] <;> rfl), by repeat (first | (with_reducible first | exact HB.out | apply below_alloc | apply bdN | apply bd1 | refine below_set ?_ GE229.out | refine below_set ?_ GE230.out | refine below_set ?_ GE240.out | refine below_set ?_ GE261.out | refine below_set ?_ GE277.out) | exact HB.out)⟩
              ·replace c71 := Bool.eq_false_iff.mpr c71
               subst c71
               have H1 : (none) = some r := by rw [if_neg (show ¬ (false = true) by decide)] at H; exact H
               clear H
               have H := H1
               clear H1
               exact absurd H (by simp)
             ·replace c69 := Bool.eq_false_iff.mpr c69
              subst c69
              have H1 : (none) = some r := by rw [if_neg (show ¬ (false = true) by decide)] at H; exact H
              clear H
              have H := H1
              clear H1
              exact absurd H (by simp)
            ·rw [if_neg c67] at H
             exact absurd H (by simp)
           ·rw [if_neg c66] at H
            exact absurd H (by simp)
          ·rw [if_neg c65] at H
           exact absurd H (by simp)
         ·rw [if_neg c64] at H
          exact absurd H (by simp)
        ·rw [if_neg c63] at H
         exact absurd H (by simp)
    ·rw [if_neg c27] at H
     exact absurd H (by simp)

end Go.Proofs.Ytgkmagfajalnhaa.E
