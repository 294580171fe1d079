-- Written by a program of this session (xprint), out of the translation. Not trusted: Lean checks it.
import Derived.Test.YtgkmagfajalnhaaY0
import Derived.Test.YtgkmagfajalnhaaY1
namespace Go.Proofs.Ytgkmagfajalnhaa.Y
open Go.RowKit Go.Proofs.YtgkmagfajalnhaaW.PrintWords Go.Proofs.YtgkmagfajalnhaaW.PrintLast Go.Proofs.YtgkmagfajalnhaaW.PrintMore
attribute [local go_sem] max2_int min2_int max_two min_two max_three min_three max_four min_four   -- for this text's walks alone
set_option linter.unusedVariables false
set_option linter.unusedSimpArgs false

/-! ### regcertref07_Instr: function 65 -/
mutual
def regcertref07_Instr.j0 : Nat → Int → Bool → Int → Int → Int → Int → Int → Option (Int)
 | 0, _, _, _, _, _, _, _ => none
 | k + 1, x1, x12, x187000, x187001, x187002, x187003, x187004 => if x12 = true then (some 8) else ((regcertref05_UsesD.f x187000).bind fun t187 => (if t187 = true then ((regcertref07_in.f x187001 x1).bind fun t188 => (if t188 = true then ((regcertref05_UsesA.f x187000).bind fun t189 => (if t189 = true then ((regcertref07_in.f x187002 x1).bind fun t190 => (if t190 = true then ((regcertref05_UsesB.f x187000).bind fun t191 => (if t191 = true then ((regcertref07_in.f x187003 x1).bind fun t192 => (regcertref07_Instr.j1 k (!t192) x187000 x187001 x187002 x187003 x187004)) else (regcertref07_Instr.j1 k false x187000 x187001 x187002 x187003 x187004))) else (regcertref07_Instr.j1 k true x187000 x187001 x187002 x187003 x187004))) else ((regcertref05_UsesB.f x187000).bind fun t193 => (if t193 = true then ((regcertref07_in.f x187003 x1).bind fun t194 => (regcertref07_Instr.j1 k (!t194) x187000 x187001 x187002 x187003 x187004)) else (regcertref07_Instr.j1 k false x187000 x187001 x187002 x187003 x187004))))) else (regcertref07_Instr.j1 k true x187000 x187001 x187002 x187003 x187004))) else ((regcertref05_UsesA.f x187000).bind fun t195 => (if t195 = true then ((regcertref07_in.f x187002 x1).bind fun t196 => (if t196 = true then ((regcertref05_UsesB.f x187000).bind fun t197 => (if t197 = true then ((regcertref07_in.f x187003 x1).bind fun t198 => (regcertref07_Instr.j1 k (!t198) x187000 x187001 x187002 x187003 x187004)) else (regcertref07_Instr.j1 k false x187000 x187001 x187002 x187003 x187004))) else (regcertref07_Instr.j1 k true x187000 x187001 x187002 x187003 x187004))) else ((regcertref05_UsesB.f x187000).bind fun t199 => (if t199 = true then ((regcertref07_in.f x187003 x1).bind fun t200 => (regcertref07_Instr.j1 k (!t200) x187000 x187001 x187002 x187003 x187004)) else (regcertref07_Instr.j1 k false x187000 x187001 x187002 x187003 x187004)))))))
def regcertref07_Instr.j1 : Nat → Bool → Int → Int → Int → Int → Int → Option (Int)
 | 0, _, _, _, _, _, _ => none
 | k + 1, x46, x187000, x187001, x187002, x187003, x187004 => if x46 = true then (some 9) else ((regcertref05_UsesD.f x187000).bind fun t201 => (if t201 = true then ((regcertref05_UsesA.f x187000).bind fun t202 => (if t202 = true then ((regcertref05_UsesB.f x187000).bind fun t203 => (if t203 = true then (if x187000 = 1 then (regcertref07_Instr.j2 k false) else (regcertref07_Instr.j2 k (x187004 != 0))) else (if x187003 = 0 then (if x187000 = 1 then (regcertref07_Instr.j2 k false) else (regcertref07_Instr.j2 k (x187004 != 0))) else (regcertref07_Instr.j2 k true)))) else (if x187002 = 0 then ((regcertref05_UsesB.f x187000).bind fun t204 => (if t204 = true then (if x187000 = 1 then (regcertref07_Instr.j2 k false) else (regcertref07_Instr.j2 k (x187004 != 0))) else (if x187003 = 0 then (if x187000 = 1 then (regcertref07_Instr.j2 k false) else (regcertref07_Instr.j2 k (x187004 != 0))) else (regcertref07_Instr.j2 k true)))) else (regcertref07_Instr.j2 k true)))) else (if x187001 = 0 then ((regcertref05_UsesA.f x187000).bind fun t205 => (if t205 = true then ((regcertref05_UsesB.f x187000).bind fun t206 => (if t206 = true then (if x187000 = 1 then (regcertref07_Instr.j2 k false) else (regcertref07_Instr.j2 k (x187004 != 0))) else (if x187003 = 0 then (if x187000 = 1 then (regcertref07_Instr.j2 k false) else (regcertref07_Instr.j2 k (x187004 != 0))) else (regcertref07_Instr.j2 k true)))) else (if x187002 = 0 then ((regcertref05_UsesB.f x187000).bind fun t207 => (if t207 = true then (if x187000 = 1 then (regcertref07_Instr.j2 k false) else (regcertref07_Instr.j2 k (x187004 != 0))) else (if x187003 = 0 then (if x187000 = 1 then (regcertref07_Instr.j2 k false) else (regcertref07_Instr.j2 k (x187004 != 0))) else (regcertref07_Instr.j2 k true)))) else (regcertref07_Instr.j2 k true)))) else (regcertref07_Instr.j2 k true))))
def regcertref07_Instr.j2 : Nat → Bool → Option (Int)
 | 0, _ => none
 | k + 1, x87 => if x87 = true then (some 12) else (some 0)
end
def regcertref07_Instr.f (k : Nat) (a0_0 : Int) (a0_1 : Int) (a0_2 : Int) (a0_3 : Int) (a0_4 : Int) (a1 : Int) : Option (Int) := if a0_0 < 1 then (regcertref07_Instr.j0 k a1 true a0_0 a0_1 a0_2 a0_3 a0_4) else (regcertref07_Instr.j0 k a1 (decide (a0_0 > 17)) a0_0 a0_1 a0_2 a0_3 a0_4)
theorem regcertref07_Instr.mono_l : ∀ k, (∀ y0 y1 y2 y3 y4 y5 y6, LeO (regcertref07_Instr.j0 k y0 y1 y2 y3 y4 y5 y6) (regcertref07_Instr.j0 (k + 1) y0 y1 y2 y3 y4 y5 y6)) ∧ (∀ y0 y1 y2 y3 y4 y5, LeO (regcertref07_Instr.j1 k y0 y1 y2 y3 y4 y5) (regcertref07_Instr.j1 (k + 1) y0 y1 y2 y3 y4 y5)) ∧ (∀ y0, LeO (regcertref07_Instr.j2 k y0) (regcertref07_Instr.j2 (k + 1) y0))
 | 0 => ⟨fun _ _ _ _ _ _ _ r h => by simp [regcertref07_Instr.j0] at h, fun _ _ _ _ _ _ r h => by simp [regcertref07_Instr.j1] at h, fun _ r h => by simp [regcertref07_Instr.j2] at h⟩
 | k + 1 => by
  obtain ⟨ih0, ih1, ih2⟩ := regcertref07_Instr.mono_l k
  refine ⟨?_, ?_, ?_⟩
  ·intro y0 y1 y2 y3 y4 y5 y6
   unfold regcertref07_Instr.j0
   repeat' first
   | (with_reducible exact ih0 _ _ _ _ _ _ _)
   | (with_reducible exact ih1 _ _ _ _ _ _)
   | (with_reducible exact ih2 _)
   | (with_reducible exact LeO.refl _)
   | (with_reducible exact LeO.none _)
   | (with_reducible refine LeO.ite ?_ ?_)
   | (with_reducible refine LeO.bind ?_ (fun _ => ?_))
   | exact ih0 _ _ _ _ _ _ _
   | exact ih1 _ _ _ _ _ _
   | exact ih2 _
   | exact LeO.none _
   | refine LeO.ite ?_ ?_
   | refine LeO.bind ?_ (fun _ => ?_)
  ·intro y0 y1 y2 y3 y4 y5
   unfold regcertref07_Instr.j1
   repeat' first
   | (with_reducible exact ih0 _ _ _ _ _ _ _)
   | (with_reducible exact ih1 _ _ _ _ _ _)
   | (with_reducible exact ih2 _)
   | (with_reducible exact LeO.refl _)
   | (with_reducible exact LeO.none _)
   | (with_reducible refine LeO.ite ?_ ?_)
   | (with_reducible refine LeO.bind ?_ (fun _ => ?_))
   | exact ih0 _ _ _ _ _ _ _
   | exact ih1 _ _ _ _ _ _
   | exact ih2 _
   | exact LeO.none _
   | refine LeO.ite ?_ ?_
   | refine LeO.bind ?_ (fun _ => ?_)
  ·intro y0
   unfold regcertref07_Instr.j2
   repeat' first
   | (with_reducible exact ih0 _ _ _ _ _ _ _)
   | (with_reducible exact ih1 _ _ _ _ _ _)
   | (with_reducible exact ih2 _)
   | (with_reducible exact LeO.refl _)
   | (with_reducible exact LeO.none _)
   | (with_reducible refine LeO.ite ?_ ?_)
   | (with_reducible refine LeO.bind ?_ (fun _ => ?_))
   | exact ih0 _ _ _ _ _ _ _
   | exact ih1 _ _ _ _ _ _
   | exact ih2 _
   | exact LeO.none _
   | refine LeO.ite ?_ ?_
   | refine LeO.bind ?_ (fun _ => ?_)
theorem regcertref07_Instr.mono : ∀ a0 a1 a2 a3 a4 a5 k, LeO (regcertref07_Instr.f k a0 a1 a2 a3 a4 a5) (regcertref07_Instr.f (k + 1) a0 a1 a2 a3 a4 a5) := by
 intro a0 a1 a2 a3 a4 a5 k
 obtain ⟨ih0, ih1, ih2⟩ := regcertref07_Instr.mono_l k
 unfold regcertref07_Instr.f
 repeat' first
   | (with_reducible exact ih0 _ _ _ _ _ _ _)
   | (with_reducible exact ih1 _ _ _ _ _ _)
   | (with_reducible exact ih2 _)
   | (with_reducible exact LeO.refl _)
   | (with_reducible exact LeO.none _)
   | (with_reducible refine LeO.ite ?_ ?_)
   | (with_reducible refine LeO.bind ?_ (fun _ => ?_))
   | exact ih0 _ _ _ _ _ _ _
   | exact ih1 _ _ _ _ _ _
   | exact ih2 _
   | exact LeO.none _
   | refine LeO.ite ?_ ?_
   | refine LeO.bind ?_ (fun _ => ?_)
set_option maxHeartbeats 8000000 in
set_option maxRecDepth 100000 in
theorem regcertref07_Instr.calls (k : Nat) (a0_0 : Int) (a0_1 : Int) (a0_2 : Int) (a0_3 : Int) (a0_4 : Int) (a1 : Int) (r : Int) (w : World) (h : regcertref07_Instr.f k a0_0 a0_1 a0_2 a0_3 a0_4 a1 = some r) :
  Calls Try.prog 65 #[.agg #[.int .i64 a0_0, .int .i64 a0_1, .int .i64 a0_2, .int .i64 a0_3, .int .i64 a0_4], .int .i64 a1] w fun e w' => e = .returned (.int .i64 r) ∧ Below w.heap.size w w' := by
 have hu97 := Try.underlying97
 have HB := As0 (Below.refl w.heap.size w)
 have H : (if a0_0 < 1 then (regcertref07_Instr.j0 k a1 true a0_0 a0_1 a0_2 a0_3 a0_4) else (regcertref07_Instr.j0 k a1 (decide (a0_0 > 17)) a0_0 a0_1 a0_2 a0_3 a0_4)) = some r := h
 clear h
 have HC3 := As0 H
 clear H
 go_enter Try.func65, Try.ntmps65
 go_upto_region 1 with (first | ((with_reducible refine gate_dst (N := 2) rfl ?_); refine box_event ?hg (N := 2) ?hd (cs := #[.int .i64 a0_0, .int .i64 a0_1, .int .i64 a0_2, .int .i64 a0_3, .int .i64 a0_4]) (t := 97) ?hr ?_; (case hd => rfl); (case hg => rfl); (case hr => first | (go_simp; done) | (go_simp; rfl)); intro gb186 hg w4 hbox hb; have n0_ := As0 (below_step (by repeat (first | (with_reducible first | exact HB.out | apply below_alloc | apply bdN | apply bd1) | exact HB.out)) hb); have n1_ := As0 (hbox); have n2_ := As0 ((by rw [hg]; exact (below_size (by repeat (first | (with_reducible first | exact HB.out | apply below_alloc | apply bdN | apply bd1) | exact HB.out))) : w.heap.size ≤ gb186)); have n3_ := As0 ((by rw [hg]; exact (below_size (by repeat (first | (with_reducible first | exact HB.out | apply below_alloc | apply bdN | apply bd1) | exact HB.out))) : w.heap.size ≤ gb186)); clear HB; have HB := n0_; have BK186 := n1_; have GW186 := n2_; have GE186 := n3_; clear n0_ n1_ n2_ n3_; clear hb hbox hg))
 (try simp only [Act.put, sL1, sL2, sL3])
 go_cut [12] (fun v12 wc => ∃ (kq : Nat) (x12_2 : Bool), v12 = .bool x12_2 ∧ Aside0 (regcertref07_Instr.j0 kq a1 x12_2 a0_0 a0_1 a0_2 a0_3 a0_4 = some r) ∧ Aside0 (kq ≤ k) ∧ Aside0 (wc.heap[gb186]? = some (.cells #[.int .i64 a0_0, .int .i64 a0_1, .int .i64 a0_2, .int .i64 a0_3, .int .i64 a0_4] 97 (0, 0))) ∧ Aside0 (Below w.heap.size w wc))
 case first =>
  have H := HC3.out
  clear HC3
  by_cases c5 : a0_0 < 1
  ·rw [if_pos c5] at H
   have c5b0 : decide (a0_0 < 1) = true := decide_eq_true c5
   clear c5
   (first | rw [c5b0] | (simp only [i64_w, i32_w]; rw [c5b0]) | skip)
   have H' := As0 H
   clear H
   have hcz6_0 : w4.cell? ⟨gb186, 0, none⟩ = some (.int .i64 a0_0) := (blk_cell BK186.out 0).trans rfl
   have hcz6_1 : w4.cell? ⟨gb186, 1, none⟩ = some (.int .i64 a0_1) := (blk_cell BK186.out 1).trans rfl
   have hcz6_2 : w4.cell? ⟨gb186, 2, none⟩ = some (.int .i64 a0_2) := (blk_cell BK186.out 2).trans rfl
   have hcz6_3 : w4.cell? ⟨gb186, 3, none⟩ = some (.int .i64 a0_3) := (blk_cell BK186.out 3).trans rfl
   have hcz6_4 : w4.cell? ⟨gb186, 4, none⟩ = some (.int .i64 a0_4) := (blk_cell BK186.out 4).trans rfl
   have hfz6_0 := blk_frozen BK186.out 0
   have hfz6_1 := blk_frozen BK186.out 1
   have hfz6_2 := blk_frozen BK186.out 2
   have hfz6_3 := blk_frozen BK186.out 3
   have hfz6_4 := blk_frozen BK186.out 4
   go_wp2
   go_meet
   case rel => exact ⟨_, (true), (by first | rfl | (simp; done) | (simp [*]; done)), H', ⟨by first | omega | exact Nat.le_refl _⟩, ⟨by (with_reducible repeat (first | refine blk_drewN ?_ _ | refine blk_drew ?_ | refine blk_alloc ?_ _)); exact BK186.out⟩, ⟨by repeat (first | (with_reducible first | exact HB.out | apply below_alloc | apply bdN | apply bd1 | refine below_set ?_ GE186.out) | exact HB.out)⟩⟩
  ·rw [if_neg c5] at H
   have c5b0 : decide (a0_0 < 1) = false := decide_eq_false c5
   clear c5
   (first | rw [c5b0] | (simp only [i64_w, i32_w]; rw [c5b0]) | skip)
   have H' := As0 H
   clear H
   have hcz7_0 : w4.cell? ⟨gb186, 0, none⟩ = some (.int .i64 a0_0) := (blk_cell BK186.out 0).trans rfl
   have hcz7_1 : w4.cell? ⟨gb186, 1, none⟩ = some (.int .i64 a0_1) := (blk_cell BK186.out 1).trans rfl
   have hcz7_2 : w4.cell? ⟨gb186, 2, none⟩ = some (.int .i64 a0_2) := (blk_cell BK186.out 2).trans rfl
   have hcz7_3 : w4.cell? ⟨gb186, 3, none⟩ = some (.int .i64 a0_3) := (blk_cell BK186.out 3).trans rfl
   have hcz7_4 : w4.cell? ⟨gb186, 4, none⟩ = some (.int .i64 a0_4) := (blk_cell BK186.out 4).trans rfl
   have hfz7_0 := blk_frozen BK186.out 0
   have hfz7_1 := blk_frozen BK186.out 1
   have hfz7_2 := blk_frozen BK186.out 2
   have hfz7_3 := blk_frozen BK186.out 3
   have hfz7_4 := blk_frozen BK186.out 4
   go_wp2
   go_meet
   case rel => exact ⟨_, (decide (a0_0 > 17)), (by first | rfl | (simp; done) | (simp [*]; done)), H', ⟨by first | omega | exact Nat.le_refl _⟩, ⟨by (with_reducible repeat (first | refine blk_drewN ?_ _ | refine blk_drew ?_ | refine blk_alloc ?_ _)); exact BK186.out⟩, ⟨by repeat (first | (with_reducible first | exact HB.out | apply below_alloc | apply bdN | apply bd1 | refine below_set ?_ GE186.out) | exact HB.out)⟩⟩
 case rest =>
  clear HC3
  try clear p2
  try clear c5
  try clear c5b0
  try clear c6
  try clear hcz6_0
  try clear hcz6_1
  try clear hcz6_2
  try clear hcz6_3
  try clear hcz6_4
  try clear hcz7_0
  try clear hcz7_1
  try clear hcz7_2
  try clear hcz7_3
  try clear hcz7_4
  try clear hfz6_0
  try clear hfz6_1
  try clear hfz6_2
  try clear hfz6_3
  try clear hfz6_4
  try clear hfz7_0
  try clear hfz7_1
  try clear hfz7_2
  try clear hfz7_3
  try clear hfz7_4
  obtain ⟨kq, x12_2, rfl, HA, HJ2, BK186, HB⟩ := hcut
  cases kq with
  | zero => exact absurd HA.out (by simp [regcertref07_Instr.j0])
  | succ kj2 =>
   have H := HA.out
   clear HA
   simp only [regcertref07_Instr.j0] at H
   by_cases c8 : x12_2 = true
   ·subst c8
    have H1 : (some 8) = some r := by rw [if_pos rfl] at H; exact H
    clear H
    have H := H1
    clear H1
    obtain rfl := Option.some.inj H
    go_wp2
    go_ret
    exact ⟨by first | rfl | (simp [errW_none, errW_some] <;> rfl) | (simp [*, errW_none, errW_some] <;> rfl), by repeat (first | (with_reducible first | exact HB.out | apply below_alloc | apply bdN | apply bd1 | refine below_set ?_ GE186.out) | exact HB.out)⟩
   ·replace c8 := Bool.eq_false_iff.mpr c8
    subst c8
    have H1 : ((regcertref05_UsesD.f a0_0).bind fun t187 => (if t187 = true then ((regcertref07_in.f a0_1 a1).bind fun t188 => (if t188 = true then ((regcertref05_UsesA.f a0_0).bind fun t189 => (if t189 = true then ((regcertref07_in.f a0_2 a1).bind fun t190 => (if t190 = true then ((regcertref05_UsesB.f a0_0).bind fun t191 => (if t191 = true then ((regcertref07_in.f a0_3 a1).bind fun t192 => (regcertref07_Instr.j1 kj2 (!t192) a0_0 a0_1 a0_2 a0_3 a0_4)) else (regcertref07_Instr.j1 kj2 false a0_0 a0_1 a0_2 a0_3 a0_4))) else (regcertref07_Instr.j1 kj2 true a0_0 a0_1 a0_2 a0_3 a0_4))) else ((regcertref05_UsesB.f a0_0).bind fun t193 => (if t193 = true then ((regcertref07_in.f a0_3 a1).bind fun t194 => (regcertref07_Instr.j1 kj2 (!t194) a0_0 a0_1 a0_2 a0_3 a0_4)) else (regcertref07_Instr.j1 kj2 false a0_0 a0_1 a0_2 a0_3 a0_4))))) else (regcertref07_Instr.j1 kj2 true a0_0 a0_1 a0_2 a0_3 a0_4))) else ((regcertref05_UsesA.f a0_0).bind fun t195 => (if t195 = true then ((regcertref07_in.f a0_2 a1).bind fun t196 => (if t196 = true then ((regcertref05_UsesB.f a0_0).bind fun t197 => (if t197 = true then ((regcertref07_in.f a0_3 a1).bind fun t198 => (regcertref07_Instr.j1 kj2 (!t198) a0_0 a0_1 a0_2 a0_3 a0_4)) else (regcertref07_Instr.j1 kj2 false a0_0 a0_1 a0_2 a0_3 a0_4))) else (regcertref07_Instr.j1 kj2 true a0_0 a0_1 a0_2 a0_3 a0_4))) else ((regcertref05_UsesB.f a0_0).bind fun t199 => (if t199 = true then ((regcertref07_in.f a0_3 a1).bind fun t200 => (regcertref07_Instr.j1 kj2 (!t200) a0_0 a0_1 a0_2 a0_3 a0_4)) else (regcertref07_Instr.j1 kj2 false a0_0 a0_1 a0_2 a0_3 a0_4))))))) = some r := by rw [if_neg (show ¬ (false = true) by decide)] at H; exact H
    clear H
    have H := H1
    clear H1
    have HC9 := As0 H
    clear H
    go_upto_region 3 with (fail)
    go_cut [46] (fun v46 wc => ∃ (kq : Nat) (x46_8 : Bool), v46 = .bool x46_8 ∧ Aside0 (regcertref07_Instr.j1 kq x46_8 a0_0 a0_1 a0_2 a0_3 a0_4 = some r) ∧ Aside0 (kq ≤ kj2) ∧ Aside0 (wc.heap[gb186]? = some (.cells #[.int .i64 a0_0, .int .i64 a0_1, .int .i64 a0_2, .int .i64 a0_3, .int .i64 a0_4] 97 (0, 0))) ∧ Aside0 (Below w.heap.size w wc))
    case first =>
     have H := HC9.out
     clear HC9
     replace H := Option.bind_eq_some_iff.mp H
     obtain ⟨t187, A100, H⟩ := H
     replace H : (if t187 = true then ((regcertref07_in.f a0_1 a1).bind fun t188 => (if t188 = true then ((regcertref05_UsesA.f a0_0).bind fun t189 => (if t189 = true then ((regcertref07_in.f a0_2 a1).bind fun t190 => (if t190 = true then ((regcertref05_UsesB.f a0_0).bind fun t191 => (if t191 = true then ((regcertref07_in.f a0_3 a1).bind fun t192 => (regcertref07_Instr.j1 kj2 (!t192) a0_0 a0_1 a0_2 a0_3 a0_4)) else (regcertref07_Instr.j1 kj2 false a0_0 a0_1 a0_2 a0_3 a0_4))) else (regcertref07_Instr.j1 kj2 true a0_0 a0_1 a0_2 a0_3 a0_4))) else ((regcertref05_UsesB.f a0_0).bind fun t193 => (if t193 = true then ((regcertref07_in.f a0_3 a1).bind fun t194 => (regcertref07_Instr.j1 kj2 (!t194) a0_0 a0_1 a0_2 a0_3 a0_4)) else (regcertref07_Instr.j1 kj2 false a0_0 a0_1 a0_2 a0_3 a0_4))))) else (regcertref07_Instr.j1 kj2 true a0_0 a0_1 a0_2 a0_3 a0_4))) else ((regcertref05_UsesA.f a0_0).bind fun t195 => (if t195 = true then ((regcertref07_in.f a0_2 a1).bind fun t196 => (if t196 = true then ((regcertref05_UsesB.f a0_0).bind fun t197 => (if t197 = true then ((regcertref07_in.f a0_3 a1).bind fun t198 => (regcertref07_Instr.j1 kj2 (!t198) a0_0 a0_1 a0_2 a0_3 a0_4)) else (regcertref07_Instr.j1 kj2 false a0_0 a0_1 a0_2 a0_3 a0_4))) else (regcertref07_Instr.j1 kj2 true a0_0 a0_1 a0_2 a0_3 a0_4))) else ((regcertref05_UsesB.f a0_0).bind fun t199 => (if t199 = true then ((regcertref07_in.f a0_3 a1).bind fun t200 => (regcertref07_Instr.j1 kj2 (!t200) a0_0 a0_1 a0_2 a0_3 a0_4)) else (regcertref07_Instr.j1 kj2 false a0_0 a0_1 a0_2 a0_3 a0_4)))))) = some r := H
     have A10 := As0 A100
     clear A100
     by_cases c11 : t187 = true
     ·subst c11
      have H1 : ((regcertref07_in.f a0_1 a1).bind fun t188 => (if t188 = true then ((regcertref05_UsesA.f a0_0).bind fun t189 => (if t189 = true then ((regcertref07_in.f a0_2 a1).bind fun t190 => (if t190 = true then ((regcertref05_UsesB.f a0_0).bind fun t191 => (if t191 = true then ((regcertref07_in.f a0_3 a1).bind fun t192 => (regcertref07_Instr.j1 kj2 (!t192) a0_0 a0_1 a0_2 a0_3 a0_4)) else (regcertref07_Instr.j1 kj2 false a0_0 a0_1 a0_2 a0_3 a0_4))) else (regcertref07_Instr.j1 kj2 true a0_0 a0_1 a0_2 a0_3 a0_4))) else ((regcertref05_UsesB.f a0_0).bind fun t193 => (if t193 = true then ((regcertref07_in.f a0_3 a1).bind fun t194 => (regcertref07_Instr.j1 kj2 (!t194) a0_0 a0_1 a0_2 a0_3 a0_4)) else (regcertref07_Instr.j1 kj2 false a0_0 a0_1 a0_2 a0_3 a0_4))))) else (regcertref07_Instr.j1 kj2 true a0_0 a0_1 a0_2 a0_3 a0_4))) = some r := by rw [if_pos rfl] at H; exact H
      clear H
      have H := H1
      clear H1
      replace H := Option.bind_eq_some_iff.mp H
      obtain ⟨t188, A120, H⟩ := H
      replace H : (if t188 = true then ((regcertref05_UsesA.f a0_0).bind fun t189 => (if t189 = true then ((regcertref07_in.f a0_2 a1).bind fun t190 => (if t190 = true then ((regcertref05_UsesB.f a0_0).bind fun t191 => (if t191 = true then ((regcertref07_in.f a0_3 a1).bind fun t192 => (regcertref07_Instr.j1 kj2 (!t192) a0_0 a0_1 a0_2 a0_3 a0_4)) else (regcertref07_Instr.j1 kj2 false a0_0 a0_1 a0_2 a0_3 a0_4))) else (regcertref07_Instr.j1 kj2 true a0_0 a0_1 a0_2 a0_3 a0_4))) else ((regcertref05_UsesB.f a0_0).bind fun t193 => (if t193 = true then ((regcertref07_in.f a0_3 a1).bind fun t194 => (regcertref07_Instr.j1 kj2 (!t194) a0_0 a0_1 a0_2 a0_3 a0_4)) else (regcertref07_Instr.j1 kj2 false a0_0 a0_1 a0_2 a0_3 a0_4))))) else (regcertref07_Instr.j1 kj2 true a0_0 a0_1 a0_2 a0_3 a0_4)) = some r := H
      have A12 := As0 A120
      clear A120
      by_cases c13 : t188 = true
      ·subst c13
       have H1 : ((regcertref05_UsesA.f a0_0).bind fun t189 => (if t189 = true then ((regcertref07_in.f a0_2 a1).bind fun t190 => (if t190 = true then ((regcertref05_UsesB.f a0_0).bind fun t191 => (if t191 = true then ((regcertref07_in.f a0_3 a1).bind fun t192 => (regcertref07_Instr.j1 kj2 (!t192) a0_0 a0_1 a0_2 a0_3 a0_4)) else (regcertref07_Instr.j1 kj2 false a0_0 a0_1 a0_2 a0_3 a0_4))) else (regcertref07_Instr.j1 kj2 true a0_0 a0_1 a0_2 a0_3 a0_4))) else ((regcertref05_UsesB.f a0_0).bind fun t193 => (if t193 = true then ((regcertref07_in.f a0_3 a1).bind fun t194 => (regcertref07_Instr.j1 kj2 (!t194) a0_0 a0_1 a0_2 a0_3 a0_4)) else (regcertref07_Instr.j1 kj2 false a0_0 a0_1 a0_2 a0_3 a0_4))))) = some r := by rw [if_pos rfl] at H; exact H
       clear H
       have H := H1
       clear H1
       replace H := Option.bind_eq_some_iff.mp H
       obtain ⟨t189, A140, H⟩ := H
       replace H : (if t189 = true then ((regcertref07_in.f a0_2 a1).bind fun t190 => (if t190 = true then ((regcertref05_UsesB.f a0_0).bind fun t191 => (if t191 = true then ((regcertref07_in.f a0_3 a1).bind fun t192 => (regcertref07_Instr.j1 kj2 (!t192) a0_0 a0_1 a0_2 a0_3 a0_4)) else (regcertref07_Instr.j1 kj2 false a0_0 a0_1 a0_2 a0_3 a0_4))) else (regcertref07_Instr.j1 kj2 true a0_0 a0_1 a0_2 a0_3 a0_4))) else ((regcertref05_UsesB.f a0_0).bind fun t193 => (if t193 = true then ((regcertref07_in.f a0_3 a1).bind fun t194 => (regcertref07_Instr.j1 kj2 (!t194) a0_0 a0_1 a0_2 a0_3 a0_4)) else (regcertref07_Instr.j1 kj2 false a0_0 a0_1 a0_2 a0_3 a0_4)))) = some r := H
       have A14 := As0 A140
       clear A140
       by_cases c15 : t189 = true
       ·subst c15
        have H1 : ((regcertref07_in.f a0_2 a1).bind fun t190 => (if t190 = true then ((regcertref05_UsesB.f a0_0).bind fun t191 => (if t191 = true then ((regcertref07_in.f a0_3 a1).bind fun t192 => (regcertref07_Instr.j1 kj2 (!t192) a0_0 a0_1 a0_2 a0_3 a0_4)) else (regcertref07_Instr.j1 kj2 false a0_0 a0_1 a0_2 a0_3 a0_4))) else (regcertref07_Instr.j1 kj2 true a0_0 a0_1 a0_2 a0_3 a0_4))) = some r := by rw [if_pos rfl] at H; exact H
        clear H
        have H := H1
        clear H1
        replace H := Option.bind_eq_some_iff.mp H
        obtain ⟨t190, A160, H⟩ := H
        replace H : (if t190 = true then ((regcertref05_UsesB.f a0_0).bind fun t191 => (if t191 = true then ((regcertref07_in.f a0_3 a1).bind fun t192 => (regcertref07_Instr.j1 kj2 (!t192) a0_0 a0_1 a0_2 a0_3 a0_4)) else (regcertref07_Instr.j1 kj2 false a0_0 a0_1 a0_2 a0_3 a0_4))) else (regcertref07_Instr.j1 kj2 true a0_0 a0_1 a0_2 a0_3 a0_4)) = some r := H
        have A16 := As0 A160
        clear A160
        by_cases c17 : t190 = true
        ·subst c17
         have H1 : ((regcertref05_UsesB.f a0_0).bind fun t191 => (if t191 = true then ((regcertref07_in.f a0_3 a1).bind fun t192 => (regcertref07_Instr.j1 kj2 (!t192) a0_0 a0_1 a0_2 a0_3 a0_4)) else (regcertref07_Instr.j1 kj2 false a0_0 a0_1 a0_2 a0_3 a0_4))) = some r := by rw [if_pos rfl] at H; exact H
         clear H
         have H := H1
         clear H1
         replace H := Option.bind_eq_some_iff.mp H
         obtain ⟨t191, A180, H⟩ := H
         replace H : (if t191 = true then ((regcertref07_in.f a0_3 a1).bind fun t192 => (regcertref07_Instr.j1 kj2 (!t192) a0_0 a0_1 a0_2 a0_3 a0_4)) else (regcertref07_Instr.j1 kj2 false a0_0 a0_1 a0_2 a0_3 a0_4)) = some r := H
         have A18 := As0 A180
         clear A180
         by_cases c19 : t191 = true
         ·subst c19
          have H1 : ((regcertref07_in.f a0_3 a1).bind fun t192 => (regcertref07_Instr.j1 kj2 (!t192) a0_0 a0_1 a0_2 a0_3 a0_4)) = some r := by rw [if_pos rfl] at H; exact H
          clear H
          have H := H1
          clear H1
          replace H := Option.bind_eq_some_iff.mp H
          obtain ⟨t192, A200, H⟩ := H
          replace H : (regcertref07_Instr.j1 kj2 (!t192) a0_0 a0_1 a0_2 a0_3 a0_4) = some r := H
          have A20 := As0 A200
          clear A200
          have H' := As0 H
          clear H
          have hcz21_0 : wc.cell? ⟨gb186, 0, none⟩ = some (.int .i64 a0_0) := (blk_cell BK186.out 0).trans rfl
          have hcz21_1 : wc.cell? ⟨gb186, 1, none⟩ = some (.int .i64 a0_1) := (blk_cell BK186.out 1).trans rfl
          have hcz21_2 : wc.cell? ⟨gb186, 2, none⟩ = some (.int .i64 a0_2) := (blk_cell BK186.out 2).trans rfl
          have hcz21_3 : wc.cell? ⟨gb186, 3, none⟩ = some (.int .i64 a0_3) := (blk_cell BK186.out 3).trans rfl
          have hcz21_4 : wc.cell? ⟨gb186, 4, none⟩ = some (.int .i64 a0_4) := (blk_cell BK186.out 4).trans rfl
          have hfz21_0 := blk_frozen BK186.out 0
          have hfz21_1 := blk_frozen BK186.out 1
          have hfz21_2 := blk_frozen BK186.out 2
          have hfz21_3 := blk_frozen BK186.out 3
          have hfz21_4 := blk_frozen BK186.out 4
          go_wp2_with (first | ((with_reducible refine gate_callee (f := 90) rfl ?_); refine goesL_ (some 15) rfl rfl Try.func90 (by kernel_rfl) rfl #[.int .i64 a0_0] rfl (by (try simp only [List.map_toArray, List.map_cons, List.map_nil]); first | done | rfl | (simp only [List.length_drop, List.length_take]; rfl)) ?_; (with_reducible refine (regcertref05_UsesD.calls a0_0 true _ A10.out).mono ?_); rintro e w' ⟨rfl, ⟨nd, rfl⟩⟩; refine ⟨_, rfl, ?_⟩) | (go_at_call 91; (with_reducible refine (regcertref07_in.calls a0_1 a1 true _ A12.out).mono ?_); rintro e w' ⟨rfl, ⟨nd, rfl⟩⟩) | (go_at_call 24; (with_reducible refine (regcertref05_UsesA.calls a0_0 true _ A14.out).mono ?_); rintro e w' ⟨rfl, ⟨nd, rfl⟩⟩) | (go_at_call 91; (with_reducible refine (regcertref07_in.calls a0_2 a1 true _ A16.out).mono ?_); rintro e w' ⟨rfl, ⟨nd, rfl⟩⟩) | (go_at_call 25; (with_reducible refine (regcertref05_UsesB.calls a0_0 true _ A18.out).mono ?_); rintro e w' ⟨rfl, ⟨nd, rfl⟩⟩) | (go_at_call 91; (with_reducible refine (regcertref07_in.calls a0_3 a1 t192 _ A20.out).mono ?_); rintro e w' ⟨rfl, ⟨nd, rfl⟩⟩))
          go_meet
          case rel => exact ⟨_, (!t192), (by first | rfl | (simp; done) | (simp [*]; done)), H', ⟨by have := HJ2.out; first | omega | exact Nat.le_refl _⟩, ⟨by (with_reducible repeat (first | refine blk_drewN ?_ _ | refine blk_drew ?_ | refine blk_alloc ?_ _)); exact BK186.out⟩, ⟨by repeat (first | (with_reducible first | exact HB.out | apply below_alloc | apply bdN | apply bd1 | refine below_set ?_ GE186.out) | exact HB.out)⟩⟩
         ·replace c19 := Bool.eq_false_iff.mpr c19
          subst c19
          have H1 : (regcertref07_Instr.j1 kj2 false a0_0 a0_1 a0_2 a0_3 a0_4) = some r := by rw [if_neg (show ¬ (false = true) by decide)] at H; exact H
          clear H
          have H := H1
          clear H1
          have H' := As0 H
          clear H
          have hcz22_0 : wc.cell? ⟨gb186, 0, none⟩ = some (.int .i64 a0_0) := (blk_cell BK186.out 0).trans rfl
          have hcz22_1 : wc.cell? ⟨gb186, 1, none⟩ = some (.int .i64 a0_1) := (blk_cell BK186.out 1).trans rfl
          have hcz22_2 : wc.cell? ⟨gb186, 2, none⟩ = some (.int .i64 a0_2) := (blk_cell BK186.out 2).trans rfl
          have hcz22_3 : wc.cell? ⟨gb186, 3, none⟩ = some (.int .i64 a0_3) := (blk_cell BK186.out 3).trans rfl
          have hcz22_4 : wc.cell? ⟨gb186, 4, none⟩ = some (.int .i64 a0_4) := (blk_cell BK186.out 4).trans rfl
          have hfz22_0 := blk_frozen BK186.out 0
          have hfz22_1 := blk_frozen BK186.out 1
          have hfz22_2 := blk_frozen BK186.out 2
          have hfz22_3 := blk_frozen BK186.out 3
          have hfz22_4 := blk_frozen BK186.out 4
          go_wp2_with (first | ((with_reducible refine gate_callee (f := 90) rfl ?_); refine goesL_ (some 15) rfl rfl Try.func90 (by kernel_rfl) rfl #[.int .i64 a0_0] rfl (by (try simp only [List.map_toArray, List.map_cons, List.map_nil]); first | done | rfl | (simp only [List.length_drop, List.length_take]; rfl)) ?_; (with_reducible refine (regcertref05_UsesD.calls a0_0 true _ A10.out).mono ?_); rintro e w' ⟨rfl, ⟨nd, rfl⟩⟩; refine ⟨_, rfl, ?_⟩) | (go_at_call 91; (with_reducible refine (regcertref07_in.calls a0_1 a1 true _ A12.out).mono ?_); rintro e w' ⟨rfl, ⟨nd, rfl⟩⟩) | (go_at_call 24; (with_reducible refine (regcertref05_UsesA.calls a0_0 true _ A14.out).mono ?_); rintro e w' ⟨rfl, ⟨nd, rfl⟩⟩) | (go_at_call 91; (with_reducible refine (regcertref07_in.calls a0_2 a1 true _ A16.out).mono ?_); rintro e w' ⟨rfl, ⟨nd, rfl⟩⟩) | (go_at_call 25; (with_reducible refine (regcertref05_UsesB.calls a0_0 false _ A18.out).mono ?_); rintro e w' ⟨rfl, ⟨nd, rfl⟩⟩))
          go_meet
          case rel => exact ⟨_, (false), (by first | rfl | (simp; done) | (simp [*]; done)), H', ⟨by have := HJ2.out; first | omega | exact Nat.le_refl _⟩, ⟨by (with_reducible repeat (first | refine blk_drewN ?_ _ | refine blk_drew ?_ | refine blk_alloc ?_ _)); exact BK186.out⟩, ⟨by repeat (first | (with_reducible first | exact HB.out | apply below_alloc | apply bdN | apply bd1 | refine below_set ?_ GE186.out) | exact HB.out)⟩⟩
        ·replace c17 := Bool.eq_false_iff.mpr c17
         subst c17
         have H1 : (regcertref07_Instr.j1 kj2 true a0_0 a0_1 a0_2 a0_3 a0_4) = some r := by rw [if_neg (show ¬ (false = true) by decide)] at H; exact H
         clear H
         have H := H1
         clear H1
         have H' := As0 H
         clear H
         have hcz23_0 : wc.cell? ⟨gb186, 0, none⟩ = some (.int .i64 a0_0) := (blk_cell BK186.out 0).trans rfl
         have hcz23_1 : wc.cell? ⟨gb186, 1, none⟩ = some (.int .i64 a0_1) := (blk_cell BK186.out 1).trans rfl
         have hcz23_2 : wc.cell? ⟨gb186, 2, none⟩ = some (.int .i64 a0_2) := (blk_cell BK186.out 2).trans rfl
         have hcz23_3 : wc.cell? ⟨gb186, 3, none⟩ = some (.int .i64 a0_3) := (blk_cell BK186.out 3).trans rfl
         have hcz23_4 : wc.cell? ⟨gb186, 4, none⟩ = some (.int .i64 a0_4) := (blk_cell BK186.out 4).trans rfl
         have hfz23_0 := blk_frozen BK186.out 0
         have hfz23_1 := blk_frozen BK186.out 1
         have hfz23_2 := blk_frozen BK186.out 2
         have hfz23_3 := blk_frozen BK186.out 3
         have hfz23_4 := blk_frozen BK186.out 4
         go_wp2_with (first | ((with_reducible refine gate_callee (f := 90) rfl ?_); refine goesL_ (some 15) rfl rfl Try.func90 (by kernel_rfl) rfl #[.int .i64 a0_0] rfl (by (try simp only [List.map_toArray, List.map_cons, List.map_nil]); first | done | rfl | (simp only [List.length_drop, List.length_take]; rfl)) ?_; (with_reducible refine (regcertref05_UsesD.calls a0_0 true _ A10.out).mono ?_); rintro e w' ⟨rfl, ⟨nd, rfl⟩⟩; refine ⟨_, rfl, ?_⟩) | (go_at_call 91; (with_reducible refine (regcertref07_in.calls a0_1 a1 true _ A12.out).mono ?_); rintro e w' ⟨rfl, ⟨nd, rfl⟩⟩) | (go_at_call 24; (with_reducible refine (regcertref05_UsesA.calls a0_0 true _ A14.out).mono ?_); rintro e w' ⟨rfl, ⟨nd, rfl⟩⟩) | (go_at_call 91; (with_reducible refine (regcertref07_in.calls a0_2 a1 false _ A16.out).mono ?_); rintro e w' ⟨rfl, ⟨nd, rfl⟩⟩))
         go_meet
         case rel => exact ⟨_, (true), (by first | rfl | (simp; done) | (simp [*]; done)), H', ⟨by have := HJ2.out; first | omega | exact Nat.le_refl _⟩, ⟨by (with_reducible repeat (first | refine blk_drewN ?_ _ | refine blk_drew ?_ | refine blk_alloc ?_ _)); exact BK186.out⟩, ⟨by repeat (first | (with_reducible first | exact HB.out | apply below_alloc | apply bdN | apply bd1 | refine below_set ?_ GE186.out) | exact HB.out)⟩⟩
       ·replace c15 := Bool.eq_false_iff.mpr c15
        subst c15
        have H1 : ((regcertref05_UsesB.f a0_0).bind fun t193 => (if t193 = true then ((regcertref07_in.f a0_3 a1).bind fun t194 => (regcertref07_Instr.j1 kj2 (!t194) a0_0 a0_1 a0_2 a0_3 a0_4)) else (regcertref07_Instr.j1 kj2 false a0_0 a0_1 a0_2 a0_3 a0_4))) = some r := by rw [if_neg (show ¬ (false = true) by decide)] at H; exact H
        clear H
        have H := H1
        clear H1
        replace H := Option.bind_eq_some_iff.mp H
        obtain ⟨t193, A240, H⟩ := H
        replace H : (if t193 = true then ((regcertref07_in.f a0_3 a1).bind fun t194 => (regcertref07_Instr.j1 kj2 (!t194) a0_0 a0_1 a0_2 a0_3 a0_4)) else (regcertref07_Instr.j1 kj2 false a0_0 a0_1 a0_2 a0_3 a0_4)) = some r := H
        have A24 := As0 A240
        clear A240
        by_cases c25 : t193 = true
        ·subst c25
         have H1 : ((regcertref07_in.f a0_3 a1).bind fun t194 => (regcertref07_Instr.j1 kj2 (!t194) a0_0 a0_1 a0_2 a0_3 a0_4)) = some r := by rw [if_pos rfl] at H; exact H
         clear H
         have H := H1
         clear H1
         replace H := Option.bind_eq_some_iff.mp H
         obtain ⟨t194, A260, H⟩ := H
         replace H : (regcertref07_Instr.j1 kj2 (!t194) a0_0 a0_1 a0_2 a0_3 a0_4) = some r := H
         have A26 := As0 A260
         clear A260
         have H' := As0 H
         clear H
         have hcz27_0 : wc.cell? ⟨gb186, 0, none⟩ = some (.int .i64 a0_0) := (blk_cell BK186.out 0).trans rfl
         have hcz27_1 : wc.cell? ⟨gb186, 1, none⟩ = some (.int .i64 a0_1) := (blk_cell BK186.out 1).trans rfl
         have hcz27_2 : wc.cell? ⟨gb186, 2, none⟩ = some (.int .i64 a0_2) := (blk_cell BK186.out 2).trans rfl
         have hcz27_3 : wc.cell? ⟨gb186, 3, none⟩ = some (.int .i64 a0_3) := (blk_cell BK186.out 3).trans rfl
         have hcz27_4 : wc.cell? ⟨gb186, 4, none⟩ = some (.int .i64 a0_4) := (blk_cell BK186.out 4).trans rfl
         have hfz27_0 := blk_frozen BK186.out 0
         have hfz27_1 := blk_frozen BK186.out 1
         have hfz27_2 := blk_frozen BK186.out 2
         have hfz27_3 := blk_frozen BK186.out 3
         have hfz27_4 := blk_frozen BK186.out 4
         go_wp2_with (first | ((with_reducible refine gate_callee (f := 90) rfl ?_); refine goesL_ (some 15) rfl rfl Try.func90 (by kernel_rfl) rfl #[.int .i64 a0_0] rfl (by (try simp only [List.map_toArray, List.map_cons, List.map_nil]); first | done | rfl | (simp only [List.length_drop, List.length_take]; rfl)) ?_; (with_reducible refine (regcertref05_UsesD.calls a0_0 true _ A10.out).mono ?_); rintro e w' ⟨rfl, ⟨nd, rfl⟩⟩; refine ⟨_, rfl, ?_⟩) | (go_at_call 91; (with_reducible refine (regcertref07_in.calls a0_1 a1 true _ A12.out).mono ?_); rintro e w' ⟨rfl, ⟨nd, rfl⟩⟩) | (go_at_call 24; (with_reducible refine (regcertref05_UsesA.calls a0_0 false _ A14.out).mono ?_); rintro e w' ⟨rfl, ⟨nd, rfl⟩⟩) | (go_at_call 25; (with_reducible refine (regcertref05_UsesB.calls a0_0 true _ A24.out).mono ?_); rintro e w' ⟨rfl, ⟨nd, rfl⟩⟩) | (go_at_call 91; (with_reducible refine (regcertref07_in.calls a0_3 a1 t194 _ A26.out).mono ?_); rintro e w' ⟨rfl, ⟨nd, rfl⟩⟩))
         go_meet
         case rel => exact ⟨_, (!t194), (by first | rfl | (simp; done) | (simp [*]; done)), H', ⟨by have := HJ2.out; first | omega | exact Nat.le_refl _⟩, ⟨by (with_reducible repeat (first | refine blk_drewN ?_ _ | refine blk_drew ?_ | refine blk_alloc ?_ _)); exact BK186.out⟩, ⟨by repeat (first | (with_reducible first | exact HB.out | apply below_alloc | apply bdN | apply bd1 | refine below_set ?_ GE186.out) | exact HB.out)⟩⟩
        ·replace c25 := Bool.eq_false_iff.mpr c25
         subst c25
         have H1 : (regcertref07_Instr.j1 kj2 false a0_0 a0_1 a0_2 a0_3 a0_4) = some r := by rw [if_neg (show ¬ (false = true) by decide)] at H; exact H
         clear H
         have H := H1
         clear H1
         have H' := As0 H
         clear H
         have hcz28_0 : wc.cell? ⟨gb186, 0, none⟩ = some (.int .i64 a0_0) := (blk_cell BK186.out 0).trans rfl
         have hcz28_1 : wc.cell? ⟨gb186, 1, none⟩ = some (.int .i64 a0_1) := (blk_cell BK186.out 1).trans rfl
         have hcz28_2 : wc.cell? ⟨gb186, 2, none⟩ = some (.int .i64 a0_2) := (blk_cell BK186.out 2).trans rfl
         have hcz28_3 : wc.cell? ⟨gb186, 3, none⟩ = some (.int .i64 a0_3) := (blk_cell BK186.out 3).trans rfl
         have hcz28_4 : wc.cell? ⟨gb186, 4, none⟩ = some (.int .i64 a0_4) := (blk_cell BK186.out 4).trans rfl
         have hfz28_0 := blk_frozen BK186.out 0
         have hfz28_1 := blk_frozen BK186.out 1
         have hfz28_2 := blk_frozen BK186.out 2
         have hfz28_3 := blk_frozen BK186.out 3
         have hfz28_4 := blk_frozen BK186.out 4
         go_wp2_with (first | ((with_reducible refine gate_callee (f := 90) rfl ?_); refine goesL_ (some 15) rfl rfl Try.func90 (by kernel_rfl) rfl #[.int .i64 a0_0] rfl (by (try simp only [List.map_toArray, List.map_cons, List.map_nil]); first | done | rfl | (simp only [List.length_drop, List.length_take]; rfl)) ?_; (with_reducible refine (regcertref05_UsesD.calls a0_0 true _ A10.out).mono ?_); rintro e w' ⟨rfl, ⟨nd, rfl⟩⟩; refine ⟨_, rfl, ?_⟩) | (go_at_call 91; (with_reducible refine (regcertref07_in.calls a0_1 a1 true _ A12.out).mono ?_); rintro e w' ⟨rfl, ⟨nd, rfl⟩⟩) | (go_at_call 24; (with_reducible refine (regcertref05_UsesA.calls a0_0 false _ A14.out).mono ?_); rintro e w' ⟨rfl, ⟨nd, rfl⟩⟩) | (go_at_call 25; (with_reducible refine (regcertref05_UsesB.calls a0_0 false _ A24.out).mono ?_); rintro e w' ⟨rfl, ⟨nd, rfl⟩⟩))
         go_meet
         case rel => exact ⟨_, (false), (by first | rfl | (simp; done) | (simp [*]; done)), H', ⟨by have := HJ2.out; first | omega | exact Nat.le_refl _⟩, ⟨by (with_reducible repeat (first | refine blk_drewN ?_ _ | refine blk_drew ?_ | refine blk_alloc ?_ _)); exact BK186.out⟩, ⟨by repeat (first | (with_reducible first | exact HB.out | apply below_alloc | apply bdN | apply bd1 | refine below_set ?_ GE186.out) | exact HB.out)⟩⟩
      ·replace c13 := Bool.eq_false_iff.mpr c13
       subst c13
       have H1 : (regcertref07_Instr.j1 kj2 true a0_0 a0_1 a0_2 a0_3 a0_4) = some r := by rw [if_neg (show ¬ (false = true) by decide)] at H; exact H
       clear H
       have H := H1
       clear H1
       have H' := As0 H
       clear H
       have hcz29_0 : wc.cell? ⟨gb186, 0, none⟩ = some (.int .i64 a0_0) := (blk_cell BK186.out 0).trans rfl
       have hcz29_1 : wc.cell? ⟨gb186, 1, none⟩ = some (.int .i64 a0_1) := (blk_cell BK186.out 1).trans rfl
       have hcz29_2 : wc.cell? ⟨gb186, 2, none⟩ = some (.int .i64 a0_2) := (blk_cell BK186.out 2).trans rfl
       have hcz29_3 : wc.cell? ⟨gb186, 3, none⟩ = some (.int .i64 a0_3) := (blk_cell BK186.out 3).trans rfl
       have hcz29_4 : wc.cell? ⟨gb186, 4, none⟩ = some (.int .i64 a0_4) := (blk_cell BK186.out 4).trans rfl
       have hfz29_0 := blk_frozen BK186.out 0
       have hfz29_1 := blk_frozen BK186.out 1
       have hfz29_2 := blk_frozen BK186.out 2
       have hfz29_3 := blk_frozen BK186.out 3
       have hfz29_4 := blk_frozen BK186.out 4
       go_wp2_with (first | ((with_reducible refine gate_callee (f := 90) rfl ?_); refine goesL_ (some 15) rfl rfl Try.func90 (by kernel_rfl) rfl #[.int .i64 a0_0] rfl (by (try simp only [List.map_toArray, List.map_cons, List.map_nil]); first | done | rfl | (simp only [List.length_drop, List.length_take]; rfl)) ?_; (with_reducible refine (regcertref05_UsesD.calls a0_0 true _ A10.out).mono ?_); rintro e w' ⟨rfl, ⟨nd, rfl⟩⟩; refine ⟨_, rfl, ?_⟩) | (go_at_call 91; (with_reducible refine (regcertref07_in.calls a0_1 a1 false _ A12.out).mono ?_); rintro e w' ⟨rfl, ⟨nd, rfl⟩⟩))
       go_meet
       case rel => exact ⟨_, (true), (by first | rfl | (simp; done) | (simp [*]; done)), H', ⟨by have := HJ2.out; first | omega | exact Nat.le_refl _⟩, ⟨by (with_reducible repeat (first | refine blk_drewN ?_ _ | refine blk_drew ?_ | refine blk_alloc ?_ _)); exact BK186.out⟩, ⟨by repeat (first | (with_reducible first | exact HB.out | apply below_alloc | apply bdN | apply bd1 | refine below_set ?_ GE186.out) | exact HB.out)⟩⟩
     ·replace c11 := Bool.eq_false_iff.mpr c11
      subst c11
      have H1 : ((regcertref05_UsesA.f a0_0).bind fun t195 => (if t195 = true then ((regcertref07_in.f a0_2 a1).bind fun t196 => (if t196 = true then ((regcertref05_UsesB.f a0_0).bind fun t197 => (if t197 = true then ((regcertref07_in.f a0_3 a1).bind fun t198 => (regcertref07_Instr.j1 kj2 (!t198) a0_0 a0_1 a0_2 a0_3 a0_4)) else (regcertref07_Instr.j1 kj2 false a0_0 a0_1 a0_2 a0_3 a0_4))) else (regcertref07_Instr.j1 kj2 true a0_0 a0_1 a0_2 a0_3 a0_4))) else ((regcertref05_UsesB.f a0_0).bind fun t199 => (if t199 = true then ((regcertref07_in.f a0_3 a1).bind fun t200 => (regcertref07_Instr.j1 kj2 (!t200) a0_0 a0_1 a0_2 a0_3 a0_4)) else (regcertref07_Instr.j1 kj2 false a0_0 a0_1 a0_2 a0_3 a0_4))))) = some r := by rw [if_neg (show ¬ (false = true) by decide)] at H; exact H
      clear H
      have H := H1
      clear H1
      replace H := Option.bind_eq_some_iff.mp H
      obtain ⟨t195, A300, H⟩ := H
      replace H : (if t195 = true then ((regcertref07_in.f a0_2 a1).bind fun t196 => (if t196 = true then ((regcertref05_UsesB.f a0_0).bind fun t197 => (if t197 = true then ((regcertref07_in.f a0_3 a1).bind fun t198 => (regcertref07_Instr.j1 kj2 (!t198) a0_0 a0_1 a0_2 a0_3 a0_4)) else (regcertref07_Instr.j1 kj2 false a0_0 a0_1 a0_2 a0_3 a0_4))) else (regcertref07_Instr.j1 kj2 true a0_0 a0_1 a0_2 a0_3 a0_4))) else ((regcertref05_UsesB.f a0_0).bind fun t199 => (if t199 = true then ((regcertref07_in.f a0_3 a1).bind fun t200 => (regcertref07_Instr.j1 kj2 (!t200) a0_0 a0_1 a0_2 a0_3 a0_4)) else (regcertref07_Instr.j1 kj2 false a0_0 a0_1 a0_2 a0_3 a0_4)))) = some r := H
      have A30 := As0 A300
      clear A300
      by_cases c31 : t195 = true
      ·subst c31
       have H1 : ((regcertref07_in.f a0_2 a1).bind fun t196 => (if t196 = true then ((regcertref05_UsesB.f a0_0).bind fun t197 => (if t197 = true then ((regcertref07_in.f a0_3 a1).bind fun t198 => (regcertref07_Instr.j1 kj2 (!t198) a0_0 a0_1 a0_2 a0_3 a0_4)) else (regcertref07_Instr.j1 kj2 false a0_0 a0_1 a0_2 a0_3 a0_4))) else (regcertref07_Instr.j1 kj2 true a0_0 a0_1 a0_2 a0_3 a0_4))) = some r := by rw [if_pos rfl] at H; exact H
       clear H
       have H := H1
       clear H1
       replace H := Option.bind_eq_some_iff.mp H
       obtain ⟨t196, A320, H⟩ := H
       replace H : (if t196 = true then ((regcertref05_UsesB.f a0_0).bind fun t197 => (if t197 = true then ((regcertref07_in.f a0_3 a1).bind fun t198 => (regcertref07_Instr.j1 kj2 (!t198) a0_0 a0_1 a0_2 a0_3 a0_4)) else (regcertref07_Instr.j1 kj2 false a0_0 a0_1 a0_2 a0_3 a0_4))) else (regcertref07_Instr.j1 kj2 true a0_0 a0_1 a0_2 a0_3 a0_4)) = some r := H
       have A32 := As0 A320
       clear A320
       by_cases c33 : t196 = true
       ·subst c33
        have H1 : ((regcertref05_UsesB.f a0_0).bind fun t197 => (if t197 = true then ((regcertref07_in.f a0_3 a1).bind fun t198 => (regcertref07_Instr.j1 kj2 (!t198) a0_0 a0_1 a0_2 a0_3 a0_4)) else (regcertref07_Instr.j1 kj2 false a0_0 a0_1 a0_2 a0_3 a0_4))) = some r := by rw [if_pos rfl] at H; exact H
        clear H
        have H := H1
        clear H1
        replace H := Option.bind_eq_some_iff.mp H
        obtain ⟨t197, A340, H⟩ := H
        replace H : (if t197 = true then ((regcertref07_in.f a0_3 a1).bind fun t198 => (regcertref07_Instr.j1 kj2 (!t198) a0_0 a0_1 a0_2 a0_3 a0_4)) else (regcertref07_Instr.j1 kj2 false a0_0 a0_1 a0_2 a0_3 a0_4)) = some r := H
        have A34 := As0 A340
        clear A340
        by_cases c35 : t197 = true
        ·subst c35
         have H1 : ((regcertref07_in.f a0_3 a1).bind fun t198 => (regcertref07_Instr.j1 kj2 (!t198) a0_0 a0_1 a0_2 a0_3 a0_4)) = some r := by rw [if_pos rfl] at H; exact H
         clear H
         have H := H1
         clear H1
         replace H := Option.bind_eq_some_iff.mp H
         obtain ⟨t198, A360, H⟩ := H
         replace H : (regcertref07_Instr.j1 kj2 (!t198) a0_0 a0_1 a0_2 a0_3 a0_4) = some r := H
         have A36 := As0 A360
         clear A360
         have H' := As0 H
         clear H
         have hcz37_0 : wc.cell? ⟨gb186, 0, none⟩ = some (.int .i64 a0_0) := (blk_cell BK186.out 0).trans rfl
         have hcz37_1 : wc.cell? ⟨gb186, 1, none⟩ = some (.int .i64 a0_1) := (blk_cell BK186.out 1).trans rfl
         have hcz37_2 : wc.cell? ⟨gb186, 2, none⟩ = some (.int .i64 a0_2) := (blk_cell BK186.out 2).trans rfl
         have hcz37_3 : wc.cell? ⟨gb186, 3, none⟩ = some (.int .i64 a0_3) := (blk_cell BK186.out 3).trans rfl
         have hcz37_4 : wc.cell? ⟨gb186, 4, none⟩ = some (.int .i64 a0_4) := (blk_cell BK186.out 4).trans rfl
         have hfz37_0 := blk_frozen BK186.out 0
         have hfz37_1 := blk_frozen BK186.out 1
         have hfz37_2 := blk_frozen BK186.out 2
         have hfz37_3 := blk_frozen BK186.out 3
         have hfz37_4 := blk_frozen BK186.out 4
         go_wp2_with (first | ((with_reducible refine gate_callee (f := 90) rfl ?_); refine goesL_ (some 15) rfl rfl Try.func90 (by kernel_rfl) rfl #[.int .i64 a0_0] rfl (by (try simp only [List.map_toArray, List.map_cons, List.map_nil]); first | done | rfl | (simp only [List.length_drop, List.length_take]; rfl)) ?_; (with_reducible refine (regcertref05_UsesD.calls a0_0 false _ A10.out).mono ?_); rintro e w' ⟨rfl, ⟨nd, rfl⟩⟩; refine ⟨_, rfl, ?_⟩) | (go_at_call 24; (with_reducible refine (regcertref05_UsesA.calls a0_0 true _ A30.out).mono ?_); rintro e w' ⟨rfl, ⟨nd, rfl⟩⟩) | (go_at_call 91; (with_reducible refine (regcertref07_in.calls a0_2 a1 true _ A32.out).mono ?_); rintro e w' ⟨rfl, ⟨nd, rfl⟩⟩) | (go_at_call 25; (with_reducible refine (regcertref05_UsesB.calls a0_0 true _ A34.out).mono ?_); rintro e w' ⟨rfl, ⟨nd, rfl⟩⟩) | (go_at_call 91; (with_reducible refine (regcertref07_in.calls a0_3 a1 t198 _ A36.out).mono ?_); rintro e w' ⟨rfl, ⟨nd, rfl⟩⟩))
         go_meet
         case rel => exact ⟨_, (!t198), (by first | rfl | (simp; done) | (simp [*]; done)), H', ⟨by have := HJ2.out; first | omega | exact Nat.le_refl _⟩, ⟨by (with_reducible repeat (first | refine blk_drewN ?_ _ | refine blk_drew ?_ | refine blk_alloc ?_ _)); exact BK186.out⟩, ⟨by repeat (first | (with_reducible first | exact HB.out | apply below_alloc | apply bdN | apply bd1 | refine below_set ?_ GE186.out) | exact HB.out)⟩⟩
        ·replace c35 := Bool.eq_false_iff.mpr c35
         subst c35
         have H1 : (regcertref07_Instr.j1 kj2 false a0_0 a0_1 a0_2 a0_3 a0_4) = some r := by rw [if_neg (show ¬ (false = true) by decide)] at H; exact H
         clear H
         have H := H1
         clear H1
         have H' := As0 H
         clear H
         have hcz38_0 : wc.cell? ⟨gb186, 0, none⟩ = some (.int .i64 a0_0) := (blk_cell BK186.out 0).trans rfl
         have hcz38_1 : wc.cell? ⟨gb186, 1, none⟩ = some (.int .i64 a0_1) := (blk_cell BK186.out 1).trans rfl
         have hcz38_2 : wc.cell? ⟨gb186, 2, none⟩ = some (.int .i64 a0_2) := (blk_cell BK186.out 2).trans rfl
         have hcz38_3 : wc.cell? ⟨gb186, 3, none⟩ = some (.int .i64 a0_3) := (blk_cell BK186.out 3).trans rfl
         have hcz38_4 : wc.cell? ⟨gb186, 4, none⟩ = some (.int .i64 a0_4) := (blk_cell BK186.out 4).trans rfl
         have hfz38_0 := blk_frozen BK186.out 0
         have hfz38_1 := blk_frozen BK186.out 1
         have hfz38_2 := blk_frozen BK186.out 2
         have hfz38_3 := blk_frozen BK186.out 3
         have hfz38_4 := blk_frozen BK186.out 4
         go_wp2_with (first | ((with_reducible refine gate_callee (f := 90) rfl ?_); refine goesL_ (some 15) rfl rfl Try.func90 (by kernel_rfl) rfl #[.int .i64 a0_0] rfl (by (try simp only [List.map_toArray, List.map_cons, List.map_nil]); first | done | rfl | (simp only [List.length_drop, List.length_take]; rfl)) ?_; (with_reducible refine (regcertref05_UsesD.calls a0_0 false _ A10.out).mono ?_); rintro e w' ⟨rfl, ⟨nd, rfl⟩⟩; refine ⟨_, rfl, ?_⟩) | (go_at_call 24; (with_reducible refine (regcertref05_UsesA.calls a0_0 true _ A30.out).mono ?_); rintro e w' ⟨rfl, ⟨nd, rfl⟩⟩) | (go_at_call 91; (with_reducible refine (regcertref07_in.calls a0_2 a1 true _ A32.out).mono ?_); rintro e w' ⟨rfl, ⟨nd, rfl⟩⟩) | (go_at_call 25; (with_reducible refine (regcertref05_UsesB.calls a0_0 false _ A34.out).mono ?_); rintro e w' ⟨rfl, ⟨nd, rfl⟩⟩))
         go_meet
         case rel => exact ⟨_, (false), (by first | rfl | (simp; done) | (simp [*]; done)), H', ⟨by have := HJ2.out; first | omega | exact Nat.le_refl _⟩, ⟨by (with_reducible repeat (first | refine blk_drewN ?_ _ | refine blk_drew ?_ | refine blk_alloc ?_ _)); exact BK186.out⟩, ⟨by repeat (first | (with_reducible first | exact HB.out | apply below_alloc | apply bdN | apply bd1 | refine below_set ?_ GE186.out) | exact HB.out)⟩⟩
       ·replace c33 := Bool.eq_false_iff.mpr c33
        subst c33
        have H1 : (regcertref07_Instr.j1 kj2 true a0_0 a0_1 a0_2 a0_3 a0_4) = some r := by rw [if_neg (show ¬ (false = true) by decide)] at H; exact H
        clear H
        have H := H1
        clear H1
        have H' := As0 H
        clear H
        have hcz39_0 : wc.cell? ⟨gb186, 0, none⟩ = some (.int .i64 a0_0) := (blk_cell BK186.out 0).trans rfl
        have hcz39_1 : wc.cell? ⟨gb186, 1, none⟩ = some (.int .i64 a0_1) := (blk_cell BK186.out 1).trans rfl
        have hcz39_2 : wc.cell? ⟨gb186, 2, none⟩ = some (.int .i64 a0_2) := (blk_cell BK186.out 2).trans rfl
        have hcz39_3 : wc.cell? ⟨gb186, 3, none⟩ = some (.int .i64 a0_3) := (blk_cell BK186.out 3).trans rfl
        have hcz39_4 : wc.cell? ⟨gb186, 4, none⟩ = some (.int .i64 a0_4) := (blk_cell BK186.out 4).trans rfl
        have hfz39_0 := blk_frozen BK186.out 0
        have hfz39_1 := blk_frozen BK186.out 1
        have hfz39_2 := blk_frozen BK186.out 2
        have hfz39_3 := blk_frozen BK186.out 3
        have hfz39_4 := blk_frozen BK186.out 4
        go_wp2_with (first | ((with_reducible refine gate_callee (f := 90) rfl ?_); refine goesL_ (some 15) rfl rfl Try.func90 (by kernel_rfl) rfl #[.int .i64 a0_0] rfl (by (try simp only [List.map_toArray, List.map_cons, List.map_nil]); first | done | rfl | (simp only [List.length_drop, List.length_take]; rfl)) ?_; (with_reducible refine (regcertref05_UsesD.calls a0_0 false _ A10.out).mono ?_); rintro e w' ⟨rfl, ⟨nd, rfl⟩⟩; refine ⟨_, rfl, ?_⟩) | (go_at_call 24; (with_reducible refine (regcertref05_UsesA.calls a0_0 true _ A30.out).mono ?_); rintro e w' ⟨rfl, ⟨nd, rfl⟩⟩) | (go_at_call 91; (with_reducible refine (regcertref07_in.calls a0_2 a1 false _ A32.out).mono ?_); rintro e w' ⟨rfl, ⟨nd, rfl⟩⟩))
        go_meet
        case rel => exact ⟨_, (true), (by first | rfl | (simp; done) | (simp [*]; done)), H', ⟨by have := HJ2.out; first | omega | exact Nat.le_refl _⟩, ⟨by (with_reducible repeat (first | refine blk_drewN ?_ _ | refine blk_drew ?_ | refine blk_alloc ?_ _)); exact BK186.out⟩, ⟨by repeat (first | (with_reducible first | exact HB.out | apply below_alloc | apply bdN | apply bd1 | refine below_set ?_ GE186.out) | exact HB.out)⟩⟩
      ·replace c31 := Bool.eq_false_iff.mpr c31
       subst c31
       have H1 : ((regcertref05_UsesB.f a0_0).bind fun t199 => (if t199 = true then ((regcertref07_in.f a0_3 a1).bind fun t200 => (regcertref07_Instr.j1 kj2 (!t200) a0_0 a0_1 a0_2 a0_3 a0_4)) else (regcertref07_Instr.j1 kj2 false a0_0 a0_1 a0_2 a0_3 a0_4))) = some r := by rw [if_neg (show ¬ (false = true) by decide)] at H; exact H
       clear H
       have H := H1
       clear H1
       replace H := Option.bind_eq_some_iff.mp H
       obtain ⟨t199, A400, H⟩ := H
       replace H : (if t199 = true then ((regcertref07_in.f a0_3 a1).bind fun t200 => (regcertref07_Instr.j1 kj2 (!t200) a0_0 a0_1 a0_2 a0_3 a0_4)) else (regcertref07_Instr.j1 kj2 false a0_0 a0_1 a0_2 a0_3 a0_4)) = some r := H
       have A40 := As0 A400
       clear A400
       by_cases c41 : t199 = true
       ·subst c41
        have H1 : ((regcertref07_in.f a0_3 a1).bind fun t200 => (regcertref07_Instr.j1 kj2 (!t200) a0_0 a0_1 a0_2 a0_3 a0_4)) = some r := by rw [if_pos rfl] at H; exact H
        clear H
        have H := H1
        clear H1
        replace H := Option.bind_eq_some_iff.mp H
        obtain ⟨t200, A420, H⟩ := H
        replace H : (regcertref07_Instr.j1 kj2 (!t200) a0_0 a0_1 a0_2 a0_3 a0_4) = some r := H
        have A42 := As0 A420
        clear A420
        have H' := As0 H
        clear H
        have hcz43_0 : wc.cell? ⟨gb186, 0, none⟩ = some (.int .i64 a0_0) := (blk_cell BK186.out 0).trans rfl
        have hcz43_1 : wc.cell? ⟨gb186, 1, none⟩ = some (.int .i64 a0_1) := (blk_cell BK186.out 1).trans rfl
        have hcz43_2 : wc.cell? ⟨gb186, 2, none⟩ = some (.int .i64 a0_2) := (blk_cell BK186.out 2).trans rfl
        have hcz43_3 : wc.cell? ⟨gb186, 3, none⟩ = some (.int .i64 a0_3) := (blk_cell BK186.out 3).trans rfl
        have hcz43_4 : wc.cell? ⟨gb186, 4, none⟩ = some (.int .i64 a0_4) := (blk_cell BK186.out 4).trans rfl
        have hfz43_0 := blk_frozen BK186.out 0
        have hfz43_1 := blk_frozen BK186.out 1
        have hfz43_2 := blk_frozen BK186.out 2
        have hfz43_3 := blk_frozen BK186.out 3
        have hfz43_4 := blk_frozen BK186.out 4
        go_wp2_with (first | ((with_reducible refine gate_callee (f := 90) rfl ?_); refine goesL_ (some 15) rfl rfl Try.func90 (by kernel_rfl) rfl #[.int .i64 a0_0] rfl (by (try simp only [List.map_toArray, List.map_cons, List.map_nil]); first | done | rfl | (simp only [List.length_drop, List.length_take]; rfl)) ?_; (with_reducible refine (regcertref05_UsesD.calls a0_0 false _ A10.out).mono ?_); rintro e w' ⟨rfl, ⟨nd, rfl⟩⟩; refine ⟨_, rfl, ?_⟩) | (go_at_call 24; (with_reducible refine (regcertref05_UsesA.calls a0_0 false _ A30.out).mono ?_); rintro e w' ⟨rfl, ⟨nd, rfl⟩⟩) | (go_at_call 25; (with_reducible refine (regcertref05_UsesB.calls a0_0 true _ A40.out).mono ?_); rintro e w' ⟨rfl, ⟨nd, rfl⟩⟩) | (go_at_call 91; (with_reducible refine (regcertref07_in.calls a0_3 a1 t200 _ A42.out).mono ?_); rintro e w' ⟨rfl, ⟨nd, rfl⟩⟩))
        go_meet
        case rel => exact ⟨_, (!t200), (by first | rfl | (simp; done) | (simp [*]; done)), H', ⟨by have := HJ2.out; first | omega | exact Nat.le_refl _⟩, ⟨by (with_reducible repeat (first | refine blk_drewN ?_ _ | refine blk_drew ?_ | refine blk_alloc ?_ _)); exact BK186.out⟩, ⟨by repeat (first | (with_reducible first | exact HB.out | apply below_alloc | apply bdN | apply bd1 | refine below_set ?_ GE186.out) | exact HB.out)⟩⟩
       ·replace c41 := Bool.eq_false_iff.mpr c41
        subst c41
        have H1 : (regcertref07_Instr.j1 kj2 false a0_0 a0_1 a0_2 a0_3 a0_4) = some r := by rw [if_neg (show ¬ (false = true) by decide)] at H; exact H
        clear H
        have H := H1
        clear H1
        have H' := As0 H
        clear H
        have hcz44_0 : wc.cell? ⟨gb186, 0, none⟩ = some (.int .i64 a0_0) := (blk_cell BK186.out 0).trans rfl
        have hcz44_1 : wc.cell? ⟨gb186, 1, none⟩ = some (.int .i64 a0_1) := (blk_cell BK186.out 1).trans rfl
        have hcz44_2 : wc.cell? ⟨gb186, 2, none⟩ = some (.int .i64 a0_2) := (blk_cell BK186.out 2).trans rfl
        have hcz44_3 : wc.cell? ⟨gb186, 3, none⟩ = some (.int .i64 a0_3) := (blk_cell BK186.out 3).trans rfl
        have hcz44_4 : wc.cell? ⟨gb186, 4, none⟩ = some (.int .i64 a0_4) := (blk_cell BK186.out 4).trans rfl
        have hfz44_0 := blk_frozen BK186.out 0
        have hfz44_1 := blk_frozen BK186.out 1
        have hfz44_2 := blk_frozen BK186.out 2
        have hfz44_3 := blk_frozen BK186.out 3
        have hfz44_4 := blk_frozen BK186.out 4
        go_wp2_with (first | ((with_reducible refine gate_callee (f := 90) rfl ?_); refine goesL_ (some 15) rfl rfl Try.func90 (by kernel_rfl) rfl #[.int .i64 a0_0] rfl (by (try simp only [List.map_toArray, List.map_cons, List.map_nil]); first | done | rfl | (simp only [List.length_drop, List.length_take]; rfl)) ?_; (with_reducible refine (regcertref05_UsesD.calls a0_0 false _ A10.out).mono ?_); rintro e w' ⟨rfl, ⟨nd, rfl⟩⟩; refine ⟨_, rfl, ?_⟩) | (go_at_call 24; (with_reducible refine (regcertref05_UsesA.calls a0_0 false _ A30.out).mono ?_); rintro e w' ⟨rfl, ⟨nd, rfl⟩⟩) | (go_at_call 25; (with_reducible refine (regcertref05_UsesB.calls a0_0 false _ A40.out).mono ?_); rintro e w' ⟨rfl, ⟨nd, rfl⟩⟩))
        go_meet
        case rel => exact ⟨_, (false), (by first | rfl | (simp; done) | (simp [*]; done)), H', ⟨by have := HJ2.out; first | omega | exact Nat.le_refl _⟩, ⟨by (with_reducible repeat (first | refine blk_drewN ?_ _ | refine blk_drew ?_ | refine blk_alloc ?_ _)); exact BK186.out⟩, ⟨by repeat (first | (with_reducible first | exact HB.out | apply below_alloc | apply bdN | apply bd1 | refine below_set ?_ GE186.out) | exact HB.out)⟩⟩
    case rest =>
     clear HC9
     try clear c1
     try clear c2
     try clear p2
     try clear c3
     try clear c4
     try clear c5
     try clear c5b0
     try clear c6
     try clear c8
     try clear c9
     try clear c11
     try clear c13
     try clear c15
     try clear c17
     try clear c19
     try clear c25
     try clear c31
     try clear c33
     try clear c35
     try clear c41
     try clear hcz21_0
     try clear hcz21_1
     try clear hcz21_2
     try clear hcz21_3
     try clear hcz21_4
     try clear hcz22_0
     try clear hcz22_1
     try clear hcz22_2
     try clear hcz22_3
     try clear hcz22_4
     try clear hcz23_0
     try clear hcz23_1
     try clear hcz23_2
     try clear hcz23_3
     try clear hcz23_4
     try clear hcz27_0
     try clear hcz27_1
     try clear hcz27_2
     try clear hcz27_3
     try clear hcz27_4
     try clear hcz28_0
     try clear hcz28_1
     try clear hcz28_2
     try clear hcz28_3
     try clear hcz28_4
     try clear hcz29_0
     try clear hcz29_1
     try clear hcz29_2
     try clear hcz29_3
     try clear hcz29_4
     try clear hcz37_0
     try clear hcz37_1
     try clear hcz37_2
     try clear hcz37_3
     try clear hcz37_4
     try clear hcz38_0
     try clear hcz38_1
     try clear hcz38_2
     try clear hcz38_3
     try clear hcz38_4
     try clear hcz39_0
     try clear hcz39_1
     try clear hcz39_2
     try clear hcz39_3
     try clear hcz39_4
     try clear hcz43_0
     try clear hcz43_1
     try clear hcz43_2
     try clear hcz43_3
     try clear hcz43_4
     try clear hcz44_0
     try clear hcz44_1
     try clear hcz44_2
     try clear hcz44_3
     try clear hcz44_4
     try clear hcz6_0
     try clear hcz6_1
     try clear hcz6_2
     try clear hcz6_3
     try clear hcz6_4
     try clear hcz7_0
     try clear hcz7_1
     try clear hcz7_2
     try clear hcz7_3
     try clear hcz7_4
     try clear hfz21_0
     try clear hfz21_1
     try clear hfz21_2
     try clear hfz21_3
     try clear hfz21_4
     try clear hfz22_0
     try clear hfz22_1
     try clear hfz22_2
     try clear hfz22_3
     try clear hfz22_4
     try clear hfz23_0
     try clear hfz23_1
     try clear hfz23_2
     try clear hfz23_3
     try clear hfz23_4
     try clear hfz27_0
     try clear hfz27_1
     try clear hfz27_2
     try clear hfz27_3
     try clear hfz27_4
     try clear hfz28_0
     try clear hfz28_1
     try clear hfz28_2
     try clear hfz28_3
     try clear hfz28_4
     try clear hfz29_0
     try clear hfz29_1
     try clear hfz29_2
     try clear hfz29_3
     try clear hfz29_4
     try clear hfz37_0
     try clear hfz37_1
     try clear hfz37_2
     try clear hfz37_3
     try clear hfz37_4
     try clear hfz38_0
     try clear hfz38_1
     try clear hfz38_2
     try clear hfz38_3
     try clear hfz38_4
     try clear hfz39_0
     try clear hfz39_1
     try clear hfz39_2
     try clear hfz39_3
     try clear hfz39_4
     try clear hfz43_0
     try clear hfz43_1
     try clear hfz43_2
     try clear hfz43_3
     try clear hfz43_4
     try clear hfz44_0
     try clear hfz44_1
     try clear hfz44_2
     try clear hfz44_3
     try clear hfz44_4
     try clear hfz6_0
     try clear hfz6_1
     try clear hfz6_2
     try clear hfz6_3
     try clear hfz6_4
     try clear hfz7_0
     try clear hfz7_1
     try clear hfz7_2
     try clear hfz7_3
     try clear hfz7_4
     try clear p2
     obtain ⟨kq, x46_8, rfl, HA, HJ8, BK186, HB⟩ := hcut
     cases kq with
     | zero => exact absurd HA.out (by simp [regcertref07_Instr.j1])
     | succ kj8 =>
      have H := HA.out
      clear HA
      simp only [regcertref07_Instr.j1] at H
      by_cases c45 : x46_8 = true
      ·subst c45
       have H1 : (some 9) = some r := by rw [if_pos rfl] at H; exact H
       clear H
       have H := H1
       clear H1
       obtain rfl := Option.some.inj H
       go_wp2
       go_ret
       exact ⟨by first | rfl | (simp [errW_none, errW_some] <;> rfl) | (simp [*, errW_none, errW_some] <;> rfl), by repeat (first | (with_reducible first | exact HB.out | apply below_alloc | apply bdN | apply bd1 | refine below_set ?_ GE186.out) | exact HB.out)⟩
      ·replace c45 := Bool.eq_false_iff.mpr c45
       subst c45
       have H1 : ((regcertref05_UsesD.f a0_0).bind fun t201 => (if t201 = true then ((regcertref05_UsesA.f a0_0).bind fun t202 => (if t202 = true then ((regcertref05_UsesB.f a0_0).bind fun t203 => (if t203 = true then (if a0_0 = 1 then (regcertref07_Instr.j2 kj8 false) else (regcertref07_Instr.j2 kj8 (a0_4 != 0))) else (if a0_3 = 0 then (if a0_0 = 1 then (regcertref07_Instr.j2 kj8 false) else (regcertref07_Instr.j2 kj8 (a0_4 != 0))) else (regcertref07_Instr.j2 kj8 true)))) else (if a0_2 = 0 then ((regcertref05_UsesB.f a0_0).bind fun t204 => (if t204 = true then (if a0_0 = 1 then (regcertref07_Instr.j2 kj8 false) else (regcertref07_Instr.j2 kj8 (a0_4 != 0))) else (if a0_3 = 0 then (if a0_0 = 1 then (regcertref07_Instr.j2 kj8 false) else (regcertref07_Instr.j2 kj8 (a0_4 != 0))) else (regcertref07_Instr.j2 kj8 true)))) else (regcertref07_Instr.j2 kj8 true)))) else (if a0_1 = 0 then ((regcertref05_UsesA.f a0_0).bind fun t205 => (if t205 = true then ((regcertref05_UsesB.f a0_0).bind fun t206 => (if t206 = true then (if a0_0 = 1 then (regcertref07_Instr.j2 kj8 false) else (regcertref07_Instr.j2 kj8 (a0_4 != 0))) else (if a0_3 = 0 then (if a0_0 = 1 then (regcertref07_Instr.j2 kj8 false) else (regcertref07_Instr.j2 kj8 (a0_4 != 0))) else (regcertref07_Instr.j2 kj8 true)))) else (if a0_2 = 0 then ((regcertref05_UsesB.f a0_0).bind fun t207 => (if t207 = true then (if a0_0 = 1 then (regcertref07_Instr.j2 kj8 false) else (regcertref07_Instr.j2 kj8 (a0_4 != 0))) else (if a0_3 = 0 then (if a0_0 = 1 then (regcertref07_Instr.j2 kj8 false) else (regcertref07_Instr.j2 kj8 (a0_4 != 0))) else (regcertref07_Instr.j2 kj8 true)))) else (regcertref07_Instr.j2 kj8 true)))) else (regcertref07_Instr.j2 kj8 true)))) = some r := by rw [if_neg (show ¬ (false = true) by decide)] at H; exact H
       clear H
       have H := H1
       clear H1
       have HC46 := As0 H
       clear H
       go_upto_region 5 with (fail)
       go_cut [87] (fun v87 wc => ∃ (kq : Nat) (x87_45 : Bool), v87 = .bool x87_45 ∧ Aside0 (regcertref07_Instr.j2 kq x87_45 = some r) ∧ Aside0 (kq ≤ kj8) ∧ Aside0 (wc.heap[gb186]? = some (.cells #[.int .i64 a0_0, .int .i64 a0_1, .int .i64 a0_2, .int .i64 a0_3, .int .i64 a0_4] 97 (0, 0))) ∧ Aside0 (Below w.heap.size w wc))
       case first =>
        have H := HC46.out
        clear HC46
        replace H := Option.bind_eq_some_iff.mp H
        obtain ⟨t201, A470, H⟩ := H
        replace H : (if t201 = true then ((regcertref05_UsesA.f a0_0).bind fun t202 => (if t202 = true then ((regcertref05_UsesB.f a0_0).bind fun t203 => (if t203 = true then (if a0_0 = 1 then (regcertref07_Instr.j2 kj8 false) else (regcertref07_Instr.j2 kj8 (a0_4 != 0))) else (if a0_3 = 0 then (if a0_0 = 1 then (regcertref07_Instr.j2 kj8 false) else (regcertref07_Instr.j2 kj8 (a0_4 != 0))) else (regcertref07_Instr.j2 kj8 true)))) else (if a0_2 = 0 then ((regcertref05_UsesB.f a0_0).bind fun t204 => (if t204 = true then (if a0_0 = 1 then (regcertref07_Instr.j2 kj8 false) else (regcertref07_Instr.j2 kj8 (a0_4 != 0))) else (if a0_3 = 0 then (if a0_0 = 1 then (regcertref07_Instr.j2 kj8 false) else (regcertref07_Instr.j2 kj8 (a0_4 != 0))) else (regcertref07_Instr.j2 kj8 true)))) else (regcertref07_Instr.j2 kj8 true)))) else (if a0_1 = 0 then ((regcertref05_UsesA.f a0_0).bind fun t205 => (if t205 = true then ((regcertref05_UsesB.f a0_0).bind fun t206 => (if t206 = true then (if a0_0 = 1 then (regcertref07_Instr.j2 kj8 false) else (regcertref07_Instr.j2 kj8 (a0_4 != 0))) else (if a0_3 = 0 then (if a0_0 = 1 then (regcertref07_Instr.j2 kj8 false) else (regcertref07_Instr.j2 kj8 (a0_4 != 0))) else (regcertref07_Instr.j2 kj8 true)))) else (if a0_2 = 0 then ((regcertref05_UsesB.f a0_0).bind fun t207 => (if t207 = true then (if a0_0 = 1 then (regcertref07_Instr.j2 kj8 false) else (regcertref07_Instr.j2 kj8 (a0_4 != 0))) else (if a0_3 = 0 then (if a0_0 = 1 then (regcertref07_Instr.j2 kj8 false) else (regcertref07_Instr.j2 kj8 (a0_4 != 0))) else (regcertref07_Instr.j2 kj8 true)))) else (regcertref07_Instr.j2 kj8 true)))) else (regcertref07_Instr.j2 kj8 true))) = some r := H
        have A47 := As0 A470
        clear A470
        by_cases c48 : t201 = true
        ·subst c48
         have H1 : ((regcertref05_UsesA.f a0_0).bind fun t202 => (if t202 = true then ((regcertref05_UsesB.f a0_0).bind fun t203 => (if t203 = true then (if a0_0 = 1 then (regcertref07_Instr.j2 kj8 false) else (regcertref07_Instr.j2 kj8 (a0_4 != 0))) else (if a0_3 = 0 then (if a0_0 = 1 then (regcertref07_Instr.j2 kj8 false) else (regcertref07_Instr.j2 kj8 (a0_4 != 0))) else (regcertref07_Instr.j2 kj8 true)))) else (if a0_2 = 0 then ((regcertref05_UsesB.f a0_0).bind fun t204 => (if t204 = true then (if a0_0 = 1 then (regcertref07_Instr.j2 kj8 false) else (regcertref07_Instr.j2 kj8 (a0_4 != 0))) else (if a0_3 = 0 then (if a0_0 = 1 then (regcertref07_Instr.j2 kj8 false) else (regcertref07_Instr.j2 kj8 (a0_4 != 0))) else (regcertref07_Instr.j2 kj8 true)))) else (regcertref07_Instr.j2 kj8 true)))) = some r := by rw [if_pos rfl] at H; exact H
         clear H
         have H := H1
         clear H1
         replace H := Option.bind_eq_some_iff.mp H
         obtain ⟨t202, A490, H⟩ := H
         replace H : (if t202 = true then ((regcertref05_UsesB.f a0_0).bind fun t203 => (if t203 = true then (if a0_0 = 1 then (regcertref07_Instr.j2 kj8 false) else (regcertref07_Instr.j2 kj8 (a0_4 != 0))) else (if a0_3 = 0 then (if a0_0 = 1 then (regcertref07_Instr.j2 kj8 false) else (regcertref07_Instr.j2 kj8 (a0_4 != 0))) else (regcertref07_Instr.j2 kj8 true)))) else (if a0_2 = 0 then ((regcertref05_UsesB.f a0_0).bind fun t204 => (if t204 = true then (if a0_0 = 1 then (regcertref07_Instr.j2 kj8 false) else (regcertref07_Instr.j2 kj8 (a0_4 != 0))) else (if a0_3 = 0 then (if a0_0 = 1 then (regcertref07_Instr.j2 kj8 false) else (regcertref07_Instr.j2 kj8 (a0_4 != 0))) else (regcertref07_Instr.j2 kj8 true)))) else (regcertref07_Instr.j2 kj8 true))) = some r := H
         have A49 := As0 A490
         clear A490
         by_cases c50 : t202 = true
         ·subst c50
          have H1 : ((regcertref05_UsesB.f a0_0).bind fun t203 => (if t203 = true then (if a0_0 = 1 then (regcertref07_Instr.j2 kj8 false) else (regcertref07_Instr.j2 kj8 (a0_4 != 0))) else (if a0_3 = 0 then (if a0_0 = 1 then (regcertref07_Instr.j2 kj8 false) else (regcertref07_Instr.j2 kj8 (a0_4 != 0))) else (regcertref07_Instr.j2 kj8 true)))) = some r := by rw [if_pos rfl] at H; exact H
          clear H
          have H := H1
          clear H1
          replace H := Option.bind_eq_some_iff.mp H
          obtain ⟨t203, A510, H⟩ := H
          replace H : (if t203 = true then (if a0_0 = 1 then (regcertref07_Instr.j2 kj8 false) else (regcertref07_Instr.j2 kj8 (a0_4 != 0))) else (if a0_3 = 0 then (if a0_0 = 1 then (regcertref07_Instr.j2 kj8 false) else (regcertref07_Instr.j2 kj8 (a0_4 != 0))) else (regcertref07_Instr.j2 kj8 true))) = some r := H
          have A51 := As0 A510
          clear A510
          by_cases c52 : t203 = true
          ·subst c52
           have H1 : (if a0_0 = 1 then (regcertref07_Instr.j2 kj8 false) else (regcertref07_Instr.j2 kj8 (a0_4 != 0))) = some r := by rw [if_pos rfl] at H; exact H
           clear H
           have H := H1
           clear H1
           by_cases c53 : a0_0 = 1
           ·rw [if_pos c53] at H
            have c53b0 : (a0_0 == 1) = true := beq_iff_eq.mpr c53
            have c53b1 : (a0_0 != 1) = false := bne_eq_false_iff_eq.mpr c53
            clear c53
            (first | rw [c53b0] | (simp only [i64_w, i32_w]; rw [c53b0]) | skip)
            have H' := As0 H
            clear H
            have hcz54_0 : wc.cell? ⟨gb186, 0, none⟩ = some (.int .i64 a0_0) := (blk_cell BK186.out 0).trans rfl
            have hcz54_1 : wc.cell? ⟨gb186, 1, none⟩ = some (.int .i64 a0_1) := (blk_cell BK186.out 1).trans rfl
            have hcz54_2 : wc.cell? ⟨gb186, 2, none⟩ = some (.int .i64 a0_2) := (blk_cell BK186.out 2).trans rfl
            have hcz54_3 : wc.cell? ⟨gb186, 3, none⟩ = some (.int .i64 a0_3) := (blk_cell BK186.out 3).trans rfl
            have hcz54_4 : wc.cell? ⟨gb186, 4, none⟩ = some (.int .i64 a0_4) := (blk_cell BK186.out 4).trans rfl
            have hfz54_0 := blk_frozen BK186.out 0
            have hfz54_1 := blk_frozen BK186.out 1
            have hfz54_2 := blk_frozen BK186.out 2
            have hfz54_3 := blk_frozen BK186.out 3
            have hfz54_4 := blk_frozen BK186.out 4
            go_wp2_with (first | ((with_reducible refine gate_callee (f := 90) rfl ?_); refine goesL_ (some 49) rfl rfl Try.func90 (by kernel_rfl) rfl #[.int .i64 a0_0] rfl (by (try simp only [List.map_toArray, List.map_cons, List.map_nil]); first | done | rfl | (simp only [List.length_drop, List.length_take]; rfl)) ?_; (with_reducible refine (regcertref05_UsesD.calls a0_0 true _ A47.out).mono ?_); rintro e w' ⟨rfl, ⟨nd, rfl⟩⟩; refine ⟨_, rfl, ?_⟩) | (go_at_call 24; (with_reducible refine (regcertref05_UsesA.calls a0_0 true _ A49.out).mono ?_); rintro e w' ⟨rfl, ⟨nd, rfl⟩⟩) | (go_at_call 25; (with_reducible refine (regcertref05_UsesB.calls a0_0 true _ A51.out).mono ?_); rintro e w' ⟨rfl, ⟨nd, rfl⟩⟩))
            go_meet
            case rel => exact ⟨_, (false), (by first | rfl | (simp; done) | (simp [*]; done)), H', ⟨by have := HJ2.out; have := HJ8.out; first | omega | exact Nat.le_refl _⟩, ⟨by (with_reducible repeat (first | refine blk_drewN ?_ _ | refine blk_drew ?_ | refine blk_alloc ?_ _)); exact BK186.out⟩, ⟨by repeat (first | (with_reducible first | exact HB.out | apply below_alloc | apply bdN | apply bd1 | refine below_set ?_ GE186.out) | exact HB.out)⟩⟩
           ·rw [if_neg c53] at H
            have c53b0 : (a0_0 == 1) = false := beq_eq_false_iff_ne.mpr c53
            have c53b1 : (a0_0 != 1) = true := bne_iff_ne.mpr c53
            (first | rw [c53b0] | (simp only [i64_w, i32_w]; rw [c53b0]) | skip)
            have H' := As0 H
            clear H
            have hcz55_0 : wc.cell? ⟨gb186, 0, none⟩ = some (.int .i64 a0_0) := (blk_cell BK186.out 0).trans rfl
            have hcz55_1 : wc.cell? ⟨gb186, 1, none⟩ = some (.int .i64 a0_1) := (blk_cell BK186.out 1).trans rfl
            have hcz55_2 : wc.cell? ⟨gb186, 2, none⟩ = some (.int .i64 a0_2) := (blk_cell BK186.out 2).trans rfl
            have hcz55_3 : wc.cell? ⟨gb186, 3, none⟩ = some (.int .i64 a0_3) := (blk_cell BK186.out 3).trans rfl
            have hcz55_4 : wc.cell? ⟨gb186, 4, none⟩ = some (.int .i64 a0_4) := (blk_cell BK186.out 4).trans rfl
            have hfz55_0 := blk_frozen BK186.out 0
            have hfz55_1 := blk_frozen BK186.out 1
            have hfz55_2 := blk_frozen BK186.out 2
            have hfz55_3 := blk_frozen BK186.out 3
            have hfz55_4 := blk_frozen BK186.out 4
            go_wp2_with (first | ((with_reducible refine gate_callee (f := 90) rfl ?_); refine goesL_ (some 49) rfl rfl Try.func90 (by kernel_rfl) rfl #[.int .i64 a0_0] rfl (by (try simp only [List.map_toArray, List.map_cons, List.map_nil]); first | done | rfl | (simp only [List.length_drop, List.length_take]; rfl)) ?_; (with_reducible refine (regcertref05_UsesD.calls a0_0 true _ A47.out).mono ?_); rintro e w' ⟨rfl, ⟨nd, rfl⟩⟩; refine ⟨_, rfl, ?_⟩) | (go_at_call 24; (with_reducible refine (regcertref05_UsesA.calls a0_0 true _ A49.out).mono ?_); rintro e w' ⟨rfl, ⟨nd, rfl⟩⟩) | (go_at_call 25; (with_reducible refine (regcertref05_UsesB.calls a0_0 true _ A51.out).mono ?_); rintro e w' ⟨rfl, ⟨nd, rfl⟩⟩))
            go_meet
            case rel => exact ⟨_, ((a0_4 != 0)), (by first | rfl | (simp; done) | (simp [*]; done)), H', ⟨by have := HJ2.out; have := HJ8.out; first | omega | exact Nat.le_refl _⟩, ⟨by (with_reducible repeat (first | refine blk_drewN ?_ _ | refine blk_drew ?_ | refine blk_alloc ?_ _)); exact BK186.out⟩, ⟨by repeat (first | (with_reducible first | exact HB.out | apply below_alloc | apply bdN | apply bd1 | refine below_set ?_ GE186.out) | exact HB.out)⟩⟩
          ·replace c52 := Bool.eq_false_iff.mpr c52
           subst c52
           have H1 : (if a0_3 = 0 then (if a0_0 = 1 then (regcertref07_Instr.j2 kj8 false) else (regcertref07_Instr.j2 kj8 (a0_4 != 0))) else (regcertref07_Instr.j2 kj8 true)) = some r := by rw [if_neg (show ¬ (false = true) by decide)] at H; exact H
           clear H
           have H := H1
           clear H1
           by_cases c56 : a0_3 = 0
           ·rw [if_pos c56] at H
            have c56b0 : (a0_3 == 0) = true := beq_iff_eq.mpr c56
            have c56b1 : (a0_3 != 0) = false := bne_eq_false_iff_eq.mpr c56
            clear c56
            by_cases c57 : a0_0 = 1
            ·rw [if_pos c57] at H
             have c57b0 : (a0_0 == 1) = true := beq_iff_eq.mpr c57
             have c57b1 : (a0_0 != 1) = false := bne_eq_false_iff_eq.mpr c57
             clear c57
             have H' := As0 H
             clear H
             have hcz58_0 : wc.cell? ⟨gb186, 0, none⟩ = some (.int .i64 a0_0) := (blk_cell BK186.out 0).trans rfl
             have hcz58_1 : wc.cell? ⟨gb186, 1, none⟩ = some (.int .i64 a0_1) := (blk_cell BK186.out 1).trans rfl
             have hcz58_2 : wc.cell? ⟨gb186, 2, none⟩ = some (.int .i64 a0_2) := (blk_cell BK186.out 2).trans rfl
             have hcz58_3 : wc.cell? ⟨gb186, 3, none⟩ = some (.int .i64 a0_3) := (blk_cell BK186.out 3).trans rfl
             have hcz58_4 : wc.cell? ⟨gb186, 4, none⟩ = some (.int .i64 a0_4) := (blk_cell BK186.out 4).trans rfl
             have hfz58_0 := blk_frozen BK186.out 0
             have hfz58_1 := blk_frozen BK186.out 1
             have hfz58_2 := blk_frozen BK186.out 2
             have hfz58_3 := blk_frozen BK186.out 3
             have hfz58_4 := blk_frozen BK186.out 4
             go_wp2_with (first | ((with_reducible refine gate_callee (f := 90) rfl ?_); refine goesL_ (some 49) rfl rfl Try.func90 (by kernel_rfl) rfl #[.int .i64 a0_0] rfl (by (try simp only [List.map_toArray, List.map_cons, List.map_nil]); first | done | rfl | (simp only [List.length_drop, List.length_take]; rfl)) ?_; (with_reducible refine (regcertref05_UsesD.calls a0_0 true _ A47.out).mono ?_); rintro e w' ⟨rfl, ⟨nd, rfl⟩⟩; refine ⟨_, rfl, ?_⟩) | (go_at_call 24; (with_reducible refine (regcertref05_UsesA.calls a0_0 true _ A49.out).mono ?_); rintro e w' ⟨rfl, ⟨nd, rfl⟩⟩) | (go_at_call 25; (with_reducible refine (regcertref05_UsesB.calls a0_0 false _ A51.out).mono ?_); rintro e w' ⟨rfl, ⟨nd, rfl⟩⟩))
             go_meet
             case rel => exact ⟨_, (false), (by first | rfl | (simp; done) | (simp [*]; done)), H', ⟨by have := HJ2.out; have := HJ8.out; first | omega | exact Nat.le_refl _⟩, ⟨by (with_reducible repeat (first | refine blk_drewN ?_ _ | refine blk_drew ?_ | refine blk_alloc ?_ _)); exact BK186.out⟩, ⟨by repeat (first | (with_reducible first | exact HB.out | apply below_alloc | apply bdN | apply bd1 | refine below_set ?_ GE186.out) | exact HB.out)⟩⟩
            ·rw [if_neg c57] at H
             have c57b0 : (a0_0 == 1) = false := beq_eq_false_iff_ne.mpr c57
             have c57b1 : (a0_0 != 1) = true := bne_iff_ne.mpr c57
             have H' := As0 H
             clear H
             have hcz59_0 : wc.cell? ⟨gb186, 0, none⟩ = some (.int .i64 a0_0) := (blk_cell BK186.out 0).trans rfl
             have hcz59_1 : wc.cell? ⟨gb186, 1, none⟩ = some (.int .i64 a0_1) := (blk_cell BK186.out 1).trans rfl
             have hcz59_2 : wc.cell? ⟨gb186, 2, none⟩ = some (.int .i64 a0_2) := (blk_cell BK186.out 2).trans rfl
             have hcz59_3 : wc.cell? ⟨gb186, 3, none⟩ = some (.int .i64 a0_3) := (blk_cell BK186.out 3).trans rfl
             have hcz59_4 : wc.cell? ⟨gb186, 4, none⟩ = some (.int .i64 a0_4) := (blk_cell BK186.out 4).trans rfl
             have hfz59_0 := blk_frozen BK186.out 0
             have hfz59_1 := blk_frozen BK186.out 1
             have hfz59_2 := blk_frozen BK186.out 2
             have hfz59_3 := blk_frozen BK186.out 3
             have hfz59_4 := blk_frozen BK186.out 4
             go_wp2_with (first | ((with_reducible refine gate_callee (f := 90) rfl ?_); refine goesL_ (some 49) rfl rfl Try.func90 (by kernel_rfl) rfl #[.int .i64 a0_0] rfl (by (try simp only [List.map_toArray, List.map_cons, List.map_nil]); first | done | rfl | (simp only [List.length_drop, List.length_take]; rfl)) ?_; (with_reducible refine (regcertref05_UsesD.calls a0_0 true _ A47.out).mono ?_); rintro e w' ⟨rfl, ⟨nd, rfl⟩⟩; refine ⟨_, rfl, ?_⟩) | (go_at_call 24; (with_reducible refine (regcertref05_UsesA.calls a0_0 true _ A49.out).mono ?_); rintro e w' ⟨rfl, ⟨nd, rfl⟩⟩) | (go_at_call 25; (with_reducible refine (regcertref05_UsesB.calls a0_0 false _ A51.out).mono ?_); rintro e w' ⟨rfl, ⟨nd, rfl⟩⟩))
             go_meet
             case rel => exact ⟨_, ((a0_4 != 0)), (by first | rfl | (simp; done) | (simp [*]; done)), H', ⟨by have := HJ2.out; have := HJ8.out; first | omega | exact Nat.le_refl _⟩, ⟨by (with_reducible repeat (first | refine blk_drewN ?_ _ | refine blk_drew ?_ | refine blk_alloc ?_ _)); exact BK186.out⟩, ⟨by repeat (first | (with_reducible first | exact HB.out | apply below_alloc | apply bdN | apply bd1 | refine below_set ?_ GE186.out) | exact HB.out)⟩⟩
           ·rw [if_neg c56] at H
            have c56b0 : (a0_3 == 0) = false := beq_eq_false_iff_ne.mpr c56
            have c56b1 : (a0_3 != 0) = true := bne_iff_ne.mpr c56
            have H' := As0 H
            clear H
            have hcz60_0 : wc.cell? ⟨gb186, 0, none⟩ = some (.int .i64 a0_0) := (blk_cell BK186.out 0).trans rfl
            have hcz60_1 : wc.cell? ⟨gb186, 1, none⟩ = some (.int .i64 a0_1) := (blk_cell BK186.out 1).trans rfl
            have hcz60_2 : wc.cell? ⟨gb186, 2, none⟩ = some (.int .i64 a0_2) := (blk_cell BK186.out 2).trans rfl
            have hcz60_3 : wc.cell? ⟨gb186, 3, none⟩ = some (.int .i64 a0_3) := (blk_cell BK186.out 3).trans rfl
            have hcz60_4 : wc.cell? ⟨gb186, 4, none⟩ = some (.int .i64 a0_4) := (blk_cell BK186.out 4).trans rfl
            have hfz60_0 := blk_frozen BK186.out 0
            have hfz60_1 := blk_frozen BK186.out 1
            have hfz60_2 := blk_frozen BK186.out 2
            have hfz60_3 := blk_frozen BK186.out 3
            have hfz60_4 := blk_frozen BK186.out 4
            go_wp2_with (first | ((with_reducible refine gate_callee (f := 90) rfl ?_); refine goesL_ (some 49) rfl rfl Try.func90 (by kernel_rfl) rfl #[.int .i64 a0_0] rfl (by (try simp only [List.map_toArray, List.map_cons, List.map_nil]); first | done | rfl | (simp only [List.length_drop, List.length_take]; rfl)) ?_; (with_reducible refine (regcertref05_UsesD.calls a0_0 true _ A47.out).mono ?_); rintro e w' ⟨rfl, ⟨nd, rfl⟩⟩; refine ⟨_, rfl, ?_⟩) | (go_at_call 24; (with_reducible refine (regcertref05_UsesA.calls a0_0 true _ A49.out).mono ?_); rintro e w' ⟨rfl, ⟨nd, rfl⟩⟩) | (go_at_call 25; (with_reducible refine (regcertref05_UsesB.calls a0_0 false _ A51.out).mono ?_); rintro e w' ⟨rfl, ⟨nd, rfl⟩⟩))
            go_meet
            case rel => exact ⟨_, (true), (by first | rfl | (simp; done) | (simp [*]; done)), H', ⟨by have := HJ2.out; have := HJ8.out; first | omega | exact Nat.le_refl _⟩, ⟨by (with_reducible repeat (first | refine blk_drewN ?_ _ | refine blk_drew ?_ | refine blk_alloc ?_ _)); exact BK186.out⟩, ⟨by repeat (first | (with_reducible first | exact HB.out | apply below_alloc | apply bdN | apply bd1 | refine below_set ?_ GE186.out) | exact HB.out)⟩⟩
         ·replace c50 := Bool.eq_false_iff.mpr c50
          subst c50
          have H1 : (if a0_2 = 0 then ((regcertref05_UsesB.f a0_0).bind fun t204 => (if t204 = true then (if a0_0 = 1 then (regcertref07_Instr.j2 kj8 false) else (regcertref07_Instr.j2 kj8 (a0_4 != 0))) else (if a0_3 = 0 then (if a0_0 = 1 then (regcertref07_Instr.j2 kj8 false) else (regcertref07_Instr.j2 kj8 (a0_4 != 0))) else (regcertref07_Instr.j2 kj8 true)))) else (regcertref07_Instr.j2 kj8 true)) = some r := by rw [if_neg (show ¬ (false = true) by decide)] at H; exact H
          clear H
          have H := H1
          clear H1
          by_cases c61 : a0_2 = 0
          ·rw [if_pos c61] at H
           have c61b0 : (a0_2 == 0) = true := beq_iff_eq.mpr c61
           have c61b1 : (a0_2 != 0) = false := bne_eq_false_iff_eq.mpr c61
           clear c61
           replace H := Option.bind_eq_some_iff.mp H
           obtain ⟨t204, A620, H⟩ := H
           replace H : (if t204 = true then (if a0_0 = 1 then (regcertref07_Instr.j2 kj8 false) else (regcertref07_Instr.j2 kj8 (a0_4 != 0))) else (if a0_3 = 0 then (if a0_0 = 1 then (regcertref07_Instr.j2 kj8 false) else (regcertref07_Instr.j2 kj8 (a0_4 != 0))) else (regcertref07_Instr.j2 kj8 true))) = some r := H
           have A62 := As0 A620
           clear A620
           by_cases c63 : t204 = true
           ·subst c63
            have H1 : (if a0_0 = 1 then (regcertref07_Instr.j2 kj8 false) else (regcertref07_Instr.j2 kj8 (a0_4 != 0))) = some r := by rw [if_pos rfl] at H; exact H
            clear H
            have H := H1
            clear H1
            by_cases c64 : a0_0 = 1
            ·rw [if_pos c64] at H
             have c64b0 : (a0_0 == 1) = true := beq_iff_eq.mpr c64
             have c64b1 : (a0_0 != 1) = false := bne_eq_false_iff_eq.mpr c64
             clear c64
             have H' := As0 H
             clear H
             have hcz65_0 : wc.cell? ⟨gb186, 0, none⟩ = some (.int .i64 a0_0) := (blk_cell BK186.out 0).trans rfl
             have hcz65_1 : wc.cell? ⟨gb186, 1, none⟩ = some (.int .i64 a0_1) := (blk_cell BK186.out 1).trans rfl
             have hcz65_2 : wc.cell? ⟨gb186, 2, none⟩ = some (.int .i64 a0_2) := (blk_cell BK186.out 2).trans rfl
             have hcz65_3 : wc.cell? ⟨gb186, 3, none⟩ = some (.int .i64 a0_3) := (blk_cell BK186.out 3).trans rfl
             have hcz65_4 : wc.cell? ⟨gb186, 4, none⟩ = some (.int .i64 a0_4) := (blk_cell BK186.out 4).trans rfl
             have hfz65_0 := blk_frozen BK186.out 0
             have hfz65_1 := blk_frozen BK186.out 1
             have hfz65_2 := blk_frozen BK186.out 2
             have hfz65_3 := blk_frozen BK186.out 3
             have hfz65_4 := blk_frozen BK186.out 4
             go_wp2_with (first | ((with_reducible refine gate_callee (f := 90) rfl ?_); refine goesL_ (some 49) rfl rfl Try.func90 (by kernel_rfl) rfl #[.int .i64 a0_0] rfl (by (try simp only [List.map_toArray, List.map_cons, List.map_nil]); first | done | rfl | (simp only [List.length_drop, List.length_take]; rfl)) ?_; (with_reducible refine (regcertref05_UsesD.calls a0_0 true _ A47.out).mono ?_); rintro e w' ⟨rfl, ⟨nd, rfl⟩⟩; refine ⟨_, rfl, ?_⟩) | (go_at_call 24; (with_reducible refine (regcertref05_UsesA.calls a0_0 false _ A49.out).mono ?_); rintro e w' ⟨rfl, ⟨nd, rfl⟩⟩) | (go_at_call 25; (with_reducible refine (regcertref05_UsesB.calls a0_0 true _ A62.out).mono ?_); rintro e w' ⟨rfl, ⟨nd, rfl⟩⟩))
             go_meet
             case rel => exact ⟨_, (false), (by first | rfl | (simp; done) | (simp [*]; done)), H', ⟨by have := HJ2.out; have := HJ8.out; first | omega | exact Nat.le_refl _⟩, ⟨by (with_reducible repeat (first | refine blk_drewN ?_ _ | refine blk_drew ?_ | refine blk_alloc ?_ _)); exact BK186.out⟩, ⟨by repeat (first | (with_reducible first | exact HB.out | apply below_alloc | apply bdN | apply bd1 | refine below_set ?_ GE186.out) | exact HB.out)⟩⟩
            ·rw [if_neg c64] at H
             have c64b0 : (a0_0 == 1) = false := beq_eq_false_iff_ne.mpr c64
             have c64b1 : (a0_0 != 1) = true := bne_iff_ne.mpr c64
             have H' := As0 H
             clear H
             have hcz66_0 : wc.cell? ⟨gb186, 0, none⟩ = some (.int .i64 a0_0) := (blk_cell BK186.out 0).trans rfl
             have hcz66_1 : wc.cell? ⟨gb186, 1, none⟩ = some (.int .i64 a0_1) := (blk_cell BK186.out 1).trans rfl
             have hcz66_2 : wc.cell? ⟨gb186, 2, none⟩ = some (.int .i64 a0_2) := (blk_cell BK186.out 2).trans rfl
             have hcz66_3 : wc.cell? ⟨gb186, 3, none⟩ = some (.int .i64 a0_3) := (blk_cell BK186.out 3).trans rfl
             have hcz66_4 : wc.cell? ⟨gb186, 4, none⟩ = some (.int .i64 a0_4) := (blk_cell BK186.out 4).trans rfl
             have hfz66_0 := blk_frozen BK186.out 0
             have hfz66_1 := blk_frozen BK186.out 1
             have hfz66_2 := blk_frozen BK186.out 2
             have hfz66_3 := blk_frozen BK186.out 3
             have hfz66_4 := blk_frozen BK186.out 4
             go_wp2_with (first | ((with_reducible refine gate_callee (f := 90) rfl ?_); refine goesL_ (some 49) rfl rfl Try.func90 (by kernel_rfl) rfl #[.int .i64 a0_0] rfl (by (try simp only [List.map_toArray, List.map_cons, List.map_nil]); first | done | rfl | (simp only [List.length_drop, List.length_take]; rfl)) ?_; (with_reducible refine (regcertref05_UsesD.calls a0_0 true _ A47.out).mono ?_); rintro e w' ⟨rfl, ⟨nd, rfl⟩⟩; refine ⟨_, rfl, ?_⟩) | (go_at_call 24; (with_reducible refine (regcertref05_UsesA.calls a0_0 false _ A49.out).mono ?_); rintro e w' ⟨rfl, ⟨nd, rfl⟩⟩) | (go_at_call 25; (with_reducible refine (regcertref05_UsesB.calls a0_0 true _ A62.out).mono ?_); rintro e w' ⟨rfl, ⟨nd, rfl⟩⟩))
             go_meet
             case rel => exact ⟨_, ((a0_4 != 0)), (by first | rfl | (simp; done) | (simp [*]; done)), H', ⟨by have := HJ2.out; have := HJ8.out; first | omega | exact Nat.le_refl _⟩, ⟨by (with_reducible repeat (first | refine blk_drewN ?_ _ | refine blk_drew ?_ | refine blk_alloc ?_ _)); exact BK186.out⟩, ⟨by repeat (first | (with_reducible first | exact HB.out | apply below_alloc | apply bdN | apply bd1 | refine below_set ?_ GE186.out) | exact HB.out)⟩⟩
           ·replace c63 := Bool.eq_false_iff.mpr c63
            subst c63
            have H1 : (if a0_3 = 0 then (if a0_0 = 1 then (regcertref07_Instr.j2 kj8 false) else (regcertref07_Instr.j2 kj8 (a0_4 != 0))) else (regcertref07_Instr.j2 kj8 true)) = some r := by rw [if_neg (show ¬ (false = true) by decide)] at H; exact H
            clear H
            have H := H1
            clear H1
            by_cases c67 : a0_3 = 0
            ·rw [if_pos c67] at H
             have c67b0 : (a0_3 == 0) = true := beq_iff_eq.mpr c67
             have c67b1 : (a0_3 != 0) = false := bne_eq_false_iff_eq.mpr c67
             clear c67
             by_cases c68 : a0_0 = 1
             ·rw [if_pos c68] at H
              have c68b0 : (a0_0 == 1) = true := beq_iff_eq.mpr c68
              have c68b1 : (a0_0 != 1) = false := bne_eq_false_iff_eq.mpr c68
              clear c68
              have H' := As0 H
              clear H
              have hcz69_0 : wc.cell? ⟨gb186, 0, none⟩ = some (.int .i64 a0_0) := (blk_cell BK186.out 0).trans rfl
              have hcz69_1 : wc.cell? ⟨gb186, 1, none⟩ = some (.int .i64 a0_1) := (blk_cell BK186.out 1).trans rfl
              have hcz69_2 : wc.cell? ⟨gb186, 2, none⟩ = some (.int .i64 a0_2) := (blk_cell BK186.out 2).trans rfl
              have hcz69_3 : wc.cell? ⟨gb186, 3, none⟩ = some (.int .i64 a0_3) := (blk_cell BK186.out 3).trans rfl
              have hcz69_4 : wc.cell? ⟨gb186, 4, none⟩ = some (.int .i64 a0_4) := (blk_cell BK186.out 4).trans rfl
              have hfz69_0 := blk_frozen BK186.out 0
              have hfz69_1 := blk_frozen BK186.out 1
              have hfz69_2 := blk_frozen BK186.out 2
              have hfz69_3 := blk_frozen BK186.out 3
              have hfz69_4 := blk_frozen BK186.out 4
              go_wp2_with (first | ((with_reducible refine gate_callee (f := 90) rfl ?_); refine goesL_ (some 49) rfl rfl Try.func90 (by kernel_rfl) rfl #[.int .i64 a0_0] rfl (by (try simp only [List.map_toArray, List.map_cons, List.map_nil]); first | done | rfl | (simp only [List.length_drop, List.length_take]; rfl)) ?_; (with_reducible refine (regcertref05_UsesD.calls a0_0 true _ A47.out).mono ?_); rintro e w' ⟨rfl, ⟨nd, rfl⟩⟩; refine ⟨_, rfl, ?_⟩) | (go_at_call 24; (with_reducible refine (regcertref05_UsesA.calls a0_0 false _ A49.out).mono ?_); rintro e w' ⟨rfl, ⟨nd, rfl⟩⟩) | (go_at_call 25; (with_reducible refine (regcertref05_UsesB.calls a0_0 false _ A62.out).mono ?_); rintro e w' ⟨rfl, ⟨nd, rfl⟩⟩))
              go_meet
              case rel => exact ⟨_, (false), (by first | rfl | (simp; done) | (simp [*]; done)), H', ⟨by have := HJ2.out; have := HJ8.out; first | omega | exact Nat.le_refl _⟩, ⟨by (with_reducible repeat (first | refine blk_drewN ?_ _ | refine blk_drew ?_ | refine blk_alloc ?_ _)); exact BK186.out⟩, ⟨by repeat (first | (with_reducible first | exact HB.out | apply below_alloc | apply bdN | apply bd1 | refine below_set ?_ GE186.out) | exact HB.out)⟩⟩
             ·rw [if_neg c68] at H
              have c68b0 : (a0_0 == 1) = false := beq_eq_false_iff_ne.mpr c68
              have c68b1 : (a0_0 != 1) = true := bne_iff_ne.mpr c68
              have H' := As0 H
              clear H
              have hcz70_0 : wc.cell? ⟨gb186, 0, none⟩ = some (.int .i64 a0_0) := (blk_cell BK186.out 0).trans rfl
              have hcz70_1 : wc.cell? ⟨gb186, 1, none⟩ = some (.int .i64 a0_1) := (blk_cell BK186.out 1).trans rfl
              have hcz70_2 : wc.cell? ⟨gb186, 2, none⟩ = some (.int .i64 a0_2) := (blk_cell BK186.out 2).trans rfl
              have hcz70_3 : wc.cell? ⟨gb186, 3, none⟩ = some (.int .i64 a0_3) := (blk_cell BK186.out 3).trans rfl
              have hcz70_4 : wc.cell? ⟨gb186, 4, none⟩ = some (.int .i64 a0_4) := (blk_cell BK186.out 4).trans rfl
              have hfz70_0 := blk_frozen BK186.out 0
              have hfz70_1 := blk_frozen BK186.out 1
              have hfz70_2 := blk_frozen BK186.out 2
              have hfz70_3 := blk_frozen BK186.out 3
              have hfz70_4 := blk_frozen BK186.out 4
              go_wp2_with (first | ((with_reducible refine gate_callee (f := 90) rfl ?_); refine goesL_ (some 49) rfl rfl Try.func90 (by kernel_rfl) rfl #[.int .i64 a0_0] rfl (by (try simp only [List.map_toArray, List.map_cons, List.map_nil]); first | done | rfl | (simp only [List.length_drop, List.length_take]; rfl)) ?_; (with_reducible refine (regcertref05_UsesD.calls a0_0 true _ A47.out).mono ?_); rintro e w' ⟨rfl, ⟨nd, rfl⟩⟩; refine ⟨_, rfl, ?_⟩) | (go_at_call 24; (with_reducible refine (regcertref05_UsesA.calls a0_0 false _ A49.out).mono ?_); rintro e w' ⟨rfl, ⟨nd, rfl⟩⟩) | (go_at_call 25; (with_reducible refine (regcertref05_UsesB.calls a0_0 false _ A62.out).mono ?_); rintro e w' ⟨rfl, ⟨nd, rfl⟩⟩))
              go_meet
              case rel => exact ⟨_, ((a0_4 != 0)), (by first | rfl | (simp; done) | (simp [*]; done)), H', ⟨by have := HJ2.out; have := HJ8.out; first | omega | exact Nat.le_refl _⟩, ⟨by (with_reducible repeat (first | refine blk_drewN ?_ _ | refine blk_drew ?_ | refine blk_alloc ?_ _)); exact BK186.out⟩, ⟨by repeat (first | (with_reducible first | exact HB.out | apply below_alloc | apply bdN | apply bd1 | refine below_set ?_ GE186.out) | exact HB.out)⟩⟩
            ·rw [if_neg c67] at H
             have c67b0 : (a0_3 == 0) = false := beq_eq_false_iff_ne.mpr c67
             have c67b1 : (a0_3 != 0) = true := bne_iff_ne.mpr c67
             have H' := As0 H
             clear H
             have hcz71_0 : wc.cell? ⟨gb186, 0, none⟩ = some (.int .i64 a0_0) := (blk_cell BK186.out 0).trans rfl
             have hcz71_1 : wc.cell? ⟨gb186, 1, none⟩ = some (.int .i64 a0_1) := (blk_cell BK186.out 1).trans rfl
             have hcz71_2 : wc.cell? ⟨gb186, 2, none⟩ = some (.int .i64 a0_2) := (blk_cell BK186.out 2).trans rfl
             have hcz71_3 : wc.cell? ⟨gb186, 3, none⟩ = some (.int .i64 a0_3) := (blk_cell BK186.out 3).trans rfl
             have hcz71_4 : wc.cell? ⟨gb186, 4, none⟩ = some (.int .i64 a0_4) := (blk_cell BK186.out 4).trans rfl
             have hfz71_0 := blk_frozen BK186.out 0
             have hfz71_1 := blk_frozen BK186.out 1
             have hfz71_2 := blk_frozen BK186.out 2
             have hfz71_3 := blk_frozen BK186.out 3
             have hfz71_4 := blk_frozen BK186.out 4
             go_wp2_with (first | ((with_reducible refine gate_callee (f := 90) rfl ?_); refine goesL_ (some 49) rfl rfl Try.func90 (by kernel_rfl) rfl #[.int .i64 a0_0] rfl (by (try simp only [List.map_toArray, List.map_cons, List.map_nil]); first | done | rfl | (simp only [List.length_drop, List.length_take]; rfl)) ?_; (with_reducible refine (regcertref05_UsesD.calls a0_0 true _ A47.out).mono ?_); rintro e w' ⟨rfl, ⟨nd, rfl⟩⟩; refine ⟨_, rfl, ?_⟩) | (go_at_call 24; (with_reducible refine (regcertref05_UsesA.calls a0_0 false _ A49.out).mono ?_); rintro e w' ⟨rfl, ⟨nd, rfl⟩⟩) | (go_at_call 25; (with_reducible refine (regcertref05_UsesB.calls a0_0 false _ A62.out).mono ?_); rintro e w' ⟨rfl, ⟨nd, rfl⟩⟩))
             go_meet
             case rel => exact ⟨_, (true), (by first | rfl | (simp; done) | (simp [*]; done)), H', ⟨by have := HJ2.out; have := HJ8.out; first | omega | exact Nat.le_refl _⟩, ⟨by (with_reducible repeat (first | refine blk_drewN ?_ _ | refine blk_drew ?_ | refine blk_alloc ?_ _)); exact BK186.out⟩, ⟨by repeat (first | (with_reducible first | exact HB.out | apply below_alloc | apply bdN | apply bd1 | refine below_set ?_ GE186.out) | exact HB.out)⟩⟩
          ·rw [if_neg c61] at H
           have c61b0 : (a0_2 == 0) = false := beq_eq_false_iff_ne.mpr c61
           have c61b1 : (a0_2 != 0) = true := bne_iff_ne.mpr c61
           have H' := As0 H
           clear H
           have hcz72_0 : wc.cell? ⟨gb186, 0, none⟩ = some (.int .i64 a0_0) := (blk_cell BK186.out 0).trans rfl
           have hcz72_1 : wc.cell? ⟨gb186, 1, none⟩ = some (.int .i64 a0_1) := (blk_cell BK186.out 1).trans rfl
           have hcz72_2 : wc.cell? ⟨gb186, 2, none⟩ = some (.int .i64 a0_2) := (blk_cell BK186.out 2).trans rfl
           have hcz72_3 : wc.cell? ⟨gb186, 3, none⟩ = some (.int .i64 a0_3) := (blk_cell BK186.out 3).trans rfl
           have hcz72_4 : wc.cell? ⟨gb186, 4, none⟩ = some (.int .i64 a0_4) := (blk_cell BK186.out 4).trans rfl
           have hfz72_0 := blk_frozen BK186.out 0
           have hfz72_1 := blk_frozen BK186.out 1
           have hfz72_2 := blk_frozen BK186.out 2
           have hfz72_3 := blk_frozen BK186.out 3
           have hfz72_4 := blk_frozen BK186.out 4
           go_wp2_with (first | ((with_reducible refine gate_callee (f := 90) rfl ?_); refine goesL_ (some 49) rfl rfl Try.func90 (by kernel_rfl) rfl #[.int .i64 a0_0] rfl (by (try simp only [List.map_toArray, List.map_cons, List.map_nil]); first | done | rfl | (simp only [List.length_drop, List.length_take]; rfl)) ?_; (with_reducible refine (regcertref05_UsesD.calls a0_0 true _ A47.out).mono ?_); rintro e w' ⟨rfl, ⟨nd, rfl⟩⟩; refine ⟨_, rfl, ?_⟩) | (go_at_call 24; (with_reducible refine (regcertref05_UsesA.calls a0_0 false _ A49.out).mono ?_); rintro e w' ⟨rfl, ⟨nd, rfl⟩⟩))
           go_meet
           case rel => exact ⟨_, (true), (by first | rfl | (simp; done) | (simp [*]; done)), H', ⟨by have := HJ2.out; have := HJ8.out; first | omega | exact Nat.le_refl _⟩, ⟨by (with_reducible repeat (first | refine blk_drewN ?_ _ | refine blk_drew ?_ | refine blk_alloc ?_ _)); exact BK186.out⟩, ⟨by repeat (first | (with_reducible first | exact HB.out | apply below_alloc | apply bdN | apply bd1 | refine below_set ?_ GE186.out) | exact HB.out)⟩⟩
        ·replace c48 := Bool.eq_false_iff.mpr c48
         subst c48
         have H1 : (if a0_1 = 0 then ((regcertref05_UsesA.f a0_0).bind fun t205 => (if t205 = true then ((regcertref05_UsesB.f a0_0).bind fun t206 => (if t206 = true then (if a0_0 = 1 then (regcertref07_Instr.j2 kj8 false) else (regcertref07_Instr.j2 kj8 (a0_4 != 0))) else (if a0_3 = 0 then (if a0_0 = 1 then (regcertref07_Instr.j2 kj8 false) else (regcertref07_Instr.j2 kj8 (a0_4 != 0))) else (regcertref07_Instr.j2 kj8 true)))) else (if a0_2 = 0 then ((regcertref05_UsesB.f a0_0).bind fun t207 => (if t207 = true then (if a0_0 = 1 then (regcertref07_Instr.j2 kj8 false) else (regcertref07_Instr.j2 kj8 (a0_4 != 0))) else (if a0_3 = 0 then (if a0_0 = 1 then (regcertref07_Instr.j2 kj8 false) else (regcertref07_Instr.j2 kj8 (a0_4 != 0))) else (regcertref07_Instr.j2 kj8 true)))) else (regcertref07_Instr.j2 kj8 true)))) else (regcertref07_Instr.j2 kj8 true)) = some r := by rw [if_neg (show ¬ (false = true) by decide)] at H; exact H
         clear H
         have H := H1
         clear H1
         by_cases c73 : a0_1 = 0
         ·rw [if_pos c73] at H
          have c73b0 : (a0_1 == 0) = true := beq_iff_eq.mpr c73
          have c73b1 : (a0_1 != 0) = false := bne_eq_false_iff_eq.mpr c73
          clear c73
          replace H := Option.bind_eq_some_iff.mp H
          obtain ⟨t205, A740, H⟩ := H
          replace H : (if t205 = true then ((regcertref05_UsesB.f a0_0).bind fun t206 => (if t206 = true then (if a0_0 = 1 then (regcertref07_Instr.j2 kj8 false) else (regcertref07_Instr.j2 kj8 (a0_4 != 0))) else (if a0_3 = 0 then (if a0_0 = 1 then (regcertref07_Instr.j2 kj8 false) else (regcertref07_Instr.j2 kj8 (a0_4 != 0))) else (regcertref07_Instr.j2 kj8 true)))) else (if a0_2 = 0 then ((regcertref05_UsesB.f a0_0).bind fun t207 => (if t207 = true then (if a0_0 = 1 then (regcertref07_Instr.j2 kj8 false) else (regcertref07_Instr.j2 kj8 (a0_4 != 0))) else (if a0_3 = 0 then (if a0_0 = 1 then (regcertref07_Instr.j2 kj8 false) else (regcertref07_Instr.j2 kj8 (a0_4 != 0))) else (regcertref07_Instr.j2 kj8 true)))) else (regcertref07_Instr.j2 kj8 true))) = some r := H
          have A74 := As0 A740
          clear A740
          by_cases c75 : t205 = true
          ·subst c75
           have H1 : ((regcertref05_UsesB.f a0_0).bind fun t206 => (if t206 = true then (if a0_0 = 1 then (regcertref07_Instr.j2 kj8 false) else (regcertref07_Instr.j2 kj8 (a0_4 != 0))) else (if a0_3 = 0 then (if a0_0 = 1 then (regcertref07_Instr.j2 kj8 false) else (regcertref07_Instr.j2 kj8 (a0_4 != 0))) else (regcertref07_Instr.j2 kj8 true)))) = some r := by rw [if_pos rfl] at H; exact H
           clear H
           have H := H1
           clear H1
           replace H := Option.bind_eq_some_iff.mp H
           obtain ⟨t206, A760, H⟩ := H
           replace H : (if t206 = true then (if a0_0 = 1 then (regcertref07_Instr.j2 kj8 false) else (regcertref07_Instr.j2 kj8 (a0_4 != 0))) else (if a0_3 = 0 then (if a0_0 = 1 then (regcertref07_Instr.j2 kj8 false) else (regcertref07_Instr.j2 kj8 (a0_4 != 0))) else (regcertref07_Instr.j2 kj8 true))) = some r := H
           have A76 := As0 A760
           clear A760
           by_cases c77 : t206 = true
           ·subst c77
            have H1 : (if a0_0 = 1 then (regcertref07_Instr.j2 kj8 false) else (regcertref07_Instr.j2 kj8 (a0_4 != 0))) = some r := by rw [if_pos rfl] at H; exact H
            clear H
            have H := H1
            clear H1
            by_cases c78 : a0_0 = 1
            ·rw [if_pos c78] at H
             have c78b0 : (a0_0 == 1) = true := beq_iff_eq.mpr c78
             have c78b1 : (a0_0 != 1) = false := bne_eq_false_iff_eq.mpr c78
             clear c78
             have H' := As0 H
             clear H
             have hcz79_0 : wc.cell? ⟨gb186, 0, none⟩ = some (.int .i64 a0_0) := (blk_cell BK186.out 0).trans rfl
             have hcz79_1 : wc.cell? ⟨gb186, 1, none⟩ = some (.int .i64 a0_1) := (blk_cell BK186.out 1).trans rfl
             have hcz79_2 : wc.cell? ⟨gb186, 2, none⟩ = some (.int .i64 a0_2) := (blk_cell BK186.out 2).trans rfl
             have hcz79_3 : wc.cell? ⟨gb186, 3, none⟩ = some (.int .i64 a0_3) := (blk_cell BK186.out 3).trans rfl
             have hcz79_4 : wc.cell? ⟨gb186, 4, none⟩ = some (.int .i64 a0_4) := (blk_cell BK186.out 4).trans rfl
             have hfz79_0 := blk_frozen BK186.out 0
             have hfz79_1 := blk_frozen BK186.out 1
             have hfz79_2 := blk_frozen BK186.out 2
             have hfz79_3 := blk_frozen BK186.out 3
             have hfz79_4 := blk_frozen BK186.out 4
             go_wp2_with (first | ((with_reducible refine gate_callee (f := 90) rfl ?_); refine goesL_ (some 49) rfl rfl Try.func90 (by kernel_rfl) rfl #[.int .i64 a0_0] rfl (by (try simp only [List.map_toArray, List.map_cons, List.map_nil]); first | done | rfl | (simp only [List.length_drop, List.length_take]; rfl)) ?_; (with_reducible refine (regcertref05_UsesD.calls a0_0 false _ A47.out).mono ?_); rintro e w' ⟨rfl, ⟨nd, rfl⟩⟩; refine ⟨_, rfl, ?_⟩) | (go_at_call 24; (with_reducible refine (regcertref05_UsesA.calls a0_0 true _ A74.out).mono ?_); rintro e w' ⟨rfl, ⟨nd, rfl⟩⟩) | (go_at_call 25; (with_reducible refine (regcertref05_UsesB.calls a0_0 true _ A76.out).mono ?_); rintro e w' ⟨rfl, ⟨nd, rfl⟩⟩))
             go_meet
             case rel => exact ⟨_, (false), (by first | rfl | (simp; done) | (simp [*]; done)), H', ⟨by have := HJ2.out; have := HJ8.out; first | omega | exact Nat.le_refl _⟩, ⟨by (with_reducible repeat (first | refine blk_drewN ?_ _ | refine blk_drew ?_ | refine blk_alloc ?_ _)); exact BK186.out⟩, ⟨by repeat (first | (with_reducible first | exact HB.out | apply below_alloc | apply bdN | apply bd1 | refine below_set ?_ GE186.out) | exact HB.out)⟩⟩
            ·rw [if_neg c78] at H
             have c78b0 : (a0_0 == 1) = false := beq_eq_false_iff_ne.mpr c78
             have c78b1 : (a0_0 != 1) = true := bne_iff_ne.mpr c78
             have H' := As0 H
             clear H
             have hcz80_0 : wc.cell? ⟨gb186, 0, none⟩ = some (.int .i64 a0_0) := (blk_cell BK186.out 0).trans rfl
             have hcz80_1 : wc.cell? ⟨gb186, 1, none⟩ = some (.int .i64 a0_1) := (blk_cell BK186.out 1).trans rfl
             have hcz80_2 : wc.cell? ⟨gb186, 2, none⟩ = some (.int .i64 a0_2) := (blk_cell BK186.out 2).trans rfl
             have hcz80_3 : wc.cell? ⟨gb186, 3, none⟩ = some (.int .i64 a0_3) := (blk_cell BK186.out 3).trans rfl
             have hcz80_4 : wc.cell? ⟨gb186, 4, none⟩ = some (.int .i64 a0_4) := (blk_cell BK186.out 4).trans rfl
             have hfz80_0 := blk_frozen BK186.out 0
             have hfz80_1 := blk_frozen BK186.out 1
             have hfz80_2 := blk_frozen BK186.out 2
             have hfz80_3 := blk_frozen BK186.out 3
             have hfz80_4 := blk_frozen BK186.out 4
             go_wp2_with (first | ((with_reducible refine gate_callee (f := 90) rfl ?_); refine goesL_ (some 49) rfl rfl Try.func90 (by kernel_rfl) rfl #[.int .i64 a0_0] rfl (by (try simp only [List.map_toArray, List.map_cons, List.map_nil]); first | done | rfl | (simp only [List.length_drop, List.length_take]; rfl)) ?_; (with_reducible refine (regcertref05_UsesD.calls a0_0 false _ A47.out).mono ?_); rintro e w' ⟨rfl, ⟨nd, rfl⟩⟩; refine ⟨_, rfl, ?_⟩) | (go_at_call 24; (with_reducible refine (regcertref05_UsesA.calls a0_0 true _ A74.out).mono ?_); rintro e w' ⟨rfl, ⟨nd, rfl⟩⟩) | (go_at_call 25; (with_reducible refine (regcertref05_UsesB.calls a0_0 true _ A76.out).mono ?_); rintro e w' ⟨rfl, ⟨nd, rfl⟩⟩))
             go_meet
             case rel => exact ⟨_, ((a0_4 != 0)), (by first | rfl | (simp; done) | (simp [*]; done)), H', ⟨by have := HJ2.out; have := HJ8.out; first | omega | exact Nat.le_refl _⟩, ⟨by (with_reducible repeat (first | refine blk_drewN ?_ _ | refine blk_drew ?_ | refine blk_alloc ?_ _)); exact BK186.out⟩, ⟨by repeat (first | (with_reducible first | exact HB.out | apply below_alloc | apply bdN | apply bd1 | refine below_set ?_ GE186.out) | exact HB.out)⟩⟩
           ·replace c77 := Bool.eq_false_iff.mpr c77
            subst c77
            have H1 : (if a0_3 = 0 then (if a0_0 = 1 then (regcertref07_Instr.j2 kj8 false) else (regcertref07_Instr.j2 kj8 (a0_4 != 0))) else (regcertref07_Instr.j2 kj8 true)) = some r := by rw [if_neg (show ¬ (false = true) by decide)] at H; exact H
            clear H
            have H := H1
            clear H1
            by_cases c81 : a0_3 = 0
            ·rw [if_pos c81] at H
             have c81b0 : (a0_3 == 0) = true := beq_iff_eq.mpr c81
             have c81b1 : (a0_3 != 0) = false := bne_eq_false_iff_eq.mpr c81
             clear c81
             by_cases c82 : a0_0 = 1
             ·rw [if_pos c82] at H
              have c82b0 : (a0_0 == 1) = true := beq_iff_eq.mpr c82
              have c82b1 : (a0_0 != 1) = false := bne_eq_false_iff_eq.mpr c82
              clear c82
              have H' := As0 H
              clear H
              have hcz83_0 : wc.cell? ⟨gb186, 0, none⟩ = some (.int .i64 a0_0) := (blk_cell BK186.out 0).trans rfl
              have hcz83_1 : wc.cell? ⟨gb186, 1, none⟩ = some (.int .i64 a0_1) := (blk_cell BK186.out 1).trans rfl
              have hcz83_2 : wc.cell? ⟨gb186, 2, none⟩ = some (.int .i64 a0_2) := (blk_cell BK186.out 2).trans rfl
              have hcz83_3 : wc.cell? ⟨gb186, 3, none⟩ = some (.int .i64 a0_3) := (blk_cell BK186.out 3).trans rfl
              have hcz83_4 : wc.cell? ⟨gb186, 4, none⟩ = some (.int .i64 a0_4) := (blk_cell BK186.out 4).trans rfl
              have hfz83_0 := blk_frozen BK186.out 0
              have hfz83_1 := blk_frozen BK186.out 1
              have hfz83_2 := blk_frozen BK186.out 2
              have hfz83_3 := blk_frozen BK186.out 3
              have hfz83_4 := blk_frozen BK186.out 4
              go_wp2_with (first | ((with_reducible refine gate_callee (f := 90) rfl ?_); refine goesL_ (some 49) rfl rfl Try.func90 (by kernel_rfl) rfl #[.int .i64 a0_0] rfl (by (try simp only [List.map_toArray, List.map_cons, List.map_nil]); first | done | rfl | (simp only [List.length_drop, List.length_take]; rfl)) ?_; (with_reducible refine (regcertref05_UsesD.calls a0_0 false _ A47.out).mono ?_); rintro e w' ⟨rfl, ⟨nd, rfl⟩⟩; refine ⟨_, rfl, ?_⟩) | (go_at_call 24; (with_reducible refine (regcertref05_UsesA.calls a0_0 true _ A74.out).mono ?_); rintro e w' ⟨rfl, ⟨nd, rfl⟩⟩) | (go_at_call 25; (with_reducible refine (regcertref05_UsesB.calls a0_0 false _ A76.out).mono ?_); rintro e w' ⟨rfl, ⟨nd, rfl⟩⟩))
              go_meet
              case rel => exact ⟨_, (false), (by first | rfl | (simp; done) | (simp [*]; done)), H', ⟨by have := HJ2.out; have := HJ8.out; first | omega | exact Nat.le_refl _⟩, ⟨by (with_reducible repeat (first | refine blk_drewN ?_ _ | refine blk_drew ?_ | refine blk_alloc ?_ _)); exact BK186.out⟩, ⟨by repeat (first | (with_reducible first | exact HB.out | apply below_alloc | apply bdN | apply bd1 | refine below_set ?_ GE186.out) | exact HB.out)⟩⟩
             ·rw [if_neg c82] at H
              have c82b0 : (a0_0 == 1) = false := beq_eq_false_iff_ne.mpr c82
              have c82b1 : (a0_0 != 1) = true := bne_iff_ne.mpr c82
              have H' := As0 H
              clear H
              have hcz84_0 : wc.cell? ⟨gb186, 0, none⟩ = some (.int .i64 a0_0) := (blk_cell BK186.out 0).trans rfl
              have hcz84_1 : wc.cell? ⟨gb186, 1, none⟩ = some (.int .i64 a0_1) := (blk_cell BK186.out 1).trans rfl
              have hcz84_2 : wc.cell? ⟨gb186, 2, none⟩ = some (.int .i64 a0_2) := (blk_cell BK186.out 2).trans rfl
              have hcz84_3 : wc.cell? ⟨gb186, 3, none⟩ = some (.int .i64 a0_3) := (blk_cell BK186.out 3).trans rfl
              have hcz84_4 : wc.cell? ⟨gb186, 4, none⟩ = some (.int .i64 a0_4) := (blk_cell BK186.out 4).trans rfl
              have hfz84_0 := blk_frozen BK186.out 0
              have hfz84_1 := blk_frozen BK186.out 1
              have hfz84_2 := blk_frozen BK186.out 2
              have hfz84_3 := blk_frozen BK186.out 3
              have hfz84_4 := blk_frozen BK186.out 4
              go_wp2_with (first | ((with_reducible refine gate_callee (f := 90) rfl ?_); refine goesL_ (some 49) rfl rfl Try.func90 (by kernel_rfl) rfl #[.int .i64 a0_0] rfl (by (try simp only [List.map_toArray, List.map_cons, List.map_nil]); first | done | rfl | (simp only [List.length_drop, List.length_take]; rfl)) ?_; (with_reducible refine (regcertref05_UsesD.calls a0_0 false _ A47.out).mono ?_); rintro e w' ⟨rfl, ⟨nd, rfl⟩⟩; refine ⟨_, rfl, ?_⟩) | (go_at_call 24; (with_reducible refine (regcertref05_UsesA.calls a0_0 true _ A74.out).mono ?_); rintro e w' ⟨rfl, ⟨nd, rfl⟩⟩) | (go_at_call 25; (with_reducible refine (regcertref05_UsesB.calls a0_0 false _ A76.out).mono ?_); rintro e w' ⟨rfl, ⟨nd, rfl⟩⟩))
              go_meet
              case rel => exact ⟨_, ((a0_4 != 0)), (by first | rfl | (simp; done) | (simp [*]; done)), H', ⟨by have := HJ2.out; have := HJ8.out; first | omega | exact Nat.le_refl _⟩, ⟨by (with_reducible repeat (first | refine blk_drewN ?_ _ | refine blk_drew ?_ | refine blk_alloc ?_ _)); exact BK186.out⟩, ⟨by repeat (first | (with_reducible first | exact HB.out | apply below_alloc | apply bdN | apply bd1 | refine below_set ?_ GE186.out) | exact HB.out)⟩⟩
            ·rw [if_neg c81] at H
             have c81b0 : (a0_3 == 0) = false := beq_eq_false_iff_ne.mpr c81
             have c81b1 : (a0_3 != 0) = true := bne_iff_ne.mpr c81
             have H' := As0 H
             clear H
             have hcz85_0 : wc.cell? ⟨gb186, 0, none⟩ = some (.int .i64 a0_0) := (blk_cell BK186.out 0).trans rfl
             have hcz85_1 : wc.cell? ⟨gb186, 1, none⟩ = some (.int .i64 a0_1) := (blk_cell BK186.out 1).trans rfl
             have hcz85_2 : wc.cell? ⟨gb186, 2, none⟩ = some (.int .i64 a0_2) := (blk_cell BK186.out 2).trans rfl
             have hcz85_3 : wc.cell? ⟨gb186, 3, none⟩ = some (.int .i64 a0_3) := (blk_cell BK186.out 3).trans rfl
             have hcz85_4 : wc.cell? ⟨gb186, 4, none⟩ = some (.int .i64 a0_4) := (blk_cell BK186.out 4).trans rfl
             have hfz85_0 := blk_frozen BK186.out 0
             have hfz85_1 := blk_frozen BK186.out 1
             have hfz85_2 := blk_frozen BK186.out 2
             have hfz85_3 := blk_frozen BK186.out 3
             have hfz85_4 := blk_frozen BK186.out 4
             go_wp2_with (first | ((with_reducible refine gate_callee (f := 90) rfl ?_); refine goesL_ (some 49) rfl rfl Try.func90 (by kernel_rfl) rfl #[.int .i64 a0_0] rfl (by (try simp only [List.map_toArray, List.map_cons, List.map_nil]); first | done | rfl | (simp only [List.length_drop, List.length_take]; rfl)) ?_; (with_reducible refine (regcertref05_UsesD.calls a0_0 false _ A47.out).mono ?_); rintro e w' ⟨rfl, ⟨nd, rfl⟩⟩; refine ⟨_, rfl, ?_⟩) | (go_at_call 24; (with_reducible refine (regcertref05_UsesA.calls a0_0 true _ A74.out).mono ?_); rintro e w' ⟨rfl, ⟨nd, rfl⟩⟩) | (go_at_call 25; (with_reducible refine (regcertref05_UsesB.calls a0_0 false _ A76.out).mono ?_); rintro e w' ⟨rfl, ⟨nd, rfl⟩⟩))
             go_meet
             case rel => exact ⟨_, (true), (by first | rfl | (simp; done) | (simp [*]; done)), H', ⟨by have := HJ2.out; have := HJ8.out; first | omega | exact Nat.le_refl _⟩, ⟨by (with_reducible repeat (first | refine blk_drewN ?_ _ | refine blk_drew ?_ | refine blk_alloc ?_ _)); exact BK186.out⟩, ⟨by repeat (first | (with_reducible first | exact HB.out | apply below_alloc | apply bdN | apply bd1 | refine below_set ?_ GE186.out) | exact HB.out)⟩⟩
          ·replace c75 := Bool.eq_false_iff.mpr c75
           subst c75
           have H1 : (if a0_2 = 0 then ((regcertref05_UsesB.f a0_0).bind fun t207 => (if t207 = true then (if a0_0 = 1 then (regcertref07_Instr.j2 kj8 false) else (regcertref07_Instr.j2 kj8 (a0_4 != 0))) else (if a0_3 = 0 then (if a0_0 = 1 then (regcertref07_Instr.j2 kj8 false) else (regcertref07_Instr.j2 kj8 (a0_4 != 0))) else (regcertref07_Instr.j2 kj8 true)))) else (regcertref07_Instr.j2 kj8 true)) = some r := by rw [if_neg (show ¬ (false = true) by decide)] at H; exact H
           clear H
           have H := H1
           clear H1
           by_cases c86 : a0_2 = 0
           ·rw [if_pos c86] at H
            have c86b0 : (a0_2 == 0) = true := beq_iff_eq.mpr c86
            have c86b1 : (a0_2 != 0) = false := bne_eq_false_iff_eq.mpr c86
            clear c86
            replace H := Option.bind_eq_some_iff.mp H
            obtain ⟨t207, A870, H⟩ := H
            replace H : (if t207 = true then (if a0_0 = 1 then (regcertref07_Instr.j2 kj8 false) else (regcertref07_Instr.j2 kj8 (a0_4 != 0))) else (if a0_3 = 0 then (if a0_0 = 1 then (regcertref07_Instr.j2 kj8 false) else (regcertref07_Instr.j2 kj8 (a0_4 != 0))) else (regcertref07_Instr.j2 kj8 true))) = some r := H
            have A87 := As0 A870
            clear A870
            by_cases c88 : t207 = true
            ·subst c88
             have H1 : (if a0_0 = 1 then (regcertref07_Instr.j2 kj8 false) else (regcertref07_Instr.j2 kj8 (a0_4 != 0))) = some r := by rw [if_pos rfl] at H; exact H
             clear H
             have H := H1
             clear H1
             by_cases c89 : a0_0 = 1
             ·rw [if_pos c89] at H
              have c89b0 : (a0_0 == 1) = true := beq_iff_eq.mpr c89
              have c89b1 : (a0_0 != 1) = false := bne_eq_false_iff_eq.mpr c89
              clear c89
              have H' := As0 H
              clear H
              have hcz90_0 : wc.cell? ⟨gb186, 0, none⟩ = some (.int .i64 a0_0) := (blk_cell BK186.out 0).trans rfl
              have hcz90_1 : wc.cell? ⟨gb186, 1, none⟩ = some (.int .i64 a0_1) := (blk_cell BK186.out 1).trans rfl
              have hcz90_2 : wc.cell? ⟨gb186, 2, none⟩ = some (.int .i64 a0_2) := (blk_cell BK186.out 2).trans rfl
              have hcz90_3 : wc.cell? ⟨gb186, 3, none⟩ = some (.int .i64 a0_3) := (blk_cell BK186.out 3).trans rfl
              have hcz90_4 : wc.cell? ⟨gb186, 4, none⟩ = some (.int .i64 a0_4) := (blk_cell BK186.out 4).trans rfl
              have hfz90_0 := blk_frozen BK186.out 0
              have hfz90_1 := blk_frozen BK186.out 1
              have hfz90_2 := blk_frozen BK186.out 2
              have hfz90_3 := blk_frozen BK186.out 3
              have hfz90_4 := blk_frozen BK186.out 4
              go_wp2_with (first | ((with_reducible refine gate_callee (f := 90) rfl ?_); refine goesL_ (some 49) rfl rfl Try.func90 (by kernel_rfl) rfl #[.int .i64 a0_0] rfl (by (try simp only [List.map_toArray, List.map_cons, List.map_nil]); first | done | rfl | (simp only [List.length_drop, List.length_take]; rfl)) ?_; (with_reducible refine (regcertref05_UsesD.calls a0_0 false _ A47.out).mono ?_); rintro e w' ⟨rfl, ⟨nd, rfl⟩⟩; refine ⟨_, rfl, ?_⟩) | (go_at_call 24; (with_reducible refine (regcertref05_UsesA.calls a0_0 false _ A74.out).mono ?_); rintro e w' ⟨rfl, ⟨nd, rfl⟩⟩) | (go_at_call 25; (with_reducible refine (regcertref05_UsesB.calls a0_0 true _ A87.out).mono ?_); rintro e w' ⟨rfl, ⟨nd, rfl⟩⟩))
              go_meet
              case rel => exact ⟨_, (false), (by first | rfl | (simp; done) | (simp [*]; done)), H', ⟨by have := HJ2.out; have := HJ8.out; first | omega | exact Nat.le_refl _⟩, ⟨by (with_reducible repeat (first | refine blk_drewN ?_ _ | refine blk_drew ?_ | refine blk_alloc ?_ _)); exact BK186.out⟩, ⟨by repeat (first | (with_reducible first | exact HB.out | apply below_alloc | apply bdN | apply bd1 | refine below_set ?_ GE186.out) | exact HB.out)⟩⟩
             ·rw [if_neg c89] at H
              have c89b0 : (a0_0 == 1) = false := beq_eq_false_iff_ne.mpr c89
              have c89b1 : (a0_0 != 1) = true := bne_iff_ne.mpr c89
              have H' := As0 H
              clear H
              have hcz91_0 : wc.cell? ⟨gb186, 0, none⟩ = some (.int .i64 a0_0) := (blk_cell BK186.out 0).trans rfl
              have hcz91_1 : wc.cell? ⟨gb186, 1, none⟩ = some (.int .i64 a0_1) := (blk_cell BK186.out 1).trans rfl
              have hcz91_2 : wc.cell? ⟨gb186, 2, none⟩ = some (.int .i64 a0_2) := (blk_cell BK186.out 2).trans rfl
              have hcz91_3 : wc.cell? ⟨gb186, 3, none⟩ = some (.int .i64 a0_3) := (blk_cell BK186.out 3).trans rfl
              have hcz91_4 : wc.cell? ⟨gb186, 4, none⟩ = some (.int .i64 a0_4) := (blk_cell BK186.out 4).trans rfl
              have hfz91_0 := blk_frozen BK186.out 0
              have hfz91_1 := blk_frozen BK186.out 1
              have hfz91_2 := blk_frozen BK186.out 2
              have hfz91_3 := blk_frozen BK186.out 3
              have hfz91_4 := blk_frozen BK186.out 4
              go_wp2_with (first | ((with_reducible refine gate_callee (f := 90) rfl ?_); refine goesL_ (some 49) rfl rfl Try.func90 (by kernel_rfl) rfl #[.int .i64 a0_0] rfl (by (try simp only [List.map_toArray, List.map_cons, List.map_nil]); first | done | rfl | (simp only [List.length_drop, List.length_take]; rfl)) ?_; (with_reducible refine (regcertref05_UsesD.calls a0_0 false _ A47.out).mono ?_); rintro e w' ⟨rfl, ⟨nd, rfl⟩⟩; refine ⟨_, rfl, ?_⟩) | (go_at_call 24; (with_reducible refine (regcertref05_UsesA.calls a0_0 false _ A74.out).mono ?_); rintro e w' ⟨rfl, ⟨nd, rfl⟩⟩) | (go_at_call 25; (with_reducible refine (regcertref05_UsesB.calls a0_0 true _ A87.out).mono ?_); rintro e w' ⟨rfl, ⟨nd, rfl⟩⟩))
              go_meet
              case rel => exact ⟨_, ((a0_4 != 0)), (by first | rfl | (simp; done) | (simp [*]; done)), H', ⟨by have := HJ2.out; have := HJ8.out; first | omega | exact Nat.le_refl _⟩, ⟨by (with_reducible repeat (first | refine blk_drewN ?_ _ | refine blk_drew ?_ | refine blk_alloc ?_ _)); exact BK186.out⟩, ⟨by repeat (first | (with_reducible first | exact HB.out | apply below_alloc | apply bdN | apply bd1 | refine below_set ?_ GE186.out) | exact HB.out)⟩⟩
            ·replace c88 := Bool.eq_false_iff.mpr c88
             subst c88
             have H1 : (if a0_3 = 0 then (if a0_0 = 1 then (regcertref07_Instr.j2 kj8 false) else (regcertref07_Instr.j2 kj8 (a0_4 != 0))) else (regcertref07_Instr.j2 kj8 true)) = some r := by rw [if_neg (show ¬ (false = true) by decide)] at H; exact H
             clear H
             have H := H1
             clear H1
             by_cases c92 : a0_3 = 0
             ·rw [if_pos c92] at H
              have c92b0 : (a0_3 == 0) = true := beq_iff_eq.mpr c92
              have c92b1 : (a0_3 != 0) = false := bne_eq_false_iff_eq.mpr c92
              clear c92
              by_cases c93 : a0_0 = 1
              ·rw [if_pos c93] at H
               have c93b0 : (a0_0 == 1) = true := beq_iff_eq.mpr c93
               have c93b1 : (a0_0 != 1) = false := bne_eq_false_iff_eq.mpr c93
               clear c93
               have H' := As0 H
               clear H
               have hcz94_0 : wc.cell? ⟨gb186, 0, none⟩ = some (.int .i64 a0_0) := (blk_cell BK186.out 0).trans rfl
               have hcz94_1 : wc.cell? ⟨gb186, 1, none⟩ = some (.int .i64 a0_1) := (blk_cell BK186.out 1).trans rfl
               have hcz94_2 : wc.cell? ⟨gb186, 2, none⟩ = some (.int .i64 a0_2) := (blk_cell BK186.out 2).trans rfl
               have hcz94_3 : wc.cell? ⟨gb186, 3, none⟩ = some (.int .i64 a0_3) := (blk_cell BK186.out 3).trans rfl
               have hcz94_4 : wc.cell? ⟨gb186, 4, none⟩ = some (.int .i64 a0_4) := (blk_cell BK186.out 4).trans rfl
               have hfz94_0 := blk_frozen BK186.out 0
               have hfz94_1 := blk_frozen BK186.out 1
               have hfz94_2 := blk_frozen BK186.out 2
               have hfz94_3 := blk_frozen BK186.out 3
               have hfz94_4 := blk_frozen BK186.out 4
               go_wp2_with (first | ((with_reducible refine gate_callee (f := 90) rfl ?_); refine goesL_ (some 49) rfl rfl Try.func90 (by kernel_rfl) rfl #[.int .i64 a0_0] rfl (by (try simp only [List.map_toArray, List.map_cons, List.map_nil]); first | done | rfl | (simp only [List.length_drop, List.length_take]; rfl)) ?_; (with_reducible refine (regcertref05_UsesD.calls a0_0 false _ A47.out).mono ?_); rintro e w' ⟨rfl, ⟨nd, rfl⟩⟩; refine ⟨_, rfl, ?_⟩) | (go_at_call 24; (with_reducible refine (regcertref05_UsesA.calls a0_0 false _ A74.out).mono ?_); rintro e w' ⟨rfl, ⟨nd, rfl⟩⟩) | (go_at_call 25; (with_reducible refine (regcertref05_UsesB.calls a0_0 false _ A87.out).mono ?_); rintro e w' ⟨rfl, ⟨nd, rfl⟩⟩))
               go_meet
               case rel => exact ⟨_, (false), (by first | rfl | (simp; done) | (simp [*]; done)), H', ⟨by have := HJ2.out; have := HJ8.out; first | omega | exact Nat.le_refl _⟩, ⟨by (with_reducible repeat (first | refine blk_drewN ?_ _ | refine blk_drew ?_ | refine blk_alloc ?_ _)); exact BK186.out⟩, ⟨by repeat (first | (with_reducible first | exact HB.out | apply below_alloc | apply bdN | apply bd1 | refine below_set ?_ GE186.out) | exact HB.out)⟩⟩
              ·rw [if_neg c93] at H
               have c93b0 : (a0_0 == 1) = false := beq_eq_false_iff_ne.mpr c93
               have c93b1 : (a0_0 != 1) = true := bne_iff_ne.mpr c93
               have H' := As0 H
               clear H
               have hcz95_0 : wc.cell? ⟨gb186, 0, none⟩ = some (.int .i64 a0_0) := (blk_cell BK186.out 0).trans rfl
               have hcz95_1 : wc.cell? ⟨gb186, 1, none⟩ = some (.int .i64 a0_1) := (blk_cell BK186.out 1).trans rfl
               have hcz95_2 : wc.cell? ⟨gb186, 2, none⟩ = some (.int .i64 a0_2) := (blk_cell BK186.out 2).trans rfl
               have hcz95_3 : wc.cell? ⟨gb186, 3, none⟩ = some (.int .i64 a0_3) := (blk_cell BK186.out 3).trans rfl
               have hcz95_4 : wc.cell? ⟨gb186, 4, none⟩ = some (.int .i64 a0_4) := (blk_cell BK186.out 4).trans rfl
               have hfz95_0 := blk_frozen BK186.out 0
               have hfz95_1 := blk_frozen BK186.out 1
               have hfz95_2 := blk_frozen BK186.out 2
               have hfz95_3 := blk_frozen BK186.out 3
               have hfz95_4 := blk_frozen BK186.out 4
               go_wp2_with (first | ((with_reducible refine gate_callee (f := 90) rfl ?_); refine goesL_ (some 49) rfl rfl Try.func90 (by kernel_rfl) rfl #[.int .i64 a0_0] rfl (by (try simp only [List.map_toArray, List.map_cons, List.map_nil]); first | done | rfl | (simp only [List.length_drop, List.length_take]; rfl)) ?_; (with_reducible refine (regcertref05_UsesD.calls a0_0 false _ A47.out).mono ?_); rintro e w' ⟨rfl, ⟨nd, rfl⟩⟩; refine ⟨_, rfl, ?_⟩) | (go_at_call 24; (with_reducible refine (regcertref05_UsesA.calls a0_0 false _ A74.out).mono ?_); rintro e w' ⟨rfl, ⟨nd, rfl⟩⟩) | (go_at_call 25; (with_reducible refine (regcertref05_UsesB.calls a0_0 false _ A87.out).mono ?_); rintro e w' ⟨rfl, ⟨nd, rfl⟩⟩))
               go_meet
               case rel => exact ⟨_, ((a0_4 != 0)), (by first | rfl | (simp; done) | (simp [*]; done)), H', ⟨by have := HJ2.out; have := HJ8.out; first | omega | exact Nat.le_refl _⟩, ⟨by (with_reducible repeat (first | refine blk_drewN ?_ _ | refine blk_drew ?_ | refine blk_alloc ?_ _)); exact BK186.out⟩, ⟨by repeat (first | (with_reducible first | exact HB.out | apply below_alloc | apply bdN | apply bd1 | refine below_set ?_ GE186.out) | exact HB.out)⟩⟩
             ·rw [if_neg c92] at H
              have c92b0 : (a0_3 == 0) = false := beq_eq_false_iff_ne.mpr c92
              have c92b1 : (a0_3 != 0) = true := bne_iff_ne.mpr c92
              have H' := As0 H
              clear H
              have hcz96_0 : wc.cell? ⟨gb186, 0, none⟩ = some (.int .i64 a0_0) := (blk_cell BK186.out 0).trans rfl
              have hcz96_1 : wc.cell? ⟨gb186, 1, none⟩ = some (.int .i64 a0_1) := (blk_cell BK186.out 1).trans rfl
              have hcz96_2 : wc.cell? ⟨gb186, 2, none⟩ = some (.int .i64 a0_2) := (blk_cell BK186.out 2).trans rfl
              have hcz96_3 : wc.cell? ⟨gb186, 3, none⟩ = some (.int .i64 a0_3) := (blk_cell BK186.out 3).trans rfl
              have hcz96_4 : wc.cell? ⟨gb186, 4, none⟩ = some (.int .i64 a0_4) := (blk_cell BK186.out 4).trans rfl
              have hfz96_0 := blk_frozen BK186.out 0
              have hfz96_1 := blk_frozen BK186.out 1
              have hfz96_2 := blk_frozen BK186.out 2
              have hfz96_3 := blk_frozen BK186.out 3
              have hfz96_4 := blk_frozen BK186.out 4
              go_wp2_with (first | ((with_reducible refine gate_callee (f := 90) rfl ?_); refine goesL_ (some 49) rfl rfl Try.func90 (by kernel_rfl) rfl #[.int .i64 a0_0] rfl (by (try simp only [List.map_toArray, List.map_cons, List.map_nil]); first | done | rfl | (simp only [List.length_drop, List.length_take]; rfl)) ?_; (with_reducible refine (regcertref05_UsesD.calls a0_0 false _ A47.out).mono ?_); rintro e w' ⟨rfl, ⟨nd, rfl⟩⟩; refine ⟨_, rfl, ?_⟩) | (go_at_call 24; (with_reducible refine (regcertref05_UsesA.calls a0_0 false _ A74.out).mono ?_); rintro e w' ⟨rfl, ⟨nd, rfl⟩⟩) | (go_at_call 25; (with_reducible refine (regcertref05_UsesB.calls a0_0 false _ A87.out).mono ?_); rintro e w' ⟨rfl, ⟨nd, rfl⟩⟩))
              go_meet
              case rel => exact ⟨_, (true), (by first | rfl | (simp; done) | (simp [*]; done)), H', ⟨by have := HJ2.out; have := HJ8.out; first | omega | exact Nat.le_refl _⟩, ⟨by (with_reducible repeat (first | refine blk_drewN ?_ _ | refine blk_drew ?_ | refine blk_alloc ?_ _)); exact BK186.out⟩, ⟨by repeat (first | (with_reducible first | exact HB.out | apply below_alloc | apply bdN | apply bd1 | refine below_set ?_ GE186.out) | exact HB.out)⟩⟩
           ·rw [if_neg c86] at H
            have c86b0 : (a0_2 == 0) = false := beq_eq_false_iff_ne.mpr c86
            have c86b1 : (a0_2 != 0) = true := bne_iff_ne.mpr c86
            have H' := As0 H
            clear H
            have hcz97_0 : wc.cell? ⟨gb186, 0, none⟩ = some (.int .i64 a0_0) := (blk_cell BK186.out 0).trans rfl
            have hcz97_1 : wc.cell? ⟨gb186, 1, none⟩ = some (.int .i64 a0_1) := (blk_cell BK186.out 1).trans rfl
            have hcz97_2 : wc.cell? ⟨gb186, 2, none⟩ = some (.int .i64 a0_2) := (blk_cell BK186.out 2).trans rfl
            have hcz97_3 : wc.cell? ⟨gb186, 3, none⟩ = some (.int .i64 a0_3) := (blk_cell BK186.out 3).trans rfl
            have hcz97_4 : wc.cell? ⟨gb186, 4, none⟩ = some (.int .i64 a0_4) := (blk_cell BK186.out 4).trans rfl
            have hfz97_0 := blk_frozen BK186.out 0
            have hfz97_1 := blk_frozen BK186.out 1
            have hfz97_2 := blk_frozen BK186.out 2
            have hfz97_3 := blk_frozen BK186.out 3
            have hfz97_4 := blk_frozen BK186.out 4
            go_wp2_with (first | ((with_reducible refine gate_callee (f := 90) rfl ?_); refine goesL_ (some 49) rfl rfl Try.func90 (by kernel_rfl) rfl #[.int .i64 a0_0] rfl (by (try simp only [List.map_toArray, List.map_cons, List.map_nil]); first | done | rfl | (simp only [List.length_drop, List.length_take]; rfl)) ?_; (with_reducible refine (regcertref05_UsesD.calls a0_0 false _ A47.out).mono ?_); rintro e w' ⟨rfl, ⟨nd, rfl⟩⟩; refine ⟨_, rfl, ?_⟩) | (go_at_call 24; (with_reducible refine (regcertref05_UsesA.calls a0_0 false _ A74.out).mono ?_); rintro e w' ⟨rfl, ⟨nd, rfl⟩⟩))
            go_meet
            case rel => exact ⟨_, (true), (by first | rfl | (simp; done) | (simp [*]; done)), H', ⟨by have := HJ2.out; have := HJ8.out; first | omega | exact Nat.le_refl _⟩, ⟨by (with_reducible repeat (first | refine blk_drewN ?_ _ | refine blk_drew ?_ | refine blk_alloc ?_ _)); exact BK186.out⟩, ⟨by repeat (first | (with_reducible first | exact HB.out | apply below_alloc | apply bdN | apply bd1 | refine below_set ?_ GE186.out) | exact HB.out)⟩⟩
         ·rw [if_neg c73] at H
          have c73b0 : (a0_1 == 0) = false := beq_eq_false_iff_ne.mpr c73
          have c73b1 : (a0_1 != 0) = true := bne_iff_ne.mpr c73
          have H' := As0 H
          clear H
          have hcz98_0 : wc.cell? ⟨gb186, 0, none⟩ = some (.int .i64 a0_0) := (blk_cell BK186.out 0).trans rfl
          have hcz98_1 : wc.cell? ⟨gb186, 1, none⟩ = some (.int .i64 a0_1) := (blk_cell BK186.out 1).trans rfl
          have hcz98_2 : wc.cell? ⟨gb186, 2, none⟩ = some (.int .i64 a0_2) := (blk_cell BK186.out 2).trans rfl
          have hcz98_3 : wc.cell? ⟨gb186, 3, none⟩ = some (.int .i64 a0_3) := (blk_cell BK186.out 3).trans rfl
          have hcz98_4 : wc.cell? ⟨gb186, 4, none⟩ = some (.int .i64 a0_4) := (blk_cell BK186.out 4).trans rfl
          have hfz98_0 := blk_frozen BK186.out 0
          have hfz98_1 := blk_frozen BK186.out 1
          have hfz98_2 := blk_frozen BK186.out 2
          have hfz98_3 := blk_frozen BK186.out 3
          have hfz98_4 := blk_frozen BK186.out 4
          go_wp2_with (first | ((with_reducible refine gate_callee (f := 90) rfl ?_); refine goesL_ (some 49) rfl rfl Try.func90 (by kernel_rfl) rfl #[.int .i64 a0_0] rfl (by (try simp only [List.map_toArray, List.map_cons, List.map_nil]); first | done | rfl | (simp only [List.length_drop, List.length_take]; rfl)) ?_; (with_reducible refine (regcertref05_UsesD.calls a0_0 false _ A47.out).mono ?_); rintro e w' ⟨rfl, ⟨nd, rfl⟩⟩; refine ⟨_, rfl, ?_⟩))
          go_meet
          case rel => exact ⟨_, (true), (by first | rfl | (simp; done) | (simp [*]; done)), H', ⟨by have := HJ2.out; have := HJ8.out; first | omega | exact Nat.le_refl _⟩, ⟨by (with_reducible repeat (first | refine blk_drewN ?_ _ | refine blk_drew ?_ | refine blk_alloc ?_ _)); exact BK186.out⟩, ⟨by repeat (first | (with_reducible first | exact HB.out | apply below_alloc | apply bdN | apply bd1 | refine below_set ?_ GE186.out) | exact HB.out)⟩⟩
       case rest =>
        clear HC46
        try clear p2
        try clear c4
        try clear c5
        try clear c6
        try clear c7
        try clear c8
        try clear c9
        try clear c45
        try clear c48
        try clear c50
        try clear c52
        try clear c53
        try clear c53b0
        try clear c53b1
        try clear c56
        try clear c56b0
        try clear c56b1
        try clear c57
        try clear c57b0
        try clear c57b1
        try clear c61
        try clear c61b0
        try clear c61b1
        try clear c63
        try clear c64
        try clear c64b0
        try clear c64b1
        try clear c67
        try clear c67b0
        try clear c67b1
        try clear c68
        try clear c68b0
        try clear c68b1
        try clear c73
        try clear c73b0
        try clear c73b1
        try clear c75
        try clear c77
        try clear c78
        try clear c78b0
        try clear c78b1
        try clear c81
        try clear c81b0
        try clear c81b1
        try clear c82
        try clear c82b0
        try clear c82b1
        try clear c86
        try clear c86b0
        try clear c86b1
        try clear c88
        try clear c89
        try clear c89b0
        try clear c89b1
        try clear c90
        try clear c92
        try clear c92b0
        try clear c92b1
        try clear c93
        try clear c93b0
        try clear c93b1
        try clear hcz54_0
        try clear hcz54_1
        try clear hcz54_2
        try clear hcz54_3
        try clear hcz54_4
        try clear hcz55_0
        try clear hcz55_1
        try clear hcz55_2
        try clear hcz55_3
        try clear hcz55_4
        try clear hcz58_0
        try clear hcz58_1
        try clear hcz58_2
        try clear hcz58_3
        try clear hcz58_4
        try clear hcz59_0
        try clear hcz59_1
        try clear hcz59_2
        try clear hcz59_3
        try clear hcz59_4
        try clear hcz60_0
        try clear hcz60_1
        try clear hcz60_2
        try clear hcz60_3
        try clear hcz60_4
        try clear hcz65_0
        try clear hcz65_1
        try clear hcz65_2
        try clear hcz65_3
        try clear hcz65_4
        try clear hcz66_0
        try clear hcz66_1
        try clear hcz66_2
        try clear hcz66_3
        try clear hcz66_4
        try clear hcz69_0
        try clear hcz69_1
        try clear hcz69_2
        try clear hcz69_3
        try clear hcz69_4
        try clear hcz70_0
        try clear hcz70_1
        try clear hcz70_2
        try clear hcz70_3
        try clear hcz70_4
        try clear hcz71_0
        try clear hcz71_1
        try clear hcz71_2
        try clear hcz71_3
        try clear hcz71_4
        try clear hcz72_0
        try clear hcz72_1
        try clear hcz72_2
        try clear hcz72_3
        try clear hcz72_4
        try clear hcz79_0
        try clear hcz79_1
        try clear hcz79_2
        try clear hcz79_3
        try clear hcz79_4
        try clear hcz80_0
        try clear hcz80_1
        try clear hcz80_2
        try clear hcz80_3
        try clear hcz80_4
        try clear hcz83_0
        try clear hcz83_1
        try clear hcz83_2
        try clear hcz83_3
        try clear hcz83_4
        try clear hcz84_0
        try clear hcz84_1
        try clear hcz84_2
        try clear hcz84_3
        try clear hcz84_4
        try clear hcz85_0
        try clear hcz85_1
        try clear hcz85_2
        try clear hcz85_3
        try clear hcz85_4
        try clear hcz90_0
        try clear hcz90_1
        try clear hcz90_2
        try clear hcz90_3
        try clear hcz90_4
        try clear hcz91_0
        try clear hcz91_1
        try clear hcz91_2
        try clear hcz91_3
        try clear hcz91_4
        try clear hcz94_0
        try clear hcz94_1
        try clear hcz94_2
        try clear hcz94_3
        try clear hcz94_4
        try clear hcz95_0
        try clear hcz95_1
        try clear hcz95_2
        try clear hcz95_3
        try clear hcz95_4
        try clear hcz96_0
        try clear hcz96_1
        try clear hcz96_2
        try clear hcz96_3
        try clear hcz96_4
        try clear hcz97_0
        try clear hcz97_1
        try clear hcz97_2
        try clear hcz97_3
        try clear hcz97_4
        try clear hcz98_0
        try clear hcz98_1
        try clear hcz98_2
        try clear hcz98_3
        try clear hcz98_4
        try clear hfz54_0
        try clear hfz54_1
        try clear hfz54_2
        try clear hfz54_3
        try clear hfz54_4
        try clear hfz55_0
        try clear hfz55_1
        try clear hfz55_2
        try clear hfz55_3
        try clear hfz55_4
        try clear hfz58_0
        try clear hfz58_1
        try clear hfz58_2
        try clear hfz58_3
        try clear hfz58_4
        try clear hfz59_0
        try clear hfz59_1
        try clear hfz59_2
        try clear hfz59_3
        try clear hfz59_4
        try clear hfz60_0
        try clear hfz60_1
        try clear hfz60_2
        try clear hfz60_3
        try clear hfz60_4
        try clear hfz65_0
        try clear hfz65_1
        try clear hfz65_2
        try clear hfz65_3
        try clear hfz65_4
        try clear hfz66_0
        try clear hfz66_1
        try clear hfz66_2
        try clear hfz66_3
        try clear hfz66_4
        try clear hfz69_0
        try clear hfz69_1
        try clear hfz69_2
        try clear hfz69_3
        try clear hfz69_4
        try clear hfz70_0
        try clear hfz70_1
        try clear hfz70_2
        try clear hfz70_3
        try clear hfz70_4
        try clear hfz71_0
        try clear hfz71_1
        try clear hfz71_2
        try clear hfz71_3
        try clear hfz71_4
        try clear hfz72_0
        try clear hfz72_1
        try clear hfz72_2
        try clear hfz72_3
        try clear hfz72_4
        try clear hfz79_0
        try clear hfz79_1
        try clear hfz79_2
        try clear hfz79_3
        try clear hfz79_4
        try clear hfz80_0
        try clear hfz80_1
        try clear hfz80_2
        try clear hfz80_3
        try clear hfz80_4
        try clear hfz83_0
        try clear hfz83_1
        try clear hfz83_2
        try clear hfz83_3
        try clear hfz83_4
        try clear hfz84_0
        try clear hfz84_1
        try clear hfz84_2
        try clear hfz84_3
        try clear hfz84_4
        try clear hfz85_0
        try clear hfz85_1
        try clear hfz85_2
        try clear hfz85_3
        try clear hfz85_4
        try clear hfz90_0
        try clear hfz90_1
        try clear hfz90_2
        try clear hfz90_3
        try clear hfz90_4
        try clear hfz91_0
        try clear hfz91_1
        try clear hfz91_2
        try clear hfz91_3
        try clear hfz91_4
        try clear hfz94_0
        try clear hfz94_1
        try clear hfz94_2
        try clear hfz94_3
        try clear hfz94_4
        try clear hfz95_0
        try clear hfz95_1
        try clear hfz95_2
        try clear hfz95_3
        try clear hfz95_4
        try clear hfz96_0
        try clear hfz96_1
        try clear hfz96_2
        try clear hfz96_3
        try clear hfz96_4
        try clear hfz97_0
        try clear hfz97_1
        try clear hfz97_2
        try clear hfz97_3
        try clear hfz97_4
        try clear hfz98_0
        try clear hfz98_1
        try clear hfz98_2
        try clear hfz98_3
        try clear hfz98_4
        obtain ⟨kq, x87_45, rfl, HA, HJ45, BK186, HB⟩ := hcut
        cases kq with
        | zero => exact absurd HA.out (by simp [regcertref07_Instr.j2])
        | succ kj45 =>
         have H := HA.out
         clear HA
         simp only [regcertref07_Instr.j2] at H
         by_cases c99 : x87_45 = true
         ·subst c99
          have H1 : (some 12) = some r := by rw [if_pos rfl] at H; exact H
          clear H
          have H := H1
          clear H1
          obtain rfl := Option.some.inj H
          go_wp2
          go_ret
          exact ⟨by first | rfl | (simp [errW_none, errW_some] <;> rfl) | (simp [*, errW_none, errW_some] <;> rfl), by repeat (first | (with_reducible first | exact HB.out | apply below_alloc | apply bdN | apply bd1 | refine below_set ?_ GE186.out) | exact HB.out)⟩
         ·replace c99 := Bool.eq_false_iff.mpr c99
          subst c99
          have H1 : (some 0) = some r := by rw [if_neg (show ¬ (false = true) by decide)] at H; exact H
          clear H
          have H := H1
          clear H1
          obtain rfl := Option.some.inj H
          go_wp2
          go_ret
          exact ⟨by first | rfl | (simp [errW_none, errW_some] <;> rfl) | (simp [*, errW_none, errW_some] <;> rfl), by repeat (first | (with_reducible first | exact HB.out | apply below_alloc | apply bdN | apply bd1 | refine below_set ?_ GE186.out) | exact HB.out)⟩

/-! ### regcertref07_Term: function 66 -/
mutual
def regcertref07_Term.j0 : Nat → Bool → Option (Int)
 | 0, _ => none
 | k + 1, x23 => if x23 = true then (some 12) else (some 0)
def regcertref07_Term.j1 : Nat → Bool → Option (Int)
 | 0, _ => none
 | k + 1, x42 => if x42 = true then (some 11) else (some 0)
def regcertref07_Term.j2 : Nat → Bool → Option (Int)
 | 0, _ => none
 | k + 1, x57 => if x57 = true then (some 12) else (some 0)
end
def regcertref07_Term.f (k : Nat) (a0_0 : Int) (a0_1 : Int) (a0_2 : Int) (a0_3 : Int) (a1 : Int) (a2 : Int) : Option (Int) := if a0_0 = 1 then ((regcertref07_in.f a0_2 a2).bind fun t209 => (if t209 = true then (if a0_1 = 0 then (regcertref07_Term.j0 k (a0_3 != 0)) else (regcertref07_Term.j0 k true)) else (some 11))) else (if a0_0 = 2 then ((regcertref07_in.f a0_1 a1).bind fun t210 => (if t210 = true then ((regcertref07_in.f a0_2 a2).bind fun t211 => (if t211 = true then ((regcertref07_in.f a0_3 a2).bind fun t212 => (regcertref07_Term.j1 k (!t212))) else (regcertref07_Term.j1 k true))) else (some 9))) else (if a0_0 = 3 then ((regcertref07_in.f a0_1 a1).bind fun t213 => (if t213 = true then (if a0_2 = 0 then (regcertref07_Term.j2 k (a0_3 != 0)) else (regcertref07_Term.j2 k true)) else (some 9))) else (some 16)))
theorem regcertref07_Term.mono_l : ∀ k, (∀ y0, LeO (regcertref07_Term.j0 k y0) (regcertref07_Term.j0 (k + 1) y0)) ∧ (∀ y0, LeO (regcertref07_Term.j1 k y0) (regcertref07_Term.j1 (k + 1) y0)) ∧ (∀ y0, LeO (regcertref07_Term.j2 k y0) (regcertref07_Term.j2 (k + 1) y0))
 | 0 => ⟨fun _ r h => by simp [regcertref07_Term.j0] at h, fun _ r h => by simp [regcertref07_Term.j1] at h, fun _ r h => by simp [regcertref07_Term.j2] at h⟩
 | k + 1 => by
  obtain ⟨ih0, ih1, ih2⟩ := regcertref07_Term.mono_l k
  refine ⟨?_, ?_, ?_⟩
  ·intro y0
   unfold regcertref07_Term.j0
   repeat' first
   | (with_reducible exact ih0 _)
   | (with_reducible exact ih1 _)
   | (with_reducible exact ih2 _)
   | (with_reducible exact LeO.refl _)
   | (with_reducible exact LeO.none _)
   | (with_reducible refine LeO.ite ?_ ?_)
   | (with_reducible refine LeO.bind ?_ (fun _ => ?_))
   | exact ih0 _
   | exact ih1 _
   | exact ih2 _
   | exact LeO.none _
   | refine LeO.ite ?_ ?_
   | refine LeO.bind ?_ (fun _ => ?_)
  ·intro y0
   unfold regcertref07_Term.j1
   repeat' first
   | (with_reducible exact ih0 _)
   | (with_reducible exact ih1 _)
   | (with_reducible exact ih2 _)
   | (with_reducible exact LeO.refl _)
   | (with_reducible exact LeO.none _)
   | (with_reducible refine LeO.ite ?_ ?_)
   | (with_reducible refine LeO.bind ?_ (fun _ => ?_))
   | exact ih0 _
   | exact ih1 _
   | exact ih2 _
   | exact LeO.none _
   | refine LeO.ite ?_ ?_
   | refine LeO.bind ?_ (fun _ => ?_)
  ·intro y0
   unfold regcertref07_Term.j2
   repeat' first
   | (with_reducible exact ih0 _)
   | (with_reducible exact ih1 _)
   | (with_reducible exact ih2 _)
   | (with_reducible exact LeO.refl _)
   | (with_reducible exact LeO.none _)
   | (with_reducible refine LeO.ite ?_ ?_)
   | (with_reducible refine LeO.bind ?_ (fun _ => ?_))
   | exact ih0 _
   | exact ih1 _
   | exact ih2 _
   | exact LeO.none _
   | refine LeO.ite ?_ ?_
   | refine LeO.bind ?_ (fun _ => ?_)
theorem regcertref07_Term.mono : ∀ a0 a1 a2 a3 a4 a5 k, LeO (regcertref07_Term.f k a0 a1 a2 a3 a4 a5) (regcertref07_Term.f (k + 1) a0 a1 a2 a3 a4 a5) := by
 intro a0 a1 a2 a3 a4 a5 k
 obtain ⟨ih0, ih1, ih2⟩ := regcertref07_Term.mono_l k
 unfold regcertref07_Term.f
 repeat' first
   | (with_reducible exact ih0 _)
   | (with_reducible exact ih1 _)
   | (with_reducible exact ih2 _)
   | (with_reducible exact LeO.refl _)
   | (with_reducible exact LeO.none _)
   | (with_reducible refine LeO.ite ?_ ?_)
   | (with_reducible refine LeO.bind ?_ (fun _ => ?_))
   | exact ih0 _
   | exact ih1 _
   | exact ih2 _
   | exact LeO.none _
   | refine LeO.ite ?_ ?_
   | refine LeO.bind ?_ (fun _ => ?_)
set_option maxHeartbeats 8000000 in
set_option maxRecDepth 100000 in
theorem regcertref07_Term.calls (k : Nat) (a0_0 : Int) (a0_1 : Int) (a0_2 : Int) (a0_3 : Int) (a1 : Int) (a2 : Int) (r : Int) (w : World) (h : regcertref07_Term.f k a0_0 a0_1 a0_2 a0_3 a1 a2 = some r) :
  Calls Try.prog 66 #[.agg #[.int .i64 a0_0, .int .i64 a0_1, .int .i64 a0_2, .int .i64 a0_3], .int .i64 a1, .int .i64 a2] w fun e w' => e = .returned (.int .i64 r) ∧ Below w.heap.size w w' := by
 have hu48 := Try.underlying48
 have HB := As0 (Below.refl w.heap.size w)
 have H : (if a0_0 = 1 then ((regcertref07_in.f a0_2 a2).bind fun t209 => (if t209 = true then (if a0_1 = 0 then (regcertref07_Term.j0 k (a0_3 != 0)) else (regcertref07_Term.j0 k true)) else (some 11))) else (if a0_0 = 2 then ((regcertref07_in.f a0_1 a1).bind fun t210 => (if t210 = true then ((regcertref07_in.f a0_2 a2).bind fun t211 => (if t211 = true then ((regcertref07_in.f a0_3 a2).bind fun t212 => (regcertref07_Term.j1 k (!t212))) else (regcertref07_Term.j1 k true))) else (some 9))) else (if a0_0 = 3 then ((regcertref07_in.f a0_1 a1).bind fun t213 => (if t213 = true then (if a0_2 = 0 then (regcertref07_Term.j2 k (a0_3 != 0)) else (regcertref07_Term.j2 k true)) else (some 9))) else (some 16)))) = some r := h
 clear h
 by_cases c4 : a0_0 = 1
 ·rw [if_pos c4] at H
  have c4b0 : (a0_0 == 1) = true := beq_iff_eq.mpr c4
  have c4b1 : (a0_0 != 1) = false := bne_eq_false_iff_eq.mpr c4
  clear c4
  replace H := Option.bind_eq_some_iff.mp H
  obtain ⟨t209, A50, H⟩ := H
  replace H : (if t209 = true then (if a0_1 = 0 then (regcertref07_Term.j0 k (a0_3 != 0)) else (regcertref07_Term.j0 k true)) else (some 11)) = some r := H
  have A5 := As0 A50
  clear A50
  by_cases c6 : t209 = true
  ·subst c6
   have H1 : (if a0_1 = 0 then (regcertref07_Term.j0 k (a0_3 != 0)) else (regcertref07_Term.j0 k true)) = some r := by rw [if_pos rfl] at H; exact H
   clear H
   have H := H1
   clear H1
   have HC7 := As0 H
   clear H
   go_enter Try.func66, Try.ntmps66
   go_upto_region 5 with (first | ((with_reducible refine gate_dst (N := 3) rfl ?_); refine box_event ?hg (N := 3) ?hd (cs := #[.int .i64 a0_0, .int .i64 a0_1, .int .i64 a0_2, .int .i64 a0_3]) (t := 48) ?hr ?_; (case hd => rfl); (case hg => rfl); (case hr => first | (go_simp; done) | (go_simp; rfl)); intro gb208 hg w8 hbox hb; have n0_ := As0 (below_step (by repeat (first | (with_reducible first | exact HB.out | apply below_alloc | apply bdN | apply bd1) | exact HB.out)) hb); have n1_ := As0 (hbox); have n2_ := As0 ((by rw [hg]; exact (below_size (by repeat (first | (with_reducible first | exact HB.out | apply below_alloc | apply bdN | apply bd1) | exact HB.out))) : w.heap.size ≤ gb208)); have n3_ := As0 ((by rw [hg]; exact (below_size (by repeat (first | (with_reducible first | exact HB.out | apply below_alloc | apply bdN | apply bd1) | exact HB.out))) : w.heap.size ≤ gb208)); clear HB; have HB := n0_; have BK208 := n1_; have GW208 := n2_; have GE208 := n3_; clear n0_ n1_ n2_ n3_; clear hb hbox hg; have hcz9_0 : w8.cell? ⟨gb208, 0, none⟩ = some (.int .i64 a0_0) := (blk_cell BK208.out 0).trans rfl; have hcz9_1 : w8.cell? ⟨gb208, 1, none⟩ = some (.int .i64 a0_1) := (blk_cell BK208.out 1).trans rfl; have hcz9_2 : w8.cell? ⟨gb208, 2, none⟩ = some (.int .i64 a0_2) := (blk_cell BK208.out 2).trans rfl; have hcz9_3 : w8.cell? ⟨gb208, 3, none⟩ = some (.int .i64 a0_3) := (blk_cell BK208.out 3).trans rfl; have hfz9_0 := blk_frozen BK208.out 0; have hfz9_1 := blk_frozen BK208.out 1; have hfz9_2 := blk_frozen BK208.out 2; have hfz9_3 := blk_frozen BK208.out 3) | ((with_reducible refine gate_callee (f := 91) rfl ?_); refine goesL_ (some 14) rfl rfl Try.func91 (by kernel_rfl) rfl #[.int .i64 a0_2, .int .i64 a2] rfl (by (try simp only [List.map_toArray, List.map_cons, List.map_nil]); first | done | rfl | (simp only [List.length_drop, List.length_take]; rfl)) ?_; (with_reducible refine (regcertref07_in.calls a0_2 a2 true _ A5.out).mono ?_); rintro e w' ⟨rfl, ⟨nd, rfl⟩⟩; refine ⟨_, rfl, ?_⟩))
   (try simp only [Act.put, sL1, sL2, sL3])
   go_cut [23] (fun v23 wc => ∃ (kq : Nat) (x23_6 : Bool), v23 = .bool x23_6 ∧ Aside0 (regcertref07_Term.j0 kq x23_6 = some r) ∧ Aside0 (kq ≤ k) ∧ Aside0 (wc.heap[gb208]? = some (.cells #[.int .i64 a0_0, .int .i64 a0_1, .int .i64 a0_2, .int .i64 a0_3] 48 (0, 0))) ∧ Aside0 (Below w.heap.size w wc))
   case first =>
    have H := HC7.out
    clear HC7
    by_cases c10 : a0_1 = 0
    ·rw [if_pos c10] at H
     have c10b0 : (a0_1 == 0) = true := beq_iff_eq.mpr c10
     have c10b1 : (a0_1 != 0) = false := bne_eq_false_iff_eq.mpr c10
     clear c10
     (first | rw [c10b0] | (simp only [i64_w, i32_w]; rw [c10b0]) | skip)
     have H' := As0 H
     clear H
     have hcz11_0 : w8.cell? ⟨gb208, 0, none⟩ = some (.int .i64 a0_0) := (blk_cell BK208.out 0).trans rfl
     have hcz11_1 : w8.cell? ⟨gb208, 1, none⟩ = some (.int .i64 a0_1) := (blk_cell BK208.out 1).trans rfl
     have hcz11_2 : w8.cell? ⟨gb208, 2, none⟩ = some (.int .i64 a0_2) := (blk_cell BK208.out 2).trans rfl
     have hcz11_3 : w8.cell? ⟨gb208, 3, none⟩ = some (.int .i64 a0_3) := (blk_cell BK208.out 3).trans rfl
     have hfz11_0 := blk_frozen BK208.out 0
     have hfz11_1 := blk_frozen BK208.out 1
     have hfz11_2 := blk_frozen BK208.out 2
     have hfz11_3 := blk_frozen BK208.out 3
     go_wp2
     go_meet
     case rel => exact ⟨_, ((a0_3 != 0)), (by first | rfl | (simp; done) | (simp [*]; done)), H', ⟨by first | omega | exact Nat.le_refl _⟩, ⟨by (with_reducible repeat (first | refine blk_drewN ?_ _ | refine blk_drew ?_ | refine blk_alloc ?_ _)); exact BK208.out⟩, ⟨by repeat (first | (with_reducible first | exact HB.out | apply below_alloc | apply bdN | apply bd1 | refine below_set ?_ GE208.out) | exact HB.out)⟩⟩
    ·rw [if_neg c10] at H
     have c10b0 : (a0_1 == 0) = false := beq_eq_false_iff_ne.mpr c10
     have c10b1 : (a0_1 != 0) = true := bne_iff_ne.mpr c10
     (first | rw [c10b0] | (simp only [i64_w, i32_w]; rw [c10b0]) | skip)
     have H' := As0 H
     clear H
     have hcz12_0 : w8.cell? ⟨gb208, 0, none⟩ = some (.int .i64 a0_0) := (blk_cell BK208.out 0).trans rfl
     have hcz12_1 : w8.cell? ⟨gb208, 1, none⟩ = some (.int .i64 a0_1) := (blk_cell BK208.out 1).trans rfl
     have hcz12_2 : w8.cell? ⟨gb208, 2, none⟩ = some (.int .i64 a0_2) := (blk_cell BK208.out 2).trans rfl
     have hcz12_3 : w8.cell? ⟨gb208, 3, none⟩ = some (.int .i64 a0_3) := (blk_cell BK208.out 3).trans rfl
     have hfz12_0 := blk_frozen BK208.out 0
     have hfz12_1 := blk_frozen BK208.out 1
     have hfz12_2 := blk_frozen BK208.out 2
     have hfz12_3 := blk_frozen BK208.out 3
     go_wp2
     go_meet
     case rel => exact ⟨_, (true), (by first | rfl | (simp; done) | (simp [*]; done)), H', ⟨by first | omega | exact Nat.le_refl _⟩, ⟨by (with_reducible repeat (first | refine blk_drewN ?_ _ | refine blk_drew ?_ | refine blk_alloc ?_ _)); exact BK208.out⟩, ⟨by repeat (first | (with_reducible first | exact HB.out | apply below_alloc | apply bdN | apply bd1 | refine below_set ?_ GE208.out) | exact HB.out)⟩⟩
   case rest =>
    clear HC7
    try clear c1
    try clear p2
    try clear c4
    try clear c4b0
    try clear c4b1
    try clear c6
    try clear c9
    try clear c10
    try clear c10b0
    try clear c10b1
    try clear hcz11_0
    try clear hcz11_1
    try clear hcz11_2
    try clear hcz11_3
    try clear hcz12_0
    try clear hcz12_1
    try clear hcz12_2
    try clear hcz12_3
    try clear hcz9_0
    try clear hcz9_1
    try clear hcz9_2
    try clear hcz9_3
    try clear hfz11_0
    try clear hfz11_1
    try clear hfz11_2
    try clear hfz11_3
    try clear hfz12_0
    try clear hfz12_1
    try clear hfz12_2
    try clear hfz12_3
    try clear hfz9_0
    try clear hfz9_1
    try clear hfz9_2
    try clear hfz9_3
    obtain ⟨kq, x23_6, rfl, HA, HJ6, BK208, HB⟩ := hcut
    cases kq with
    | zero => exact absurd HA.out (by simp [regcertref07_Term.j0])
    | succ kj6 =>
     have H := HA.out
     clear HA
     simp only [regcertref07_Term.j0] at H
     by_cases c13 : x23_6 = true
     ·subst c13
      have H1 : (some 12) = some r := by rw [if_pos rfl] at H; exact H
      clear H
      have H := H1
      clear H1
      obtain rfl := Option.some.inj H
      go_wp2
      go_ret
      exact ⟨by first | rfl | (simp [errW_none, errW_some] <;> rfl) | (simp [*, errW_none, errW_some] <;> rfl), by repeat (first | (with_reducible first | exact HB.out | apply below_alloc | apply bdN | apply bd1 | refine below_set ?_ GE208.out) | exact HB.out)⟩
     ·replace c13 := Bool.eq_false_iff.mpr c13
      subst c13
      have H1 : (some 0) = some r := by rw [if_neg (show ¬ (false = true) by decide)] at H; exact H
      clear H
      have H := H1
      clear H1
      obtain rfl := Option.some.inj H
      go_wp2
      go_ret
      exact ⟨by first | rfl | (simp [errW_none, errW_some] <;> rfl) | (simp [*, errW_none, errW_some] <;> rfl), by repeat (first | (with_reducible first | exact HB.out | apply below_alloc | apply bdN | apply bd1 | refine below_set ?_ GE208.out) | exact HB.out)⟩
  ·replace c6 := Bool.eq_false_iff.mpr c6
   subst c6
   have H1 : (some 11) = some r := by rw [if_neg (show ¬ (false = true) by decide)] at H; exact H
   clear H
   have H := H1
   clear H1
   obtain rfl := Option.some.inj H
   go_enter Try.func66, Try.ntmps66
   go_wp2_with (first | ((with_reducible refine gate_dst (N := 3) rfl ?_); refine box_event ?hg (N := 3) ?hd (cs := #[.int .i64 a0_0, .int .i64 a0_1, .int .i64 a0_2, .int .i64 a0_3]) (t := 48) ?hr ?_; (case hd => rfl); (case hg => rfl); (case hr => first | (go_simp; done) | (go_simp; rfl)); intro gb208 hg w14 hbox hb; have n0_ := As0 (below_step (by repeat (first | (with_reducible first | exact HB.out | apply below_alloc | apply bdN | apply bd1) | exact HB.out)) hb); have n1_ := As0 (hbox); have n2_ := As0 ((by rw [hg]; exact (below_size (by repeat (first | (with_reducible first | exact HB.out | apply below_alloc | apply bdN | apply bd1) | exact HB.out))) : w.heap.size ≤ gb208)); have n3_ := As0 ((by rw [hg]; exact (below_size (by repeat (first | (with_reducible first | exact HB.out | apply below_alloc | apply bdN | apply bd1) | exact HB.out))) : w.heap.size ≤ gb208)); clear HB; have HB := n0_; have BK208 := n1_; have GW208 := n2_; have GE208 := n3_; clear n0_ n1_ n2_ n3_; clear hb hbox hg; have hcz15_0 : w14.cell? ⟨gb208, 0, none⟩ = some (.int .i64 a0_0) := (blk_cell BK208.out 0).trans rfl; have hcz15_1 : w14.cell? ⟨gb208, 1, none⟩ = some (.int .i64 a0_1) := (blk_cell BK208.out 1).trans rfl; have hcz15_2 : w14.cell? ⟨gb208, 2, none⟩ = some (.int .i64 a0_2) := (blk_cell BK208.out 2).trans rfl; have hcz15_3 : w14.cell? ⟨gb208, 3, none⟩ = some (.int .i64 a0_3) := (blk_cell BK208.out 3).trans rfl; have hfz15_0 := blk_frozen BK208.out 0; have hfz15_1 := blk_frozen BK208.out 1; have hfz15_2 := blk_frozen BK208.out 2; have hfz15_3 := blk_frozen BK208.out 3) | ((with_reducible refine gate_callee (f := 91) rfl ?_); refine goesL_ (some 14) rfl rfl Try.func91 (by kernel_rfl) rfl #[.int .i64 a0_2, .int .i64 a2] rfl (by (try simp only [List.map_toArray, List.map_cons, List.map_nil]); first | done | rfl | (simp only [List.length_drop, List.length_take]; rfl)) ?_; (with_reducible refine (regcertref07_in.calls a0_2 a2 false _ A5.out).mono ?_); rintro e w' ⟨rfl, ⟨nd, rfl⟩⟩; refine ⟨_, rfl, ?_⟩))
   go_ret
   exact ⟨by first | rfl | (simp [errW_none, errW_some] <;> rfl) | (simp [*, errW_none, errW_some] <;> rfl), by repeat (first | (with_reducible first | exact HB.out | apply below_alloc | apply bdN | apply bd1 | refine below_set ?_ GE208.out) | exact HB.out)⟩
 ·rw [if_neg c4] at H
  have c4b0 : (a0_0 == 1) = false := beq_eq_false_iff_ne.mpr c4
  have c4b1 : (a0_0 != 1) = true := bne_iff_ne.mpr c4
  by_cases c16 : a0_0 = 2
  ·rw [if_pos c16] at H
   have c16b0 : (a0_0 == 2) = true := beq_iff_eq.mpr c16
   have c16b1 : (a0_0 != 2) = false := bne_eq_false_iff_eq.mpr c16
   clear c16
   replace H := Option.bind_eq_some_iff.mp H
   obtain ⟨t210, A170, H⟩ := H
   replace H : (if t210 = true then ((regcertref07_in.f a0_2 a2).bind fun t211 => (if t211 = true then ((regcertref07_in.f a0_3 a2).bind fun t212 => (regcertref07_Term.j1 k (!t212))) else (regcertref07_Term.j1 k true))) else (some 9)) = some r := H
   have A17 := As0 A170
   clear A170
   by_cases c18 : t210 = true
   ·subst c18
    have H1 : ((regcertref07_in.f a0_2 a2).bind fun t211 => (if t211 = true then ((regcertref07_in.f a0_3 a2).bind fun t212 => (regcertref07_Term.j1 k (!t212))) else (regcertref07_Term.j1 k true))) = some r := by rw [if_pos rfl] at H; exact H
    clear H
    have H := H1
    clear H1
    have HC19 := As0 H
    clear H
    go_enter Try.func66, Try.ntmps66
    go_upto_region 11 with (first | ((with_reducible refine gate_dst (N := 3) rfl ?_); refine box_event ?hg (N := 3) ?hd (cs := #[.int .i64 a0_0, .int .i64 a0_1, .int .i64 a0_2, .int .i64 a0_3]) (t := 48) ?hr ?_; (case hd => rfl); (case hg => rfl); (case hr => first | (go_simp; done) | (go_simp; rfl)); intro gb208 hg w20 hbox hb; have n0_ := As0 (below_step (by repeat (first | (with_reducible first | exact HB.out | apply below_alloc | apply bdN | apply bd1) | exact HB.out)) hb); have n1_ := As0 (hbox); have n2_ := As0 ((by rw [hg]; exact (below_size (by repeat (first | (with_reducible first | exact HB.out | apply below_alloc | apply bdN | apply bd1) | exact HB.out))) : w.heap.size ≤ gb208)); have n3_ := As0 ((by rw [hg]; exact (below_size (by repeat (first | (with_reducible first | exact HB.out | apply below_alloc | apply bdN | apply bd1) | exact HB.out))) : w.heap.size ≤ gb208)); clear HB; have HB := n0_; have BK208 := n1_; have GW208 := n2_; have GE208 := n3_; clear n0_ n1_ n2_ n3_; clear hb hbox hg; have hcz21_0 : w20.cell? ⟨gb208, 0, none⟩ = some (.int .i64 a0_0) := (blk_cell BK208.out 0).trans rfl; have hcz21_1 : w20.cell? ⟨gb208, 1, none⟩ = some (.int .i64 a0_1) := (blk_cell BK208.out 1).trans rfl; have hcz21_2 : w20.cell? ⟨gb208, 2, none⟩ = some (.int .i64 a0_2) := (blk_cell BK208.out 2).trans rfl; have hcz21_3 : w20.cell? ⟨gb208, 3, none⟩ = some (.int .i64 a0_3) := (blk_cell BK208.out 3).trans rfl; have hfz21_0 := blk_frozen BK208.out 0; have hfz21_1 := blk_frozen BK208.out 1; have hfz21_2 := blk_frozen BK208.out 2; have hfz21_3 := blk_frozen BK208.out 3) | ((with_reducible refine gate_callee (f := 91) rfl ?_); refine goesL_ (some 29) rfl rfl Try.func91 (by kernel_rfl) rfl #[.int .i64 a0_1, .int .i64 a1] rfl (by (try simp only [List.map_toArray, List.map_cons, List.map_nil]); first | done | rfl | (simp only [List.length_drop, List.length_take]; rfl)) ?_; (with_reducible refine (regcertref07_in.calls a0_1 a1 true _ A17.out).mono ?_); rintro e w' ⟨rfl, ⟨nd, rfl⟩⟩; refine ⟨_, rfl, ?_⟩))
    (try simp only [Act.put, sL1, sL2, sL3])
    go_cut [42] (fun v42 wc => ∃ (kq : Nat) (x42_18 : Bool), v42 = .bool x42_18 ∧ Aside0 (regcertref07_Term.j1 kq x42_18 = some r) ∧ Aside0 (kq ≤ k) ∧ Aside0 (wc.heap[gb208]? = some (.cells #[.int .i64 a0_0, .int .i64 a0_1, .int .i64 a0_2, .int .i64 a0_3] 48 (0, 0))) ∧ Aside0 (Below w.heap.size w wc))
    case first =>
     have H := HC19.out
     clear HC19
     replace H := Option.bind_eq_some_iff.mp H
     obtain ⟨t211, A220, H⟩ := H
     replace H : (if t211 = true then ((regcertref07_in.f a0_3 a2).bind fun t212 => (regcertref07_Term.j1 k (!t212))) else (regcertref07_Term.j1 k true)) = some r := H
     have A22 := As0 A220
     clear A220
     by_cases c23 : t211 = true
     ·subst c23
      have H1 : ((regcertref07_in.f a0_3 a2).bind fun t212 => (regcertref07_Term.j1 k (!t212))) = some r := by rw [if_pos rfl] at H; exact H
      clear H
      have H := H1
      clear H1
      replace H := Option.bind_eq_some_iff.mp H
      obtain ⟨t212, A240, H⟩ := H
      replace H : (regcertref07_Term.j1 k (!t212)) = some r := H
      have A24 := As0 A240
      clear A240
      have H' := As0 H
      clear H
      have hcz25_0 : w20.cell? ⟨gb208, 0, none⟩ = some (.int .i64 a0_0) := (blk_cell BK208.out 0).trans rfl
      have hcz25_1 : w20.cell? ⟨gb208, 1, none⟩ = some (.int .i64 a0_1) := (blk_cell BK208.out 1).trans rfl
      have hcz25_2 : w20.cell? ⟨gb208, 2, none⟩ = some (.int .i64 a0_2) := (blk_cell BK208.out 2).trans rfl
      have hcz25_3 : w20.cell? ⟨gb208, 3, none⟩ = some (.int .i64 a0_3) := (blk_cell BK208.out 3).trans rfl
      have hfz25_0 := blk_frozen BK208.out 0
      have hfz25_1 := blk_frozen BK208.out 1
      have hfz25_2 := blk_frozen BK208.out 2
      have hfz25_3 := blk_frozen BK208.out 3
      go_wp2_with (first | ((with_reducible refine gate_callee (f := 91) rfl ?_); refine goesL_ (some 34) rfl rfl Try.func91 (by kernel_rfl) rfl #[.int .i64 a0_2, .int .i64 a2] rfl (by (try simp only [List.map_toArray, List.map_cons, List.map_nil]); first | done | rfl | (simp only [List.length_drop, List.length_take]; rfl)) ?_; (with_reducible refine (regcertref07_in.calls a0_2 a2 true _ A22.out).mono ?_); rintro e w' ⟨rfl, ⟨nd, rfl⟩⟩; refine ⟨_, rfl, ?_⟩) | (go_at_call 91; (with_reducible refine (regcertref07_in.calls a0_3 a2 t212 _ A24.out).mono ?_); rintro e w' ⟨rfl, ⟨nd, rfl⟩⟩))
      go_meet
      case rel => exact ⟨_, (!t212), (by first | rfl | (simp; done) | (simp [*]; done)), H', ⟨by first | omega | exact Nat.le_refl _⟩, ⟨by (with_reducible repeat (first | refine blk_drewN ?_ _ | refine blk_drew ?_ | refine blk_alloc ?_ _)); exact BK208.out⟩, ⟨by repeat (first | (with_reducible first | exact HB.out | apply below_alloc | apply bdN | apply bd1 | refine below_set ?_ GE208.out) | exact HB.out)⟩⟩
     ·replace c23 := Bool.eq_false_iff.mpr c23
      subst c23
      have H1 : (regcertref07_Term.j1 k true) = some r := by rw [if_neg (show ¬ (false = true) by decide)] at H; exact H
      clear H
      have H := H1
      clear H1
      have H' := As0 H
      clear H
      have hcz26_0 : w20.cell? ⟨gb208, 0, none⟩ = some (.int .i64 a0_0) := (blk_cell BK208.out 0).trans rfl
      have hcz26_1 : w20.cell? ⟨gb208, 1, none⟩ = some (.int .i64 a0_1) := (blk_cell BK208.out 1).trans rfl
      have hcz26_2 : w20.cell? ⟨gb208, 2, none⟩ = some (.int .i64 a0_2) := (blk_cell BK208.out 2).trans rfl
      have hcz26_3 : w20.cell? ⟨gb208, 3, none⟩ = some (.int .i64 a0_3) := (blk_cell BK208.out 3).trans rfl
      have hfz26_0 := blk_frozen BK208.out 0
      have hfz26_1 := blk_frozen BK208.out 1
      have hfz26_2 := blk_frozen BK208.out 2
      have hfz26_3 := blk_frozen BK208.out 3
      go_wp2_with (first | ((with_reducible refine gate_callee (f := 91) rfl ?_); refine goesL_ (some 34) rfl rfl Try.func91 (by kernel_rfl) rfl #[.int .i64 a0_2, .int .i64 a2] rfl (by (try simp only [List.map_toArray, List.map_cons, List.map_nil]); first | done | rfl | (simp only [List.length_drop, List.length_take]; rfl)) ?_; (with_reducible refine (regcertref07_in.calls a0_2 a2 false _ A22.out).mono ?_); rintro e w' ⟨rfl, ⟨nd, rfl⟩⟩; refine ⟨_, rfl, ?_⟩))
      go_meet
      case rel => exact ⟨_, (true), (by first | rfl | (simp; done) | (simp [*]; done)), H', ⟨by first | omega | exact Nat.le_refl _⟩, ⟨by (with_reducible repeat (first | refine blk_drewN ?_ _ | refine blk_drew ?_ | refine blk_alloc ?_ _)); exact BK208.out⟩, ⟨by repeat (first | (with_reducible first | exact HB.out | apply below_alloc | apply bdN | apply bd1 | refine below_set ?_ GE208.out) | exact HB.out)⟩⟩
    case rest =>
     clear HC19
     try clear c1
     try clear c2
     try clear p2
     try clear c4
     try clear c4b0
     try clear c4b1
     try clear c6
     try clear c9
     try clear c10
     try clear c10b0
     try clear c10b1
     try clear c13
     try clear c16
     try clear c16b0
     try clear c16b1
     try clear c18
     try clear c23
     try clear hcz11_0
     try clear hcz11_1
     try clear hcz11_2
     try clear hcz11_3
     try clear hcz12_0
     try clear hcz12_1
     try clear hcz12_2
     try clear hcz12_3
     try clear hcz15_0
     try clear hcz15_1
     try clear hcz15_2
     try clear hcz15_3
     try clear hcz21_0
     try clear hcz21_1
     try clear hcz21_2
     try clear hcz21_3
     try clear hcz25_0
     try clear hcz25_1
     try clear hcz25_2
     try clear hcz25_3
     try clear hcz26_0
     try clear hcz26_1
     try clear hcz26_2
     try clear hcz26_3
     try clear hcz9_0
     try clear hcz9_1
     try clear hcz9_2
     try clear hcz9_3
     try clear hfz11_0
     try clear hfz11_1
     try clear hfz11_2
     try clear hfz11_3
     try clear hfz12_0
     try clear hfz12_1
     try clear hfz12_2
     try clear hfz12_3
     try clear hfz15_0
     try clear hfz15_1
     try clear hfz15_2
     try clear hfz15_3
     try clear hfz21_0
     try clear hfz21_1
     try clear hfz21_2
     try clear hfz21_3
     try clear hfz25_0
     try clear hfz25_1
     try clear hfz25_2
     try clear hfz25_3
     try clear hfz26_0
     try clear hfz26_1
     try clear hfz26_2
     try clear hfz26_3
     try clear hfz9_0
     try clear hfz9_1
     try clear hfz9_2
     try clear hfz9_3
     try clear p2
     obtain ⟨kq, x42_18, rfl, HA, HJ18, BK208, HB⟩ := hcut
     cases kq with
     | zero => exact absurd HA.out (by simp [regcertref07_Term.j1])
     | succ kj18 =>
      have H := HA.out
      clear HA
      simp only [regcertref07_Term.j1] at H
      by_cases c27 : x42_18 = true
      ·subst c27
       have H1 : (some 11) = some r := by rw [if_pos rfl] at H; exact H
       clear H
       have H := H1
       clear H1
       obtain rfl := Option.some.inj H
       go_wp2
       go_ret
       exact ⟨by first | rfl | (simp [errW_none, errW_some] <;> rfl) | (simp [*, errW_none, errW_some] <;> rfl), by repeat (first | (with_reducible first | exact HB.out | apply below_alloc | apply bdN | apply bd1 | refine below_set ?_ GE208.out) | exact HB.out)⟩
      ·replace c27 := Bool.eq_false_iff.mpr c27
       subst c27
       have H1 : (some 0) = some r := by rw [if_neg (show ¬ (false = true) by decide)] at H; exact H
       clear H
       have H := H1
       clear H1
       obtain rfl := Option.some.inj H
       go_wp2
       go_ret
       exact ⟨by first | rfl | (simp [errW_none, errW_some] <;> rfl) | (simp [*, errW_none, errW_some] <;> rfl), by repeat (first | (with_reducible first | exact HB.out | apply below_alloc | apply bdN | apply bd1 | refine below_set ?_ GE208.out) | exact HB.out)⟩
   ·replace c18 := Bool.eq_false_iff.mpr c18
    subst c18
    have H1 : (some 9) = some r := by rw [if_neg (show ¬ (false = true) by decide)] at H; exact H
    clear H
    have H := H1
    clear H1
    obtain rfl := Option.some.inj H
    go_enter Try.func66, Try.ntmps66
    go_wp2_with (first | ((with_reducible refine gate_dst (N := 3) rfl ?_); refine box_event ?hg (N := 3) ?hd (cs := #[.int .i64 a0_0, .int .i64 a0_1, .int .i64 a0_2, .int .i64 a0_3]) (t := 48) ?hr ?_; (case hd => rfl); (case hg => rfl); (case hr => first | (go_simp; done) | (go_simp; rfl)); intro gb208 hg w28 hbox hb; have n0_ := As0 (below_step (by repeat (first | (with_reducible first | exact HB.out | apply below_alloc | apply bdN | apply bd1) | exact HB.out)) hb); have n1_ := As0 (hbox); have n2_ := As0 ((by rw [hg]; exact (below_size (by repeat (first | (with_reducible first | exact HB.out | apply below_alloc | apply bdN | apply bd1) | exact HB.out))) : w.heap.size ≤ gb208)); have n3_ := As0 ((by rw [hg]; exact (below_size (by repeat (first | (with_reducible first | exact HB.out | apply below_alloc | apply bdN | apply bd1) | exact HB.out))) : w.heap.size ≤ gb208)); clear HB; have HB := n0_; have BK208 := n1_; have GW208 := n2_; have GE208 := n3_; clear n0_ n1_ n2_ n3_; clear hb hbox hg; have hcz29_0 : w28.cell? ⟨gb208, 0, none⟩ = some (.int .i64 a0_0) := (blk_cell BK208.out 0).trans rfl; have hcz29_1 : w28.cell? ⟨gb208, 1, none⟩ = some (.int .i64 a0_1) := (blk_cell BK208.out 1).trans rfl; have hcz29_2 : w28.cell? ⟨gb208, 2, none⟩ = some (.int .i64 a0_2) := (blk_cell BK208.out 2).trans rfl; have hcz29_3 : w28.cell? ⟨gb208, 3, none⟩ = some (.int .i64 a0_3) := (blk_cell BK208.out 3).trans rfl; have hfz29_0 := blk_frozen BK208.out 0; have hfz29_1 := blk_frozen BK208.out 1; have hfz29_2 := blk_frozen BK208.out 2; have hfz29_3 := blk_frozen BK208.out 3) | ((with_reducible refine gate_callee (f := 91) rfl ?_); refine goesL_ (some 29) rfl rfl Try.func91 (by kernel_rfl) rfl #[.int .i64 a0_1, .int .i64 a1] rfl (by (try simp only [List.map_toArray, List.map_cons, List.map_nil]); first | done | rfl | (simp only [List.length_drop, List.length_take]; rfl)) ?_; (with_reducible refine (regcertref07_in.calls a0_1 a1 false _ A17.out).mono ?_); rintro e w' ⟨rfl, ⟨nd, rfl⟩⟩; refine ⟨_, rfl, ?_⟩))
    go_ret
    exact ⟨by first | rfl | (simp [errW_none, errW_some] <;> rfl) | (simp [*, errW_none, errW_some] <;> rfl), by repeat (first | (with_reducible first | exact HB.out | apply below_alloc | apply bdN | apply bd1 | refine below_set ?_ GE208.out) | exact HB.out)⟩
  ·rw [if_neg c16] at H
   have c16b0 : (a0_0 == 2) = false := beq_eq_false_iff_ne.mpr c16
   have c16b1 : (a0_0 != 2) = true := bne_iff_ne.mpr c16
   by_cases c30 : a0_0 = 3
   ·rw [if_pos c30] at H
    have c30b0 : (a0_0 == 3) = true := beq_iff_eq.mpr c30
    have c30b1 : (a0_0 != 3) = false := bne_eq_false_iff_eq.mpr c30
    clear c30
    replace H := Option.bind_eq_some_iff.mp H
    obtain ⟨t213, A310, H⟩ := H
    replace H : (if t213 = true then (if a0_2 = 0 then (regcertref07_Term.j2 k (a0_3 != 0)) else (regcertref07_Term.j2 k true)) else (some 9)) = some r := H
    have A31 := As0 A310
    clear A310
    by_cases c32 : t213 = true
    ·subst c32
     have H1 : (if a0_2 = 0 then (regcertref07_Term.j2 k (a0_3 != 0)) else (regcertref07_Term.j2 k true)) = some r := by rw [if_pos rfl] at H; exact H
     clear H
     have H := H1
     clear H1
     have HC33 := As0 H
     clear H
     go_enter Try.func66, Try.ntmps66
     go_upto_region 17 with (first | ((with_reducible refine gate_dst (N := 3) rfl ?_); refine box_event ?hg (N := 3) ?hd (cs := #[.int .i64 a0_0, .int .i64 a0_1, .int .i64 a0_2, .int .i64 a0_3]) (t := 48) ?hr ?_; (case hd => rfl); (case hg => rfl); (case hr => first | (go_simp; done) | (go_simp; rfl)); intro gb208 hg w34 hbox hb; have n0_ := As0 (below_step (by repeat (first | (with_reducible first | exact HB.out | apply below_alloc | apply bdN | apply bd1) | exact HB.out)) hb); have n1_ := As0 (hbox); have n2_ := As0 ((by rw [hg]; exact (below_size (by repeat (first | (with_reducible first | exact HB.out | apply below_alloc | apply bdN | apply bd1) | exact HB.out))) : w.heap.size ≤ gb208)); have n3_ := As0 ((by rw [hg]; exact (below_size (by repeat (first | (with_reducible first | exact HB.out | apply below_alloc | apply bdN | apply bd1) | exact HB.out))) : w.heap.size ≤ gb208)); clear HB; have HB := n0_; have BK208 := n1_; have GW208 := n2_; have GE208 := n3_; clear n0_ n1_ n2_ n3_; clear hb hbox hg; have hcz35_0 : w34.cell? ⟨gb208, 0, none⟩ = some (.int .i64 a0_0) := (blk_cell BK208.out 0).trans rfl; have hcz35_1 : w34.cell? ⟨gb208, 1, none⟩ = some (.int .i64 a0_1) := (blk_cell BK208.out 1).trans rfl; have hcz35_2 : w34.cell? ⟨gb208, 2, none⟩ = some (.int .i64 a0_2) := (blk_cell BK208.out 2).trans rfl; have hcz35_3 : w34.cell? ⟨gb208, 3, none⟩ = some (.int .i64 a0_3) := (blk_cell BK208.out 3).trans rfl; have hfz35_0 := blk_frozen BK208.out 0; have hfz35_1 := blk_frozen BK208.out 1; have hfz35_2 := blk_frozen BK208.out 2; have hfz35_3 := blk_frozen BK208.out 3) | ((with_reducible refine gate_callee (f := 91) rfl ?_); refine goesL_ (some 48) rfl rfl Try.func91 (by kernel_rfl) rfl #[.int .i64 a0_1, .int .i64 a1] rfl (by (try simp only [List.map_toArray, List.map_cons, List.map_nil]); first | done | rfl | (simp only [List.length_drop, List.length_take]; rfl)) ?_; (with_reducible refine (regcertref07_in.calls a0_1 a1 true _ A31.out).mono ?_); rintro e w' ⟨rfl, ⟨nd, rfl⟩⟩; refine ⟨_, rfl, ?_⟩))
     (try simp only [Act.put, sL1, sL2, sL3])
     go_cut [57] (fun v57 wc => ∃ (kq : Nat) (x57_32 : Bool), v57 = .bool x57_32 ∧ Aside0 (regcertref07_Term.j2 kq x57_32 = some r) ∧ Aside0 (kq ≤ k) ∧ Aside0 (wc.heap[gb208]? = some (.cells #[.int .i64 a0_0, .int .i64 a0_1, .int .i64 a0_2, .int .i64 a0_3] 48 (0, 0))) ∧ Aside0 (Below w.heap.size w wc))
     case first =>
      have H := HC33.out
      clear HC33
      by_cases c36 : a0_2 = 0
      ·rw [if_pos c36] at H
       have c36b0 : (a0_2 == 0) = true := beq_iff_eq.mpr c36
       have c36b1 : (a0_2 != 0) = false := bne_eq_false_iff_eq.mpr c36
       clear c36
       (first | rw [c36b0] | (simp only [i64_w, i32_w]; rw [c36b0]) | skip)
       have H' := As0 H
       clear H
       have hcz37_0 : w34.cell? ⟨gb208, 0, none⟩ = some (.int .i64 a0_0) := (blk_cell BK208.out 0).trans rfl
       have hcz37_1 : w34.cell? ⟨gb208, 1, none⟩ = some (.int .i64 a0_1) := (blk_cell BK208.out 1).trans rfl
       have hcz37_2 : w34.cell? ⟨gb208, 2, none⟩ = some (.int .i64 a0_2) := (blk_cell BK208.out 2).trans rfl
       have hcz37_3 : w34.cell? ⟨gb208, 3, none⟩ = some (.int .i64 a0_3) := (blk_cell BK208.out 3).trans rfl
       have hfz37_0 := blk_frozen BK208.out 0
       have hfz37_1 := blk_frozen BK208.out 1
       have hfz37_2 := blk_frozen BK208.out 2
       have hfz37_3 := blk_frozen BK208.out 3
       go_wp2
       go_meet
       case rel => exact ⟨_, ((a0_3 != 0)), (by first | rfl | (simp; done) | (simp [*]; done)), H', ⟨by first | omega | exact Nat.le_refl _⟩, ⟨by (with_reducible repeat (first | refine blk_drewN ?_ _ | refine blk_drew ?_ | refine blk_alloc ?_ _)); exact BK208.out⟩, ⟨by repeat (first | (with_reducible first | exact HB.out | apply below_alloc | apply bdN | apply bd1 | refine below_set ?_ GE208.out) | exact HB.out)⟩⟩
      ·rw [if_neg c36] at H
       have c36b0 : (a0_2 == 0) = false := beq_eq_false_iff_ne.mpr c36
       have c36b1 : (a0_2 != 0) = true := bne_iff_ne.mpr c36
       (first | rw [c36b0] | (simp only [i64_w, i32_w]; rw [c36b0]) | skip)
       have H' := As0 H
       clear H
       have hcz38_0 : w34.cell? ⟨gb208, 0, none⟩ = some (.int .i64 a0_0) := (blk_cell BK208.out 0).trans rfl
       have hcz38_1 : w34.cell? ⟨gb208, 1, none⟩ = some (.int .i64 a0_1) := (blk_cell BK208.out 1).trans rfl
       have hcz38_2 : w34.cell? ⟨gb208, 2, none⟩ = some (.int .i64 a0_2) := (blk_cell BK208.out 2).trans rfl
       have hcz38_3 : w34.cell? ⟨gb208, 3, none⟩ = some (.int .i64 a0_3) := (blk_cell BK208.out 3).trans rfl
       have hfz38_0 := blk_frozen BK208.out 0
       have hfz38_1 := blk_frozen BK208.out 1
       have hfz38_2 := blk_frozen BK208.out 2
       have hfz38_3 := blk_frozen BK208.out 3
       go_wp2
       go_meet
       case rel => exact ⟨_, (true), (by first | rfl | (simp; done) | (simp [*]; done)), H', ⟨by first | omega | exact Nat.le_refl _⟩, ⟨by (with_reducible repeat (first | refine blk_drewN ?_ _ | refine blk_drew ?_ | refine blk_alloc ?_ _)); exact BK208.out⟩, ⟨by repeat (first | (with_reducible first | exact HB.out | apply below_alloc | apply bdN | apply bd1 | refine below_set ?_ GE208.out) | exact HB.out)⟩⟩
     case rest =>
      clear HC33
      try clear c1
      try clear c2
      try clear p2
      try clear c3
      try clear c4
      try clear c4b0
      try clear c4b1
      try clear c6
      try clear c9
      try clear c10
      try clear c10b0
      try clear c10b1
      try clear c13
      try clear c16
      try clear c16b0
      try clear c16b1
      try clear c18
      try clear c23
      try clear c27
      try clear c30
      try clear c30b0
      try clear c30b1
      try clear c32
      try clear c36
      try clear c36b0
      try clear c36b1
      try clear hcz11_0
      try clear hcz11_1
      try clear hcz11_2
      try clear hcz11_3
      try clear hcz12_0
      try clear hcz12_1
      try clear hcz12_2
      try clear hcz12_3
      try clear hcz15_0
      try clear hcz15_1
      try clear hcz15_2
      try clear hcz15_3
      try clear hcz21_0
      try clear hcz21_1
      try clear hcz21_2
      try clear hcz21_3
      try clear hcz25_0
      try clear hcz25_1
      try clear hcz25_2
      try clear hcz25_3
      try clear hcz26_0
      try clear hcz26_1
      try clear hcz26_2
      try clear hcz26_3
      try clear hcz29_0
      try clear hcz29_1
      try clear hcz29_2
      try clear hcz29_3
      try clear hcz35_0
      try clear hcz35_1
      try clear hcz35_2
      try clear hcz35_3
      try clear hcz37_0
      try clear hcz37_1
      try clear hcz37_2
      try clear hcz37_3
      try clear hcz38_0
      try clear hcz38_1
      try clear hcz38_2
      try clear hcz38_3
      try clear hcz9_0
      try clear hcz9_1
      try clear hcz9_2
      try clear hcz9_3
      try clear hfz11_0
      try clear hfz11_1
      try clear hfz11_2
      try clear hfz11_3
      try clear hfz12_0
      try clear hfz12_1
      try clear hfz12_2
      try clear hfz12_3
      try clear hfz15_0
      try clear hfz15_1
      try clear hfz15_2
      try clear hfz15_3
      try clear hfz21_0
      try clear hfz21_1
      try clear hfz21_2
      try clear hfz21_3
      try clear hfz25_0
      try clear hfz25_1
      try clear hfz25_2
      try clear hfz25_3
      try clear hfz26_0
      try clear hfz26_1
      try clear hfz26_2
      try clear hfz26_3
      try clear hfz29_0
      try clear hfz29_1
      try clear hfz29_2
      try clear hfz29_3
      try clear hfz35_0
      try clear hfz35_1
      try clear hfz35_2
      try clear hfz35_3
      try clear hfz37_0
      try clear hfz37_1
      try clear hfz37_2
      try clear hfz37_3
      try clear hfz38_0
      try clear hfz38_1
      try clear hfz38_2
      try clear hfz38_3
      try clear hfz9_0
      try clear hfz9_1
      try clear hfz9_2
      try clear hfz9_3
      try clear p2
      obtain ⟨kq, x57_32, rfl, HA, HJ32, BK208, HB⟩ := hcut
      cases kq with
      | zero => exact absurd HA.out (by simp [regcertref07_Term.j2])
      | succ kj32 =>
       have H := HA.out
       clear HA
       simp only [regcertref07_Term.j2] at H
       by_cases c39 : x57_32 = true
       ·subst c39
        have H1 : (some 12) = some r := by rw [if_pos rfl] at H; exact H
        clear H
        have H := H1
        clear H1
        obtain rfl := Option.some.inj H
        go_wp2
        go_ret
        exact ⟨by first | rfl | (simp [errW_none, errW_some] <;> rfl) | (simp [*, errW_none, errW_some] <;> rfl), by repeat (first | (with_reducible first | exact HB.out | apply below_alloc | apply bdN | apply bd1 | refine below_set ?_ GE208.out) | exact HB.out)⟩
       ·replace c39 := Bool.eq_false_iff.mpr c39
        subst c39
        have H1 : (some 0) = some r := by rw [if_neg (show ¬ (false = true) by decide)] at H; exact H
        clear H
        have H := H1
        clear H1
        obtain rfl := Option.some.inj H
        go_wp2
        go_ret
        exact ⟨by first | rfl | (simp [errW_none, errW_some] <;> rfl) | (simp [*, errW_none, errW_some] <;> rfl), by repeat (first | (with_reducible first | exact HB.out | apply below_alloc | apply bdN | apply bd1 | refine below_set ?_ GE208.out) | exact HB.out)⟩
    ·replace c32 := Bool.eq_false_iff.mpr c32
     subst c32
     have H1 : (some 9) = some r := by rw [if_neg (show ¬ (false = true) by decide)] at H; exact H
     clear H
     have H := H1
     clear H1
     obtain rfl := Option.some.inj H
     go_enter Try.func66, Try.ntmps66
     go_wp2_with (first | ((with_reducible refine gate_dst (N := 3) rfl ?_); refine box_event ?hg (N := 3) ?hd (cs := #[.int .i64 a0_0, .int .i64 a0_1, .int .i64 a0_2, .int .i64 a0_3]) (t := 48) ?hr ?_; (case hd => rfl); (case hg => rfl); (case hr => first | (go_simp; done) | (go_simp; rfl)); intro gb208 hg w40 hbox hb; have n0_ := As0 (below_step (by repeat (first | (with_reducible first | exact HB.out | apply below_alloc | apply bdN | apply bd1) | exact HB.out)) hb); have n1_ := As0 (hbox); have n2_ := As0 ((by rw [hg]; exact (below_size (by repeat (first | (with_reducible first | exact HB.out | apply below_alloc | apply bdN | apply bd1) | exact HB.out))) : w.heap.size ≤ gb208)); have n3_ := As0 ((by rw [hg]; exact (below_size (by repeat (first | (with_reducible first | exact HB.out | apply below_alloc | apply bdN | apply bd1) | exact HB.out))) : w.heap.size ≤ gb208)); clear HB; have HB := n0_; have BK208 := n1_; have GW208 := n2_; have GE208 := n3_; clear n0_ n1_ n2_ n3_; clear hb hbox hg; have hcz41_0 : w40.cell? ⟨gb208, 0, none⟩ = some (.int .i64 a0_0) := (blk_cell BK208.out 0).trans rfl; have hcz41_1 : w40.cell? ⟨gb208, 1, none⟩ = some (.int .i64 a0_1) := (blk_cell BK208.out 1).trans rfl; have hcz41_2 : w40.cell? ⟨gb208, 2, none⟩ = some (.int .i64 a0_2) := (blk_cell BK208.out 2).trans rfl; have hcz41_3 : w40.cell? ⟨gb208, 3, none⟩ = some (.int .i64 a0_3) := (blk_cell BK208.out 3).trans rfl; have hfz41_0 := blk_frozen BK208.out 0; have hfz41_1 := blk_frozen BK208.out 1; have hfz41_2 := blk_frozen BK208.out 2; have hfz41_3 := blk_frozen BK208.out 3) | ((with_reducible refine gate_callee (f := 91) rfl ?_); refine goesL_ (some 48) rfl rfl Try.func91 (by kernel_rfl) rfl #[.int .i64 a0_1, .int .i64 a1] rfl (by (try simp only [List.map_toArray, List.map_cons, List.map_nil]); first | done | rfl | (simp only [List.length_drop, List.length_take]; rfl)) ?_; (with_reducible refine (regcertref07_in.calls a0_1 a1 false _ A31.out).mono ?_); rintro e w' ⟨rfl, ⟨nd, rfl⟩⟩; refine ⟨_, rfl, ?_⟩))
     go_ret
     exact ⟨by first | rfl | (simp [errW_none, errW_some] <;> rfl) | (simp [*, errW_none, errW_some] <;> rfl), by repeat (first | (with_reducible first | exact HB.out | apply below_alloc | apply bdN | apply bd1 | refine below_set ?_ GE208.out) | exact HB.out)⟩
   ·rw [if_neg c30] at H
    have c30b0 : (a0_0 == 3) = false := beq_eq_false_iff_ne.mpr c30
    have c30b1 : (a0_0 != 3) = true := bne_iff_ne.mpr c30
    obtain rfl := Option.some.inj H
    go_enter Try.func66, Try.ntmps66
    go_wp2_with (first | ((with_reducible refine gate_dst (N := 3) rfl ?_); refine box_event ?hg (N := 3) ?hd (cs := #[.int .i64 a0_0, .int .i64 a0_1, .int .i64 a0_2, .int .i64 a0_3]) (t := 48) ?hr ?_; (case hd => rfl); (case hg => rfl); (case hr => first | (go_simp; done) | (go_simp; rfl)); intro gb208 hg w42 hbox hb; have n0_ := As0 (below_step (by repeat (first | (with_reducible first | exact HB.out | apply below_alloc | apply bdN | apply bd1) | exact HB.out)) hb); have n1_ := As0 (hbox); have n2_ := As0 ((by rw [hg]; exact (below_size (by repeat (first | (with_reducible first | exact HB.out | apply below_alloc | apply bdN | apply bd1) | exact HB.out))) : w.heap.size ≤ gb208)); have n3_ := As0 ((by rw [hg]; exact (below_size (by repeat (first | (with_reducible first | exact HB.out | apply below_alloc | apply bdN | apply bd1) | exact HB.out))) : w.heap.size ≤ gb208)); clear HB; have HB := n0_; have BK208 := n1_; have GW208 := n2_; have GE208 := n3_; clear n0_ n1_ n2_ n3_; clear hb hbox hg; have hcz43_0 : w42.cell? ⟨gb208, 0, none⟩ = some (.int .i64 a0_0) := (blk_cell BK208.out 0).trans rfl; have hcz43_1 : w42.cell? ⟨gb208, 1, none⟩ = some (.int .i64 a0_1) := (blk_cell BK208.out 1).trans rfl; have hcz43_2 : w42.cell? ⟨gb208, 2, none⟩ = some (.int .i64 a0_2) := (blk_cell BK208.out 2).trans rfl; have hcz43_3 : w42.cell? ⟨gb208, 3, none⟩ = some (.int .i64 a0_3) := (blk_cell BK208.out 3).trans rfl; have hfz43_0 := blk_frozen BK208.out 0; have hfz43_1 := blk_frozen BK208.out 1; have hfz43_2 := blk_frozen BK208.out 2; have hfz43_3 := blk_frozen BK208.out 3))
    go_ret
    exact ⟨by first | rfl | (simp [errW_none, errW_some] <;> rfl) | (simp [*, errW_none, errW_some] <;> rfl), by repeat (first | (with_reducible first | exact HB.out | apply below_alloc | apply bdN | apply bd1 | refine below_set ?_ GE208.out) | exact HB.out)⟩

/-! ### regcertref07_Check: function 36 -/
mutual
def regcertref07_Check.j0 : Nat → Bool → Int → Int → List (S50) → Option (Int)
 | 0, _, _, _, _ => none
 | k + 1, x17, x215000, x215001, x215002 => if x17 = true then (some 9) else (if x215001 > 1048576 then (some 6) else (if (x215002.length : Int) = 0 then (some 14) else (if (x215002.length : Int) > 1048576 then (regcertref07_Check.j1 k true x215000 x215001 x215002) else ((regcertref07_Code.f k x215000 x215001 x215002).bind fun t215 => (regcertref07_Check.j1 k (decide (t215 > 1048576)) x215000 x215001 x215002)))))
def regcertref07_Check.j1 : Nat → Bool → Int → Int → List (S50) → Option (Int)
 | 0, _, _, _, _ => none
 | k + 1, x33, x215000, x215001, x215002 => if x33 = true then (some 6) else (regcertref07_Check.l0 k 0 x215000 x215001 x215002)
def regcertref07_Check.l0 : Nat → Int → Int → Int → List (S50) → Option (Int)
 | 0, _, _, _, _ => none
 | k + 1, x3, x215000, x215001, x215002 => if x3 < (x215002.length : Int) then (if 0 ≤ x3 then (regcertref07_Check.l1 k x3 0 x215000 x215001 x215002 ((rd_T50 x215002 x3).f0) ((rd_T50 x215002 x3).f1.f0) ((rd_T50 x215002 x3).f1.f1) ((rd_T50 x215002 x3).f1.f2) ((rd_T50 x215002 x3).f1.f3)) else (none)) else (some 0)
def regcertref07_Check.l1 : Nat → Int → Int → Int → Int → List (S50) → List (S97) → Int → Int → Int → Int → Option (Int)
 | 0, _, _, _, _, _, _, _, _, _, _ => none
 | k + 1, x3, x5, x215000, x215001, x215002, x218000, x218001, x218002, x218003, x218004 => if x5 < (x218000.length : Int) then (if 0 ≤ x5 then ((regcertref07_Instr.f k ((rd_T97 x218000 x5).f0) ((rd_T97 x218000 x5).f1) ((rd_T97 x218000 x5).f2) ((rd_T97 x218000 x5).f3) ((rd_T97 x218000 x5).f4) x215001).bind fun t219 => (if t219 = 0 then (regcertref07_Check.l1 k x3 (wrap64 (x5 + 1)) x215000 x215001 x215002 x218000 x218001 x218002 x218003 x218004) else (some t219))) else (none)) else ((regcertref07_Term.f k x218001 x218002 x218003 x218004 x215001 (x215002.length : Int)).bind fun t220 => (if t220 = 0 then (regcertref07_Check.l0 k (wrap64 (x3 + 1)) x215000 x215001 x215002) else (some t220)))
end
def regcertref07_Check.f (k : Nat) (a0_0 : Int) (a0_1 : Int) (l0_2 : List (S50)) : Option (Int) := if a0_0 < 0 then (regcertref07_Check.j0 k true a0_0 a0_1 l0_2) else (regcertref07_Check.j0 k (decide (a0_0 > a0_1)) a0_0 a0_1 l0_2)
theorem regcertref07_Check.mono_l : ∀ k, (∀ y0 y1 y2 y3, LeO (regcertref07_Check.j0 k y0 y1 y2 y3) (regcertref07_Check.j0 (k + 1) y0 y1 y2 y3)) ∧ (∀ y0 y1 y2 y3, LeO (regcertref07_Check.j1 k y0 y1 y2 y3) (regcertref07_Check.j1 (k + 1) y0 y1 y2 y3)) ∧ (∀ y0 y1 y2 y3, LeO (regcertref07_Check.l0 k y0 y1 y2 y3) (regcertref07_Check.l0 (k + 1) y0 y1 y2 y3)) ∧ (∀ y0 y1 y2 y3 y4 y5 y6 y7 y8 y9, LeO (regcertref07_Check.l1 k y0 y1 y2 y3 y4 y5 y6 y7 y8 y9) (regcertref07_Check.l1 (k + 1) y0 y1 y2 y3 y4 y5 y6 y7 y8 y9))
 | 0 => ⟨fun _ _ _ _ r h => by simp [regcertref07_Check.j0] at h, fun _ _ _ _ r h => by simp [regcertref07_Check.j1] at h, fun _ _ _ _ r h => by simp [regcertref07_Check.l0] at h, fun _ _ _ _ _ _ _ _ _ _ r h => by simp [regcertref07_Check.l1] at h⟩
 | k + 1 => by
  obtain ⟨ih0, ih1, ih2, ih3⟩ := regcertref07_Check.mono_l k
  refine ⟨?_, ?_, ?_, ?_⟩
  ·intro y0 y1 y2 y3
   unfold regcertref07_Check.j0
   repeat' first
   | (with_reducible exact ih0 _ _ _ _)
   | (with_reducible exact ih1 _ _ _ _)
   | (with_reducible exact ih2 _ _ _ _)
   | (with_reducible exact ih3 _ _ _ _ _ _ _ _ _ _)
   | (with_reducible exact regcertref07_Code.mono _ _ _ _)
   | (with_reducible exact regcertref07_Instr.mono _ _ _ _ _ _ _)
   | (with_reducible exact regcertref07_Term.mono _ _ _ _ _ _ _)
   | (with_reducible exact LeO.refl _)
   | (with_reducible exact LeO.none _)
   | (with_reducible refine LeO.ite ?_ ?_)
   | (with_reducible refine LeO.bind ?_ (fun _ => ?_))
   | exact ih0 _ _ _ _
   | exact ih1 _ _ _ _
   | exact ih2 _ _ _ _
   | exact ih3 _ _ _ _ _ _ _ _ _ _
   | exact regcertref07_Code.mono _ _ _ _
   | exact regcertref07_Instr.mono _ _ _ _ _ _ _
   | exact regcertref07_Term.mono _ _ _ _ _ _ _
   | exact LeO.none _
   | refine LeO.ite ?_ ?_
   | refine LeO.bind ?_ (fun _ => ?_)
  ·intro y0 y1 y2 y3
   unfold regcertref07_Check.j1
   repeat' first
   | (with_reducible exact ih0 _ _ _ _)
   | (with_reducible exact ih1 _ _ _ _)
   | (with_reducible exact ih2 _ _ _ _)
   | (with_reducible exact ih3 _ _ _ _ _ _ _ _ _ _)
   | (with_reducible exact regcertref07_Code.mono _ _ _ _)
   | (with_reducible exact regcertref07_Instr.mono _ _ _ _ _ _ _)
   | (with_reducible exact regcertref07_Term.mono _ _ _ _ _ _ _)
   | (with_reducible exact LeO.refl _)
   | (with_reducible exact LeO.none _)
   | (with_reducible refine LeO.ite ?_ ?_)
   | (with_reducible refine LeO.bind ?_ (fun _ => ?_))
   | exact ih0 _ _ _ _
   | exact ih1 _ _ _ _
   | exact ih2 _ _ _ _
   | exact ih3 _ _ _ _ _ _ _ _ _ _
   | exact regcertref07_Code.mono _ _ _ _
   | exact regcertref07_Instr.mono _ _ _ _ _ _ _
   | exact regcertref07_Term.mono _ _ _ _ _ _ _
   | exact LeO.none _
   | refine LeO.ite ?_ ?_
   | refine LeO.bind ?_ (fun _ => ?_)
  ·intro y0 y1 y2 y3
   unfold regcertref07_Check.l0
   repeat' first
   | (with_reducible exact ih0 _ _ _ _)
   | (with_reducible exact ih1 _ _ _ _)
   | (with_reducible exact ih2 _ _ _ _)
   | (with_reducible exact ih3 _ _ _ _ _ _ _ _ _ _)
   | (with_reducible exact regcertref07_Code.mono _ _ _ _)
   | (with_reducible exact regcertref07_Instr.mono _ _ _ _ _ _ _)
   | (with_reducible exact regcertref07_Term.mono _ _ _ _ _ _ _)
   | (with_reducible exact LeO.refl _)
   | (with_reducible exact LeO.none _)
   | (with_reducible refine LeO.ite ?_ ?_)
   | (with_reducible refine LeO.bind ?_ (fun _ => ?_))
   | exact ih0 _ _ _ _
   | exact ih1 _ _ _ _
   | exact ih2 _ _ _ _
   | exact ih3 _ _ _ _ _ _ _ _ _ _
   | exact regcertref07_Code.mono _ _ _ _
   | exact regcertref07_Instr.mono _ _ _ _ _ _ _
   | exact regcertref07_Term.mono _ _ _ _ _ _ _
   | exact LeO.none _
   | refine LeO.ite ?_ ?_
   | refine LeO.bind ?_ (fun _ => ?_)
  ·intro y0 y1 y2 y3 y4 y5 y6 y7 y8 y9
   unfold regcertref07_Check.l1
   repeat' first
   | (with_reducible exact ih0 _ _ _ _)
   | (with_reducible exact ih1 _ _ _ _)
   | (with_reducible exact ih2 _ _ _ _)
   | (with_reducible exact ih3 _ _ _ _ _ _ _ _ _ _)
   | (with_reducible exact regcertref07_Code.mono _ _ _ _)
   | (with_reducible exact regcertref07_Instr.mono _ _ _ _ _ _ _)
   | (with_reducible exact regcertref07_Term.mono _ _ _ _ _ _ _)
   | (with_reducible exact LeO.refl _)
   | (with_reducible exact LeO.none _)
   | (with_reducible refine LeO.ite ?_ ?_)
   | (with_reducible refine LeO.bind ?_ (fun _ => ?_))
   | exact ih0 _ _ _ _
   | exact ih1 _ _ _ _
   | exact ih2 _ _ _ _
   | exact ih3 _ _ _ _ _ _ _ _ _ _
   | exact regcertref07_Code.mono _ _ _ _
   | exact regcertref07_Instr.mono _ _ _ _ _ _ _
   | exact regcertref07_Term.mono _ _ _ _ _ _ _
   | exact LeO.none _
   | refine LeO.ite ?_ ?_
   | refine LeO.bind ?_ (fun _ => ?_)
theorem regcertref07_Check.mono : ∀ a0 a1 a2 k, LeO (regcertref07_Check.f k a0 a1 a2) (regcertref07_Check.f (k + 1) a0 a1 a2) := by
 intro a0 a1 a2 k
 obtain ⟨ih0, ih1, ih2, ih3⟩ := regcertref07_Check.mono_l k
 unfold regcertref07_Check.f
 repeat' first
   | (with_reducible exact ih0 _ _ _ _)
   | (with_reducible exact ih1 _ _ _ _)
   | (with_reducible exact ih2 _ _ _ _)
   | (with_reducible exact ih3 _ _ _ _ _ _ _ _ _ _)
   | (with_reducible exact regcertref07_Code.mono _ _ _ _)
   | (with_reducible exact regcertref07_Instr.mono _ _ _ _ _ _ _)
   | (with_reducible exact regcertref07_Term.mono _ _ _ _ _ _ _)
   | (with_reducible exact LeO.refl _)
   | (with_reducible exact LeO.none _)
   | (with_reducible refine LeO.ite ?_ ?_)
   | (with_reducible refine LeO.bind ?_ (fun _ => ?_))
   | exact ih0 _ _ _ _
   | exact ih1 _ _ _ _
   | exact ih2 _ _ _ _
   | exact ih3 _ _ _ _ _ _ _ _ _ _
   | exact regcertref07_Code.mono _ _ _ _
   | exact regcertref07_Instr.mono _ _ _ _ _ _ _
   | exact regcertref07_Term.mono _ _ _ _ _ _ _
   | exact LeO.none _
   | refine LeO.ite ?_ ?_
   | refine LeO.bind ?_ (fun _ => ?_)
def regcertref07_Check.T16 : Bool × List (List Nat × List Nat) := (true, [([], []), ([0], [0]), ([], []), ([1, 2], [1, 2]), ([3], [3]), ([], []), ([5], [5]), ([4, 6], [4, 6]), ([7, 7, 0, 1, 2, 3, 4, 5, 6, 7], [7])])
def regcertref07_Check.B16 : List Nat := [0, 1, 0, 7, 15, 0, 32, 127, 255]
theorem regcertref07_Check.tab16 : rtab .any (opsOf Try.f36 16) = regcertref07_Check.T16 := by kernel_rfl
theorem regcertref07_Check.bits16 : waitsOk regcertref07_Check.T16.2 regcertref07_Check.B16 = true := by kernel_rfl
set_option maxHeartbeats 8000000 in
set_option maxRecDepth 100000 in
theorem regcertref07_Check.calls (k : Nat) (a0_0 : Int) (a0_1 : Int) (A0_2 : Option Addr) (c0_2 : Nat) (l0_2 : List (S50)) (r : Int) (w : World) (hr0_2 : Kd.C k50 w A0_2 l0_2.length l0_2) (hc0_2 : l0_2.length ≤ c0_2) (h : regcertref07_Check.f k a0_0 a0_1 l0_2 = some r) :
  Calls Try.prog 36 #[.agg #[.int .i64 a0_0, .int .i64 a0_1, .slice A0_2 l0_2.length c0_2]] w fun e w' => e = .returned (.int .i64 r) ∧ Below w.heap.size w w' := by
 have hu34 := Try.underlying34
 have hu50 := Try.underlying50
 have hu97 := Try.underlying97
 have hu48 := Try.underlying48
 have HR0_2 := As0 hr0_2
 have HC0_2 := As0 hc0_2
 clear hr0_2 hc0_2
 have HB := As0 (Below.refl w.heap.size w)
 have H : (if a0_0 < 0 then (regcertref07_Check.j0 k true a0_0 a0_1 l0_2) else (regcertref07_Check.j0 k (decide (a0_0 > a0_1)) a0_0 a0_1 l0_2)) = some r := h
 clear h
 have HC2 := As0 H
 clear H
 go_enter Try.func36, Try.ntmps36
 go_upto_region 1 with (first | ((with_reducible refine gate_dst (N := 1) rfl ?_); refine box_event ?hg (N := 1) ?hd (cs := #[.int .i64 a0_0, .int .i64 a0_1, .slice A0_2 l0_2.length c0_2]) (t := 34) ?hr ?_; (case hd => rfl); (case hg => rfl); (case hr => first | (go_simp; done) | (go_simp; rfl)); intro gb214 hg w3 hbox hb; have n0_ := As0 (below_step (by repeat (first | (with_reducible first | exact HB.out | apply below_alloc | apply bdN | apply bd1) | exact HB.out)) hb); have n1_ := As0 (hbox); have n2_ := As0 ((by rw [hg]; exact (below_size (by repeat (first | (with_reducible first | exact HB.out | apply below_alloc | apply bdN | apply bd1) | exact HB.out))) : w.heap.size ≤ gb214)); have n3_ := As0 ((by rw [hg]; exact (below_size (by repeat (first | (with_reducible first | exact HB.out | apply below_alloc | apply bdN | apply bd1) | exact HB.out))) : w.heap.size ≤ gb214)); clear HB; have HB := n0_; have BK214 := n1_; have GW214 := n2_; have GE214 := n3_; clear n0_ n1_ n2_ n3_; clear hb hbox hg))
 (try simp only [Act.put, sL1, sL2, sL3])
 go_cut [17] (fun v17 wc => ∃ (kq : Nat) (x17_1 : Bool), v17 = .bool x17_1 ∧ Aside0 (regcertref07_Check.j0 kq x17_1 a0_0 a0_1 l0_2 = some r) ∧ Aside0 (kq ≤ k) ∧ Aside0 (wc.heap[gb214]? = some (.cells #[.int .i64 a0_0, .int .i64 a0_1, (.slice A0_2 l0_2.length c0_2)] 34 (0, 0))) ∧ Aside0 (Below w.heap.size w wc))
 case first =>
  have H := HC2.out
  clear HC2
  by_cases c4 : a0_0 < 0
  ·rw [if_pos c4] at H
   have c4b0 : decide (a0_0 < 0) = true := decide_eq_true c4
   clear c4
   (first | rw [c4b0] | (simp only [i64_w, i32_w]; rw [c4b0]) | skip)
   have H' := As0 H
   clear H
   have hcz5_0 : w3.cell? ⟨gb214, 0, none⟩ = some (.int .i64 a0_0) := (blk_cell BK214.out 0).trans rfl
   have hcz5_1 : w3.cell? ⟨gb214, 1, none⟩ = some (.int .i64 a0_1) := (blk_cell BK214.out 1).trans rfl
   have hcz5_2 : w3.cell? ⟨gb214, 2, none⟩ = some (.slice A0_2 l0_2.length c0_2) := (blk_cell BK214.out 2).trans rfl
   have hfz5_0 := blk_frozen BK214.out 0
   have hfz5_1 := blk_frozen BK214.out 1
   have hfz5_2 := blk_frozen BK214.out 2
   go_wp2
   go_meet
   case rel => exact ⟨_, (true), (by first | rfl | (simp; done) | (simp [*]; done)), H', ⟨by first | omega | exact Nat.le_refl _⟩, ⟨by (with_reducible repeat (first | refine blk_drewN ?_ _ | refine blk_drew ?_ | refine blk_alloc ?_ _)); exact BK214.out⟩, ⟨by repeat (first | (with_reducible first | exact HB.out | apply below_alloc | apply bdN | apply bd1 | refine below_set ?_ GE214.out) | exact HB.out)⟩⟩
  ·rw [if_neg c4] at H
   have c4b0 : decide (a0_0 < 0) = false := decide_eq_false c4
   clear c4
   (first | rw [c4b0] | (simp only [i64_w, i32_w]; rw [c4b0]) | skip)
   have H' := As0 H
   clear H
   have hcz6_0 : w3.cell? ⟨gb214, 0, none⟩ = some (.int .i64 a0_0) := (blk_cell BK214.out 0).trans rfl
   have hcz6_1 : w3.cell? ⟨gb214, 1, none⟩ = some (.int .i64 a0_1) := (blk_cell BK214.out 1).trans rfl
   have hcz6_2 : w3.cell? ⟨gb214, 2, none⟩ = some (.slice A0_2 l0_2.length c0_2) := (blk_cell BK214.out 2).trans rfl
   have hfz6_0 := blk_frozen BK214.out 0
   have hfz6_1 := blk_frozen BK214.out 1
   have hfz6_2 := blk_frozen BK214.out 2
   go_wp2
   go_meet
   case rel => exact ⟨_, (decide (a0_0 > a0_1)), (by first | rfl | (simp; done) | (simp [*]; done)), H', ⟨by first | omega | exact Nat.le_refl _⟩, ⟨by (with_reducible repeat (first | refine blk_drewN ?_ _ | refine blk_drew ?_ | refine blk_alloc ?_ _)); exact BK214.out⟩, ⟨by repeat (first | (with_reducible first | exact HB.out | apply below_alloc | apply bdN | apply bd1 | refine below_set ?_ GE214.out) | exact HB.out)⟩⟩
 case rest =>
  clear HC2
  try clear p2
  try clear c3
  try clear c4
  try clear c4b0
  try clear hcz5_0
  try clear hcz5_1
  try clear hcz5_2
  try clear hcz6_0
  try clear hcz6_1
  try clear hcz6_2
  try clear hfz5_0
  try clear hfz5_1
  try clear hfz5_2
  try clear hfz6_0
  try clear hfz6_1
  try clear hfz6_2
  obtain ⟨kq, x17_1, rfl, HA, HJ1, BK214, HB⟩ := hcut
  cases kq with
  | zero => exact absurd HA.out (by simp [regcertref07_Check.j0])
  | succ kj1 =>
   have H := HA.out
   clear HA
   simp only [regcertref07_Check.j0] at H
   by_cases c7 : x17_1 = true
   ·subst c7
    have H1 : (some 9) = some r := by rw [if_pos rfl] at H; exact H
    clear H
    have H := H1
    clear H1
    obtain rfl := Option.some.inj H
    go_wp2
    go_ret
    exact ⟨by first | rfl | (simp [errW_none, errW_some] <;> rfl) | (simp [*, errW_none, errW_some] <;> rfl), by repeat (first | (with_reducible first | exact HB.out | apply below_alloc | apply bdN | apply bd1 | refine below_set ?_ GE214.out) | exact HB.out)⟩
   ·replace c7 := Bool.eq_false_iff.mpr c7
    subst c7
    have H1 : (if a0_1 > 1048576 then (some 6) else (if (l0_2.length : Int) = 0 then (some 14) else (if (l0_2.length : Int) > 1048576 then (regcertref07_Check.j1 kj1 true a0_0 a0_1 l0_2) else ((regcertref07_Code.f kj1 a0_0 a0_1 l0_2).bind fun t215 => (regcertref07_Check.j1 kj1 (decide (t215 > 1048576)) a0_0 a0_1 l0_2))))) = some r := by rw [if_neg (show ¬ (false = true) by decide)] at H; exact H
    clear H
    have H := H1
    clear H1
    by_cases c8 : a0_1 > 1048576
    ·rw [if_pos c8] at H
     have c8b0 : decide (1048576 < a0_1) = true := decide_eq_true c8
     clear c8
     obtain rfl := Option.some.inj H
     have hcz9_0 : wc.cell? ⟨gb214, 0, none⟩ = some (.int .i64 a0_0) := (blk_cell BK214.out 0).trans rfl
     have hcz9_1 : wc.cell? ⟨gb214, 1, none⟩ = some (.int .i64 a0_1) := (blk_cell BK214.out 1).trans rfl
     have hcz9_2 : wc.cell? ⟨gb214, 2, none⟩ = some (.slice A0_2 l0_2.length c0_2) := (blk_cell BK214.out 2).trans rfl
     have hfz9_0 := blk_frozen BK214.out 0
     have hfz9_1 := blk_frozen BK214.out 1
     have hfz9_2 := blk_frozen BK214.out 2
     go_wp2
     go_ret
     exact ⟨by first | rfl | (simp [errW_none, errW_some] <;> rfl) | (simp [*, errW_none, errW_some] <;> rfl), by repeat (first | (with_reducible first | exact HB.out | apply below_alloc | apply bdN | apply bd1 | refine below_set ?_ GE214.out) | exact HB.out)⟩
    ·rw [if_neg c8] at H
     have c8b0 : decide (1048576 < a0_1) = false := decide_eq_false c8
     clear c8
     by_cases c10 : (l0_2.length : Int) = 0
     ·rw [if_pos c10] at H
      have c10b0 : ((l0_2.length : Int) == 0) = true := beq_iff_eq.mpr c10
      have c10b1 : ((l0_2.length : Int) != 0) = false := bne_eq_false_iff_eq.mpr c10
      clear c10
      obtain rfl := Option.some.inj H
      have hcz11_0 : wc.cell? ⟨gb214, 0, none⟩ = some (.int .i64 a0_0) := (blk_cell BK214.out 0).trans rfl
      have hcz11_1 : wc.cell? ⟨gb214, 1, none⟩ = some (.int .i64 a0_1) := (blk_cell BK214.out 1).trans rfl
      have hcz11_2 : wc.cell? ⟨gb214, 2, none⟩ = some (.slice A0_2 l0_2.length c0_2) := (blk_cell BK214.out 2).trans rfl
      have hfz11_0 := blk_frozen BK214.out 0
      have hfz11_1 := blk_frozen BK214.out 1
      have hfz11_2 := blk_frozen BK214.out 2
      go_wp2
      go_ret
      exact ⟨by first | rfl | (simp [errW_none, errW_some] <;> rfl) | (simp [*, errW_none, errW_some] <;> rfl), by repeat (first | (with_reducible first | exact HB.out | apply below_alloc | apply bdN | apply bd1 | refine below_set ?_ GE214.out) | exact HB.out)⟩
     ·rw [if_neg c10] at H
      have c10b0 : ((l0_2.length : Int) == 0) = false := beq_eq_false_iff_ne.mpr c10
      have c10b1 : ((l0_2.length : Int) != 0) = true := bne_iff_ne.mpr c10
      have c10b2 : ¬ (l0_2 = []) := fun h_ => c10 (by rw [h_]; rfl)
      have HC12 := As0 H
      clear H
      have hcz13_0 : wc.cell? ⟨gb214, 0, none⟩ = some (.int .i64 a0_0) := (blk_cell BK214.out 0).trans rfl
      have hcz13_1 : wc.cell? ⟨gb214, 1, none⟩ = some (.int .i64 a0_1) := (blk_cell BK214.out 1).trans rfl
      have hcz13_2 : wc.cell? ⟨gb214, 2, none⟩ = some (.slice A0_2 l0_2.length c0_2) := (blk_cell BK214.out 2).trans rfl
      have hfz13_0 := blk_frozen BK214.out 0
      have hfz13_1 := blk_frozen BK214.out 1
      have hfz13_2 := blk_frozen BK214.out 2
      go_upto_region 7 with (fail)
      go_cut [33] (fun v33 wc => ∃ (kq : Nat) (x33_11 : Bool), v33 = .bool x33_11 ∧ Aside0 (regcertref07_Check.j1 kq x33_11 a0_0 a0_1 l0_2 = some r) ∧ Aside0 (kq ≤ kj1) ∧ Aside0 (wc.heap[gb214]? = some (.cells #[.int .i64 a0_0, .int .i64 a0_1, (.slice A0_2 l0_2.length c0_2)] 34 (0, 0))) ∧ Aside0 (Below w.heap.size w wc))
      case first =>
       have H := HC12.out
       clear HC12
       by_cases c14 : (l0_2.length : Int) > 1048576
       ·rw [if_pos c14] at H
        have c14b0 : decide (1048576 < (l0_2.length : Int)) = true := decide_eq_true c14
        have c14b1 : decide (1048576 < l0_2.length) = true := decide_eq_true (by omega)
        clear c14
        (first | rw [c14b0] | (simp only [i64_w, i32_w]; rw [c14b0]) | skip)
        have H' := As0 H
        clear H
        have hcz15_0 : wc.cell? ⟨gb214, 0, none⟩ = some (.int .i64 a0_0) := (blk_cell BK214.out 0).trans rfl
        have hcz15_1 : wc.cell? ⟨gb214, 1, none⟩ = some (.int .i64 a0_1) := (blk_cell BK214.out 1).trans rfl
        have hcz15_2 : wc.cell? ⟨gb214, 2, none⟩ = some (.slice A0_2 l0_2.length c0_2) := (blk_cell BK214.out 2).trans rfl
        have hfz15_0 := blk_frozen BK214.out 0
        have hfz15_1 := blk_frozen BK214.out 1
        have hfz15_2 := blk_frozen BK214.out 2
        go_wp2
        go_meet
        case rel => exact ⟨_, (true), (by first | rfl | (simp; done) | (simp [*]; done)), H', ⟨by have := HJ1.out; first | omega | exact Nat.le_refl _⟩, ⟨by (with_reducible repeat (first | refine blk_drewN ?_ _ | refine blk_drew ?_ | refine blk_alloc ?_ _)); exact BK214.out⟩, ⟨by repeat (first | (with_reducible first | exact HB.out | apply below_alloc | apply bdN | apply bd1 | refine below_set ?_ GE214.out) | exact HB.out)⟩⟩
       ·rw [if_neg c14] at H
        have c14b0 : decide (1048576 < (l0_2.length : Int)) = false := decide_eq_false c14
        have c14b1 : decide (1048576 < l0_2.length) = false := decide_eq_false (by omega)
        clear c14
        (first | rw [c14b0] | (simp only [i64_w, i32_w]; rw [c14b0]) | skip)
        replace H := Option.bind_eq_some_iff.mp H
        obtain ⟨t215, A160, H⟩ := H
        replace H : (regcertref07_Check.j1 kj1 (decide (t215 > 1048576)) a0_0 a0_1 l0_2) = some r := H
        have A16 := As0 A160
        clear A160
        have H' := As0 H
        clear H
        have hcz17_0 : wc.cell? ⟨gb214, 0, none⟩ = some (.int .i64 a0_0) := (blk_cell BK214.out 0).trans rfl
        have hcz17_1 : wc.cell? ⟨gb214, 1, none⟩ = some (.int .i64 a0_1) := (blk_cell BK214.out 1).trans rfl
        have hcz17_2 : wc.cell? ⟨gb214, 2, none⟩ = some (.slice A0_2 l0_2.length c0_2) := (blk_cell BK214.out 2).trans rfl
        have hfz17_0 := blk_frozen BK214.out 0
        have hfz17_1 := blk_frozen BK214.out 1
        have hfz17_2 := blk_frozen BK214.out 2
        go_wp2_with (first | (go_at_call 64; (with_reducible refine (regcertref07_Code.calls kj1 a0_0 a0_1 _ _ l0_2 t215 _ ?side1 ?side2 A16.out).mono ?_); (case side1 => repeat (first | exact (Kd.C_below HR0_2.out HB.out) | (with_reducible refine Kd.C_alloc ?_ _) | (with_reducible refine Kd.C_drewN ?_ _) | (with_reducible refine Kd.C_drew ?_))); (case side2 => exact HC0_2.out); rintro e w18 ⟨rfl, hb⟩; have n0_ := As0 (blk_below (g := gb214) (o := .cells #[.int .i64 a0_0, .int .i64 a0_1, .slice A0_2 l0_2.length c0_2] 34 (0, 0)) (by (with_reducible repeat (first | refine blk_drewN ?_ _ | refine blk_drew ?_ | refine blk_alloc ?_ _)); exact BK214.out) hb); have n1_ := As0 (below_step (by repeat (first | (with_reducible first | exact HB.out | apply below_alloc | apply bdN | apply bd1 | refine below_set ?_ GE214.out) | exact HB.out)) hb); clear BK214; clear HB; have BK214 := n0_; have HB := n1_; clear n0_ n1_; (try clear hb); (try clear hb2); (try clear hk); (try clear hi)))
        go_meet
        case rel => exact ⟨_, (decide (t215 > 1048576)), (by first | rfl | (simp; done) | (simp [*]; done)), H', ⟨by have := HJ1.out; first | omega | exact Nat.le_refl _⟩, ⟨by (with_reducible repeat (first | refine blk_drewN ?_ _ | refine blk_drew ?_ | refine blk_alloc ?_ _)); exact BK214.out⟩, ⟨by repeat (first | (with_reducible first | exact HB.out | apply below_alloc | apply bdN | apply bd1 | refine below_set ?_ GE214.out) | exact HB.out)⟩⟩
      case rest =>
       clear HC12
       try clear c1
       try clear p2
       try clear c3
       try clear c4
       try clear c4b0
       try clear c7
       try clear c8
       try clear c8b0
       try clear c10
       try clear c10b0
       try clear c10b1
       try clear c10b2
       try clear c14
       try clear c14b0
       try clear c14b1
       try clear hcz11_0
       try clear hcz11_1
       try clear hcz11_2
       try clear hcz13_0
       try clear hcz13_1
       try clear hcz13_2
       try clear hcz15_0
       try clear hcz15_1
       try clear hcz15_2
       try clear hcz17_0
       try clear hcz17_1
       try clear hcz17_2
       try clear hcz5_0
       try clear hcz5_1
       try clear hcz5_2
       try clear hcz6_0
       try clear hcz6_1
       try clear hcz6_2
       try clear hcz9_0
       try clear hcz9_1
       try clear hcz9_2
       try clear hfz11_0
       try clear hfz11_1
       try clear hfz11_2
       try clear hfz13_0
       try clear hfz13_1
       try clear hfz13_2
       try clear hfz15_0
       try clear hfz15_1
       try clear hfz15_2
       try clear hfz17_0
       try clear hfz17_1
       try clear hfz17_2
       try clear hfz5_0
       try clear hfz5_1
       try clear hfz5_2
       try clear hfz6_0
       try clear hfz6_1
       try clear hfz6_2
       try clear hfz9_0
       try clear hfz9_1
       try clear hfz9_2
       try clear p2
       obtain ⟨kq, x33_11, rfl, HA, HJ11, BK214, HB⟩ := hcut
       cases kq with
       | zero => exact absurd HA.out (by simp [regcertref07_Check.j1])
       | succ kj11 =>
        have H := HA.out
        clear HA
        simp only [regcertref07_Check.j1] at H
        by_cases c19 : x33_11 = true
        ·subst c19
         have H1 : (some 6) = some r := by rw [if_pos rfl] at H; exact H
         clear H
         have H := H1
         clear H1
         obtain rfl := Option.some.inj H
         go_wp2
         go_ret
         exact ⟨by first | rfl | (simp [errW_none, errW_some] <;> rfl) | (simp [*, errW_none, errW_some] <;> rfl), by repeat (first | (with_reducible first | exact HB.out | apply below_alloc | apply bdN | apply bd1 | refine below_set ?_ GE214.out) | exact HB.out)⟩
        ·replace c19 := Bool.eq_false_iff.mpr c19
         subst c19
         have H1 : (regcertref07_Check.l0 kj11 0 a0_0 a0_1 l0_2) = some r := by rw [if_neg (show ¬ (false = true) by decide)] at H; exact H
         clear H
         have H := H1
         clear H1
         have H' := As0 H
         clear H
         go_wp2
         go_loopg [3] kj11 (fun kq v3 w' => ∃ (x3_3 : Int), v3 = .int .i64 x3_3 ∧ Aside0 (regcertref07_Check.l0 kq x3_3 a0_0 a0_1 l0_2 = some r) ∧ Aside0 (kq ≤ kj11) ∧ Aside0 (w'.heap[gb214]? = some (.cells #[.int .i64 a0_0, .int .i64 a0_1, (.slice A0_2 l0_2.length c0_2)] 34 (0, 0))) ∧ Aside0 (Below w.heap.size w w'))
         case atStart => exact ⟨(0), (by first | rfl | (simp; done) | (simp [*]; done)), H', ⟨Nat.le_refl _⟩, ⟨by (with_reducible repeat (first | refine blk_drewN ?_ _ | refine blk_drew ?_ | refine blk_alloc ?_ _)); exact BK214.out⟩, ⟨by repeat (first | (with_reducible first | exact HB.out | apply below_alloc | apply bdN | apply bd1 | refine below_set ?_ GE214.out) | exact HB.out)⟩⟩
         case round =>
          clear H'
          try clear c1
          try clear p2
          try clear c3
          try clear c4
          try clear c4b0
          try clear c7
          try clear c8
          try clear c8b0
          try clear c10
          try clear c10b0
          try clear c10b1
          try clear c10b2
          try clear c14
          try clear c14b0
          try clear c14b1
          try clear c19
          try clear hcz11_0
          try clear hcz11_1
          try clear hcz11_2
          try clear hcz13_0
          try clear hcz13_1
          try clear hcz13_2
          try clear hcz15_0
          try clear hcz15_1
          try clear hcz15_2
          try clear hcz17_0
          try clear hcz17_1
          try clear hcz17_2
          try clear hcz5_0
          try clear hcz5_1
          try clear hcz5_2
          try clear hcz6_0
          try clear hcz6_1
          try clear hcz6_2
          try clear hcz9_0
          try clear hcz9_1
          try clear hcz9_2
          try clear hfz11_0
          try clear hfz11_1
          try clear hfz11_2
          try clear hfz13_0
          try clear hfz13_1
          try clear hfz13_2
          try clear hfz15_0
          try clear hfz15_1
          try clear hfz15_2
          try clear hfz17_0
          try clear hfz17_1
          try clear hfz17_2
          try clear hfz5_0
          try clear hfz5_1
          try clear hfz5_2
          try clear hfz6_0
          try clear hfz6_1
          try clear hfz6_2
          try clear hfz9_0
          try clear hfz9_1
          try clear hfz9_2
          try clear p2
          obtain ⟨x3_3, rfl, HA, HK3, BK214, HB⟩ := hrel
          cases gk with
          | zero => exact absurd HA.out (by simp [regcertref07_Check.l0])
          | succ k3 =>
           have H := HA.out
           clear HA
           simp only [regcertref07_Check.l0] at H
           by_cases c20 : x3_3 < (l0_2.length : Int)
           ·rw [if_pos c20] at H
            have c20b0 : decide (x3_3 < (l0_2.length : Int)) = true := decide_eq_true c20
            clear c20
            by_cases c21 : 0 ≤ x3_3
            ·rw [if_pos c21] at H
             have c21b0 : decide (0 ≤ x3_3) = true := decide_eq_true c21
             clear c21
             have H' := As0 H
             clear H
             have hcz22_0 : wr.cell? ⟨gb214, 0, none⟩ = some (.int .i64 a0_0) := (blk_cell BK214.out 0).trans rfl
             have hcz22_1 : wr.cell? ⟨gb214, 1, none⟩ = some (.int .i64 a0_1) := (blk_cell BK214.out 1).trans rfl
             have hcz22_2 : wr.cell? ⟨gb214, 2, none⟩ = some (.slice A0_2 l0_2.length c0_2) := (blk_cell BK214.out 2).trans rfl
             have hfz22_0 := blk_frozen BK214.out 0
             have hfz22_1 := blk_frozen BK214.out 1
             have hfz22_2 := blk_frozen BK214.out 2
             have p216 : 0 ≤ (x3_3 : Int) := of_decide_eq_true (by first | (with_reducible assumption) | assumption)
             have q216 : x3_3 < (l0_2.length : Int) := of_decide_eq_true (by first | (with_reducible assumption) | assumption)
             obtain ⟨ad216, A216_0, c216_0, e216, hx216_0, hx216_1, hx216_2, hx216_3, hx216_4, hl216_0, hi216_0⟩ := at_T50 HR0_2.out x3_3 p216 q216
             cases e216
             replace hx216_0 := (HB.out.cell (wblt w hx216_0)).trans hx216_0
             replace hx216_1 := (HB.out.cell (wblt w hx216_1)).trans hx216_1
             replace hx216_2 := (HB.out.cell (wblt w hx216_2)).trans hx216_2
             replace hx216_3 := (HB.out.cell (wblt w hx216_3)).trans hx216_3
             replace hx216_4 := (HB.out.cell (wblt w hx216_4)).trans hx216_4
             have HR216_0 := As0 hi216_0
             have HC216_0 := As0 hl216_0
             clear hi216_0 hl216_0
             replace p216 := eq_true p216
             replace q216 := eq_true q216
             go_wp2_with (first | ((with_reducible refine gate_dst (N := 4) rfl ?_); refine box_event ?hg (N := 4) ?hd (cs := #[.slice none 0 0, .int .i64 0, .int .i64 0, .int .i64 0, .int .i64 0]) (t := 50) ?hr ?_; (case hd => rfl); (case hg => rfl); (case hr => first | (go_simp; done) | (go_simp; rfl)); intro gb217 hg w23 hbox hb; have n0_ := As0 (blk_below (g := gb214) (o := .cells #[.int .i64 a0_0, .int .i64 a0_1, .slice (some ad216) l0_2.length c0_2] 34 (0, 0)) (by (with_reducible repeat (first | refine blk_drewN ?_ _ | refine blk_drew ?_ | refine blk_alloc ?_ _)); exact BK214.out) hb); have n1_ := As0 (below_step (by repeat (first | (with_reducible first | exact HB.out | apply below_alloc | apply bdN | apply bd1 | refine below_set ?_ GE214.out) | exact HB.out)) hb); have n2_ := As0 (hbox); have n3_ := As0 ((by rw [hg]; exact (below_size (by repeat (first | (with_reducible first | exact HB.out | apply below_alloc | apply bdN | apply bd1 | refine below_set ?_ GE214.out) | exact HB.out))) : w.heap.size ≤ gb217)); have n4_ := As0 ((by rw [hg]; exact (below_size (by repeat (first | (with_reducible first | exact HB.out | apply below_alloc | apply bdN | apply bd1 | refine below_set ?_ GE214.out) | exact HB.out))) : w.heap.size ≤ gb217)); have n5_ := As0 ((by rw [hg]; exact Nat.ne_of_lt (blk_lt (g := gb214) (o := .cells #[.int .i64 a0_0, .int .i64 a0_1, .slice (some ad216) l0_2.length c0_2] 34 (0, 0)) (by (with_reducible repeat (first | refine blk_drewN ?_ _ | refine blk_drew ?_ | refine blk_alloc ?_ _)); exact BK214.out)) : gb214 ≠ gb217)); have n6_ := As0 ((by rw [hg]; exact Nat.ne_of_gt (blk_lt (g := gb214) (o := .cells #[.int .i64 a0_0, .int .i64 a0_1, .slice (some ad216) l0_2.length c0_2] 34 (0, 0)) (by (with_reducible repeat (first | refine blk_drewN ?_ _ | refine blk_drew ?_ | refine blk_alloc ?_ _)); exact BK214.out)) : gb217 ≠ gb214)); clear BK214; clear HB; have BK214 := n0_; have HB := n1_; have BK217 := n2_; have GW217 := n3_; have GE217 := n4_; have NB214_217 := n5_; have NB217_214 := n6_; clear n0_ n1_ n2_ n3_ n4_ n5_ n6_; clear hb hbox hg; have hnb24 := NB217_214.out; have hnc24 := NB214_217.out; have hcz25_0 : w23.cell? ⟨gb217, 0, none⟩ = some (.slice none 0 0) := (blk_cell BK217.out 0).trans rfl; have hcz25_1 : w23.cell? ⟨gb217, 1, none⟩ = some (.int .i64 0) := (blk_cell BK217.out 1).trans rfl; have hcz25_2 : w23.cell? ⟨gb217, 2, none⟩ = some (.int .i64 0) := (blk_cell BK217.out 2).trans rfl; have hcz25_3 : w23.cell? ⟨gb217, 3, none⟩ = some (.int .i64 0) := (blk_cell BK217.out 3).trans rfl; have hcz25_4 : w23.cell? ⟨gb217, 4, none⟩ = some (.int .i64 0) := (blk_cell BK217.out 4).trans rfl; have hfz25_0 := blk_frozen BK217.out 0; have hfz25_1 := blk_frozen BK217.out 1; have hfz25_2 := blk_frozen BK217.out 2; have hfz25_3 := blk_frozen BK217.out 3; have hfz25_4 := blk_frozen BK217.out 4))
             go_loopg [5] k3 (fun kq v5 w' => ∃ (x5_4 : Int), v5 = .int .i64 x5_4 ∧ Aside0 (regcertref07_Check.l1 kq x3_3 x5_4 a0_0 a0_1 l0_2 ((rd_T50 l0_2 x3_3).f0) ((rd_T50 l0_2 x3_3).f1.f0) ((rd_T50 l0_2 x3_3).f1.f1) ((rd_T50 l0_2 x3_3).f1.f2) ((rd_T50 l0_2 x3_3).f1.f3) = some r) ∧ Aside0 (kq ≤ k3) ∧ Aside0 (w'.heap[gb214]? = some (.cells #[.int .i64 a0_0, .int .i64 a0_1, (.slice (some ad216) l0_2.length c0_2)] 34 (0, 0))) ∧ Aside0 (w'.heap[gb217]? = some (.cells #[(.slice A216_0 ((rd_T50 l0_2 x3_3).f0).length c216_0), .int .i64 ((rd_T50 l0_2 x3_3).f1.f0), .int .i64 ((rd_T50 l0_2 x3_3).f1.f1), .int .i64 ((rd_T50 l0_2 x3_3).f1.f2), .int .i64 ((rd_T50 l0_2 x3_3).f1.f3)] 50 (0, 0))) ∧ Aside0 (Below w.heap.size w w'))
             case atStart => exact ⟨(0), (by first | rfl | (simp; done) | (simp [*]; done)), H', ⟨Nat.le_refl _⟩, ⟨by (with_reducible repeat (first | refine blk_drewN ?_ _ | refine blk_drew ?_ | refine blk_alloc ?_ _)); refine blk_far ?_ NB214_217.out _; (with_reducible repeat (first | refine blk_drewN ?_ _ | refine blk_drew ?_ | refine blk_alloc ?_ _)); refine blk_far ?_ NB214_217.out _; (with_reducible repeat (first | refine blk_drewN ?_ _ | refine blk_drew ?_ | refine blk_alloc ?_ _)); refine blk_far ?_ NB214_217.out _; (with_reducible repeat (first | refine blk_drewN ?_ _ | refine blk_drew ?_ | refine blk_alloc ?_ _)); refine blk_far ?_ NB214_217.out _; (with_reducible repeat (first | refine blk_drewN ?_ _ | refine blk_drew ?_ | refine blk_alloc ?_ _)); refine blk_far ?_ NB214_217.out _; (with_reducible repeat (first | refine blk_drewN ?_ _ | refine blk_drew ?_ | refine blk_alloc ?_ _)); exact BK214.out⟩, ⟨by (with_reducible repeat (first | refine blk_drewN ?_ _ | refine blk_drew ?_ | refine blk_alloc ?_ _)); refine blk_put (cs := #[.slice A216_0 ((rd_T50 l0_2 x3_3).f0).length c216_0, .int .i64 ((rd_T50 l0_2 x3_3).f1.f0), .int .i64 ((rd_T50 l0_2 x3_3).f1.f1), .int .i64 ((rd_T50 l0_2 x3_3).f1.f2), .int .i64 0]) ?_ 4 _ rfl; (with_reducible repeat (first | refine blk_drewN ?_ _ | refine blk_drew ?_ | refine blk_alloc ?_ _)); refine blk_put (cs := #[.slice A216_0 ((rd_T50 l0_2 x3_3).f0).length c216_0, .int .i64 ((rd_T50 l0_2 x3_3).f1.f0), .int .i64 ((rd_T50 l0_2 x3_3).f1.f1), .int .i64 0, .int .i64 0]) ?_ 3 _ rfl; (with_reducible repeat (first | refine blk_drewN ?_ _ | refine blk_drew ?_ | refine blk_alloc ?_ _)); refine blk_put (cs := #[.slice A216_0 ((rd_T50 l0_2 x3_3).f0).length c216_0, .int .i64 ((rd_T50 l0_2 x3_3).f1.f0), .int .i64 0, .int .i64 0, .int .i64 0]) ?_ 2 _ rfl; (with_reducible repeat (first | refine blk_drewN ?_ _ | refine blk_drew ?_ | refine blk_alloc ?_ _)); refine blk_put (cs := #[.slice A216_0 ((rd_T50 l0_2 x3_3).f0).length c216_0, .int .i64 0, .int .i64 0, .int .i64 0, .int .i64 0]) ?_ 1 _ rfl; (with_reducible repeat (first | refine blk_drewN ?_ _ | refine blk_drew ?_ | refine blk_alloc ?_ _)); refine blk_put (cs := #[.slice none 0 0, .int .i64 0, .int .i64 0, .int .i64 0, .int .i64 0]) ?_ 0 _ rfl; (with_reducible repeat (first | refine blk_drewN ?_ _ | refine blk_drew ?_ | refine blk_alloc ?_ _)); exact BK217.out⟩, ⟨by repeat (first | (with_reducible first | exact HB.out | apply below_alloc | apply bdN | apply bd1 | refine below_set ?_ GE214.out | refine below_set ?_ GE217.out) | exact HB.out)⟩⟩
             case round =>
              clear H'
              try clear c1
              try clear c2
              try clear p2
              try clear q2
              try clear hx2
              try clear c3
              try clear c4
              try clear c4b0
              try clear c7
              try clear c8
              try clear c8b0
              try clear c10
              try clear c10b0
              try clear c10b1
              try clear c10b2
              try clear c14
              try clear c14b0
              try clear c14b1
              try clear c19
              try clear c20
              try clear c20b0
              try clear c21
              try clear c21b0
              try clear p21
              try clear q21
              try clear hx21
              try clear c24
              try clear hcz11_0
              try clear hcz11_1
              try clear hcz11_2
              try clear hcz13_0
              try clear hcz13_1
              try clear hcz13_2
              try clear hcz15_0
              try clear hcz15_1
              try clear hcz15_2
              try clear hcz17_0
              try clear hcz17_1
              try clear hcz17_2
              try clear hcz22_0
              try clear hcz22_1
              try clear hcz22_2
              try clear hcz25_0
              try clear hcz25_1
              try clear hcz25_2
              try clear hcz25_3
              try clear hcz25_4
              try clear hcz5_0
              try clear hcz5_1
              try clear hcz5_2
              try clear hcz6_0
              try clear hcz6_1
              try clear hcz6_2
              try clear hcz9_0
              try clear hcz9_1
              try clear hcz9_2
              try clear hfz11_0
              try clear hfz11_1
              try clear hfz11_2
              try clear hfz13_0
              try clear hfz13_1
              try clear hfz13_2
              try clear hfz15_0
              try clear hfz15_1
              try clear hfz15_2
              try clear hfz17_0
              try clear hfz17_1
              try clear hfz17_2
              try clear hfz22_0
              try clear hfz22_1
              try clear hfz22_2
              try clear hfz25_0
              try clear hfz25_1
              try clear hfz25_2
              try clear hfz25_3
              try clear hfz25_4
              try clear hfz5_0
              try clear hfz5_1
              try clear hfz5_2
              try clear hfz6_0
              try clear hfz6_1
              try clear hfz6_2
              try clear hfz9_0
              try clear hfz9_1
              try clear hfz9_2
              try clear hx216_0
              try clear hx216_1
              try clear hx216_2
              try clear hx216_3
              try clear hx216_4
              try clear p2
              try clear p216
              try clear q216
              obtain ⟨x5_4, rfl, HA, HK4, BK214, BK217, HB⟩ := hrel
              cases gk with
              | zero => exact absurd HA.out (by simp [regcertref07_Check.l1])
              | succ k4 =>
               have H := HA.out
               clear HA
               simp only [regcertref07_Check.l1] at H
               by_cases c26 : x5_4 < (((rd_T50 l0_2 x3_3).f0).length : Int)
               ·rw [if_pos c26] at H
                have c26b0 : decide (x5_4 < (((rd_T50 l0_2 x3_3).f0).length : Int)) = true := decide_eq_true c26
                clear c26
                by_cases c27 : 0 ≤ x5_4
                ·rw [if_pos c27] at H
                 have c27b0 : decide (0 ≤ x5_4) = true := decide_eq_true c27
                 clear c27
                 replace H := Option.bind_eq_some_iff.mp H
                 obtain ⟨t219, A280, H⟩ := H
                 replace H : (if t219 = 0 then (regcertref07_Check.l1 k4 x3_3 (wrap64 (x5_4 + 1)) a0_0 a0_1 l0_2 ((rd_T50 l0_2 x3_3).f0) ((rd_T50 l0_2 x3_3).f1.f0) ((rd_T50 l0_2 x3_3).f1.f1) ((rd_T50 l0_2 x3_3).f1.f2) ((rd_T50 l0_2 x3_3).f1.f3)) else (some t219)) = some r := H
                 have A28 := As0 A280
                 clear A280
                 by_cases c29 : t219 = 0
                 ·rw [if_pos c29] at H
                  have c29b0 : (t219 == 0) = true := beq_iff_eq.mpr c29
                  have c29b1 : (t219 != 0) = false := bne_eq_false_iff_eq.mpr c29
                  clear c29
                  have H' := As0 H
                  clear H
                  have hnb30 := NB217_214.out
                  have hnc30 := NB214_217.out
                  have hcz31_0 : wr.cell? ⟨gb217, 0, none⟩ = some (.slice A216_0 ((rd_T50 l0_2 x3_3).f0).length c216_0) := (blk_cell BK217.out 0).trans rfl
                  have hcz31_1 : wr.cell? ⟨gb217, 1, none⟩ = some (.int .i64 ((rd_T50 l0_2 x3_3).f1.f0)) := (blk_cell BK217.out 1).trans rfl
                  have hcz31_2 : wr.cell? ⟨gb217, 2, none⟩ = some (.int .i64 ((rd_T50 l0_2 x3_3).f1.f1)) := (blk_cell BK217.out 2).trans rfl
                  have hcz31_3 : wr.cell? ⟨gb217, 3, none⟩ = some (.int .i64 ((rd_T50 l0_2 x3_3).f1.f2)) := (blk_cell BK217.out 3).trans rfl
                  have hcz31_4 : wr.cell? ⟨gb217, 4, none⟩ = some (.int .i64 ((rd_T50 l0_2 x3_3).f1.f3)) := (blk_cell BK217.out 4).trans rfl
                  have hfz31_0 := blk_frozen BK217.out 0
                  have hfz31_1 := blk_frozen BK217.out 1
                  have hfz31_2 := blk_frozen BK217.out 2
                  have hfz31_3 := blk_frozen BK217.out 3
                  have hfz31_4 := blk_frozen BK217.out 4
                  try go_wp2
                  have n0_ := As0 (blk_drew BK214.out)
                  have n1_ := As0 (blk_drew BK217.out)
                  have n2_ := As0 (bd1 HB.out)
                  clear BK214
                  clear BK217
                  clear HB
                  have BK214 := n0_
                  have BK217 := n1_
                  have HB := n2_
                  clear n0_ n1_ n2_
                  have p218 : 0 ≤ (x5_4 : Int) := of_decide_eq_true (by first | (with_reducible assumption) | assumption)
                  have q218 : x5_4 < (((rd_T50 l0_2 x3_3).f0).length : Int) := of_decide_eq_true (by first | (with_reducible assumption) | assumption)
                  obtain ⟨ad218, e218, hx218_0, hx218_1, hx218_2, hx218_3, hx218_4⟩ := at_T97 HR216_0.out x5_4 p218 q218
                  have hw218_4 := hx218_4
                  have hw218_3 := hx218_3
                  have hw218_2 := hx218_2
                  have hw218_1 := hx218_1
                  have hw218_0 := hx218_0
                  cases e218
                  replace hx218_0 := (HB.out.cell (wblt w hx218_0)).trans hx218_0
                  replace hx218_1 := (HB.out.cell (wblt w hx218_1)).trans hx218_1
                  replace hx218_2 := (HB.out.cell (wblt w hx218_2)).trans hx218_2
                  replace hx218_3 := (HB.out.cell (wblt w hx218_3)).trans hx218_3
                  replace hx218_4 := (HB.out.cell (wblt w hx218_4)).trans hx218_4
                  replace p218 := eq_true p218
                  replace q218 := eq_true q218
                  refine start_ (n := 9) (S := fun w' => w'.cell? ⟨gb217, 0, none⟩ = some (.slice (some ad218) ((rd_T50 l0_2 x3_3).f0).length c216_0) ∧ w'.cell? ⟨gb217, 1, none⟩ = some (.int .i64 ((rd_T50 l0_2 x3_3).f1.f0)) ∧ w'.cell? ⟨gb217, 2, none⟩ = some (.int .i64 ((rd_T50 l0_2 x3_3).f1.f1)) ∧ w'.cell? ⟨gb217, 3, none⟩ = some (.int .i64 ((rd_T50 l0_2 x3_3).f1.f2)) ∧ w'.cell? ⟨gb217, 4, none⟩ = some (.int .i64 ((rd_T50 l0_2 x3_3).f1.f3)) ∧ w'.cell? ⟨gb214, 0, none⟩ = some (.int .i64 a0_0) ∧ w'.cell? ⟨gb214, 1, none⟩ = some (.int .i64 a0_1) ∧ w'.cell? ⟨gb214, 2, none⟩ = some (.slice (some ad216) l0_2.length c0_2) ∧ w'.cell? (ad218.add ((x5_4).toNat * 5)) = some (.int .i64 ((rd_T97 ((rd_T50 l0_2 x3_3).f0) x5_4).f0)) ∧ w'.cell? ⟨(ad218.add ((x5_4).toNat * 5)).block, (ad218.add ((x5_4).toNat * 5)).off + 1, none⟩ = some (.int .i64 ((rd_T97 ((rd_T50 l0_2 x3_3).f0) x5_4).f1)) ∧ w'.cell? ⟨(ad218.add ((x5_4).toNat * 5)).block, (ad218.add ((x5_4).toNat * 5)).off + 2, none⟩ = some (.int .i64 ((rd_T97 ((rd_T50 l0_2 x3_3).f0) x5_4).f2)) ∧ w'.cell? ⟨(ad218.add ((x5_4).toNat * 5)).block, (ad218.add ((x5_4).toNat * 5)).off + 3, none⟩ = some (.int .i64 ((rd_T97 ((rd_T50 l0_2 x3_3).f0) x5_4).f3)) ∧ w'.cell? ⟨(ad218.add ((x5_4).toNat * 5)).block, (ad218.add ((x5_4).toNat * 5)).off + 4, none⟩ = some (.int .i64 ((rd_T97 ((rd_T50 l0_2 x3_3).f0) x5_4).f4))) (ds := []) #[false, false, false, false, false, false, false, false, false] (by kernel_rfl) rfl rfl ⟨(blk_cell BK217.out 0).trans rfl, (blk_cell BK217.out 1).trans rfl, (blk_cell BK217.out 2).trans rfl, (blk_cell BK217.out 3).trans rfl, (blk_cell BK217.out 4).trans rfl, (blk_cell BK214.out 0).trans rfl, (blk_cell BK214.out 1).trans rfl, (blk_cell BK214.out 2).trans rfl, ((HB.out.cell (wblt w hw218_0)).trans hw218_0), ((HB.out.cell (wblt w hw218_1)).trans hw218_1), ((HB.out.cell (wblt w hw218_2)).trans hw218_2), ((HB.out.cell (wblt w hw218_3)).trans hw218_3), ((HB.out.cell (wblt w hw218_4)).trans hw218_4)⟩ (fun hHeld => ?_); refine with_tabW regcertref07_Check.tab16 regcertref07_Check.bits16 (fun HT_ HW_ => ?_)
                  generalize wr.drew = w32 at BK214 BK217 HB hx218_0 hx218_1 hx218_2 hx218_3 hx218_4 hHeld ⊢
                  refine pure_ (i := 0) (N := some 53) (v := ?_) (a' := ?_) #[true, false, false, false, false, false, false, false, false] rfl rfl (any_of HT_.out (by kernel_rfl)) (fun _ _ _ h => h) (Or.inl ⟨by rfl, ?_⟩) ?_ ?_
                  rotate_left
                  ·intro w'
                   go_simp
                   with_reducible rfl
                  rotate_left
                  ·simp only [Act.put, sL1, sL2, sL3, i64_w, i32_w]
                   rfl
                  refine pure_ (i := 2) (N := some 55) (v := ?_) (a' := ?_) #[true, false, true, false, false, false, false, false, false] rfl rfl (any_of HT_.out (by kernel_rfl)) (fun _ _ _ h => h) (Or.inl ⟨by rfl, ?_⟩) ?_ ?_
                  rotate_left
                  ·intro w'
                   go_simp
                   with_reducible rfl
                  rotate_left
                  ·simp only [Act.put, sL1, sL2, sL3, i64_w, i32_w]
                   rfl
                  refine pure_ (i := 5) (N := some 58) (v := ?_) (a' := ?_) #[true, false, true, false, false, true, false, false, false] rfl rfl (any_of HT_.out (by kernel_rfl)) (fun _ _ _ h => h) (Or.inl ⟨by rfl, ?_⟩) ?_ ?_
                  rotate_left
                  ·intro w'
                   go_simp
                   with_reducible rfl
                  rotate_left
                  ·simp only [Act.put, sL1, sL2, sL3, i64_w, i32_w]
                   rfl
                  refine take_ (i := 1) (N := some 54) (v := ?_) (a' := ?_) #[true, true, true, false, false, true, false, false, false] rfl rfl (take_ofW HT_.out HW_.out (by kernel_rfl)) (fun _ _ _ h => h) (Or.inl ⟨by rfl, ?_⟩) hHeld ?_ ?_
                  rotate_left
                  ·rintro w' ⟨s0, s1, s2, s3, s4, s5, s6, s7, s8, s9, s10, s11, s12⟩
                   go_simp
                   with_reducible rfl
                  rotate_left
                  ·simp only [Act.put, sL1, sL2, sL3, i64_w, i32_w]
                   rfl
                  refine pure_ (i := 3) (N := some 56) (v := ?_) (a' := ?_) #[true, true, true, true, false, true, false, false, false] rfl rfl (any_of HT_.out (by kernel_rfl)) (fun _ _ _ h => h) (Or.inl ⟨by rfl, ?_⟩) ?_ ?_
                  rotate_left
                  ·intro w'
                   go_simp
                   with_reducible rfl
                  rotate_left
                  ·simp only [Act.put, sL1, sL2, sL3, i64_w, i32_w]
                   rfl
                  refine take_ (i := 4) (N := some 57) (v := ?_) (a' := ?_) #[true, true, true, true, true, true, false, false, false] rfl rfl (take_ofW HT_.out HW_.out (by kernel_rfl)) (fun _ _ _ h => h) (Or.inl ⟨by rfl, ?_⟩) hHeld ?_ ?_
                  rotate_left
                  ·rintro w' ⟨s0, s1, s2, s3, s4, s5, s6, s7, s8, s9, s10, s11, s12⟩
                   go_simp
                   with_reducible rfl
                  rotate_left
                  ·simp only [Act.put, sL1, sL2, sL3, i64_w, i32_w]
                   rfl
                  refine take_ (i := 6) (N := some 59) (v := ?_) (a' := ?_) #[true, true, true, true, true, true, true, false, false] rfl rfl (take_ofW HT_.out HW_.out (by kernel_rfl)) (fun _ _ _ h => h) (Or.inl ⟨by rfl, ?_⟩) hHeld ?_ ?_
                  rotate_left
                  ·rintro w' ⟨s0, s1, s2, s3, s4, s5, s6, s7, s8, s9, s10, s11, s12⟩
                   go_simp
                   with_reducible rfl
                  rotate_left
                  ·simp only [Act.put, sL1, sL2, sL3, i64_w, i32_w]
                   rfl
                  refine one_ (i := 7) (N := some 60) #[true, true, true, true, true, true, true, true, false] rfl rfl (one_of HT_.out (by kernel_rfl)) (by decide) (fun K hK => ?_)
                  refine goes_ Try.func65 (by kernel_rfl) rfl #[.agg #[.int .i64 ((rd_T97 ((rd_T50 l0_2 x3_3).f0) x5_4).f0), .int .i64 ((rd_T97 ((rd_T50 l0_2 x3_3).f0) x5_4).f1), .int .i64 ((rd_T97 ((rd_T50 l0_2 x3_3).f0) x5_4).f2), .int .i64 ((rd_T97 ((rd_T50 l0_2 x3_3).f0) x5_4).f3), .int .i64 ((rd_T97 ((rd_T50 l0_2 x3_3).f0) x5_4).f4)], .int .i64 a0_1] (by rfl) rfl rfl (by (try simp only [List.map_toArray, List.map_cons, List.map_nil]); first | done | rfl | (simp only [List.length_drop, List.length_take]; rfl)) ?_
                  with_reducible refine (regcertref07_Instr.calls k4 ((rd_T97 ((rd_T50 l0_2 x3_3).f0) x5_4).f0) ((rd_T97 ((rd_T50 l0_2 x3_3).f0) x5_4).f1) ((rd_T97 ((rd_T50 l0_2 x3_3).f0) x5_4).f2) ((rd_T97 ((rd_T50 l0_2 x3_3).f0) x5_4).f3) ((rd_T97 ((rd_T50 l0_2 x3_3).f0) x5_4).f4) a0_1 t219 _ A28.out).mono ?_
                  rintro e w33 ⟨rfl, hb⟩
                  refine ⟨_, rfl, ?_⟩
                  have n0_ := As0 (blk_below (g := gb214) (o := .cells #[.int .i64 a0_0, .int .i64 a0_1, .slice (some ad216) l0_2.length c0_2] 34 (0, 0)) (by (with_reducible repeat (first | refine blk_drewN ?_ _ | refine blk_drew ?_ | refine blk_alloc ?_ _)); exact BK214.out) hb)
                  have n1_ := As0 (blk_below (g := gb217) (o := .cells #[.slice (some ad218) ((rd_T50 l0_2 x3_3).f0).length c216_0, .int .i64 ((rd_T50 l0_2 x3_3).f1.f0), .int .i64 ((rd_T50 l0_2 x3_3).f1.f1), .int .i64 ((rd_T50 l0_2 x3_3).f1.f2), .int .i64 ((rd_T50 l0_2 x3_3).f1.f3)] 50 (0, 0)) (by (with_reducible repeat (first | refine blk_drewN ?_ _ | refine blk_drew ?_ | refine blk_alloc ?_ _)); exact BK217.out) hb)
                  have n2_ := As0 (below_step (by repeat (first | (with_reducible first | exact HB.out | apply below_alloc | apply bdN | apply bd1 | refine below_set ?_ GE214.out | refine below_set ?_ GE217.out) | exact HB.out)) hb)
                  clear BK214
                  clear BK217
                  clear HB
                  have BK214 := n0_
                  have BK217 := n1_
                  have HB := n2_
                  clear n0_ n1_ n2_
                  (try clear hb)
                  (try clear hb2)
                  (try clear hk)
                  (try clear hi)
                  refine hK.out _ _ ⟨(blk_cell BK217.out 0).trans rfl, (blk_cell BK217.out 1).trans rfl, (blk_cell BK217.out 2).trans rfl, (blk_cell BK217.out 3).trans rfl, (blk_cell BK217.out 4).trans rfl, (blk_cell BK214.out 0).trans rfl, (blk_cell BK214.out 1).trans rfl, (blk_cell BK214.out 2).trans rfl, ((HB.out.cell (wblt w hw218_0)).trans hw218_0), ((HB.out.cell (wblt w hw218_1)).trans hw218_1), ((HB.out.cell (wblt w hw218_2)).trans hw218_2), ((HB.out.cell (wblt w hw218_3)).trans hw218_3), ((HB.out.cell (wblt w hw218_4)).trans hw218_4)⟩ (fun hHeld => ?_)
                  clear hK K
                  refine norm_ (a' := ?_) ?_ ?_
                  rotate_left
                  ·show Act.put _ (some 60) _ = _
                   simp only [Act.put, sL1, sL2, sL3, i64_w, i32_w]
                   rfl
                  refine pure_ (i := 8) (N := some 6) (v := ?_) (a' := ?_) #[true, true, true, true, true, true, true, true, true] rfl rfl (any_of HT_.out (by kernel_rfl)) (fun _ _ _ h => h) (Or.inl ⟨by rfl, ?_⟩) ?_ ?_
                  rotate_left
                  ·intro w'
                   go_simp
                   with_reducible rfl
                  rotate_left
                  ·simp only [Act.put, sL1, sL2, sL3, i64_w, i32_w]
                   rfl
                  refine done_ (done_of HT_.out (by kernel_rfl)) ?_
                  try go_wp2
                  go_roundg k4
                  case measure => have := HJ1.out; have := HJ11.out; have := HK3.out; have := HK4.out; omega
                  case rel => exact ⟨(wrap64 (x5_4 + 1)), (by first | rfl | (simp; done) | (simp [*]; done)), H', ⟨by have := HJ1.out; have := HJ11.out; have := HK3.out; have := HK4.out; omega⟩, ⟨by (with_reducible repeat (first | refine blk_drewN ?_ _ | refine blk_drew ?_ | refine blk_alloc ?_ _)); exact BK214.out⟩, ⟨by (with_reducible repeat (first | refine blk_drewN ?_ _ | refine blk_drew ?_ | refine blk_alloc ?_ _)); exact BK217.out⟩, ⟨by repeat (first | (with_reducible first | exact HB.out | apply below_alloc | apply bdN | apply bd1 | refine below_set ?_ GE214.out | refine below_set ?_ GE217.out) | exact HB.out)⟩⟩
                 ·rw [if_neg c29] at H
                  have c29b0 : (t219 == 0) = false := beq_eq_false_iff_ne.mpr c29
                  have c29b1 : (t219 != 0) = true := bne_iff_ne.mpr c29
                  obtain rfl := Option.some.inj H
                  have hnb34 := NB217_214.out
                  have hnc34 := NB214_217.out
                  have hcz35_0 : wr.cell? ⟨gb217, 0, none⟩ = some (.slice A216_0 ((rd_T50 l0_2 x3_3).f0).length c216_0) := (blk_cell BK217.out 0).trans rfl
                  have hcz35_1 : wr.cell? ⟨gb217, 1, none⟩ = some (.int .i64 ((rd_T50 l0_2 x3_3).f1.f0)) := (blk_cell BK217.out 1).trans rfl
                  have hcz35_2 : wr.cell? ⟨gb217, 2, none⟩ = some (.int .i64 ((rd_T50 l0_2 x3_3).f1.f1)) := (blk_cell BK217.out 2).trans rfl
                  have hcz35_3 : wr.cell? ⟨gb217, 3, none⟩ = some (.int .i64 ((rd_T50 l0_2 x3_3).f1.f2)) := (blk_cell BK217.out 3).trans rfl
                  have hcz35_4 : wr.cell? ⟨gb217, 4, none⟩ = some (.int .i64 ((rd_T50 l0_2 x3_3).f1.f3)) := (blk_cell BK217.out 4).trans rfl
                  have hfz35_0 := blk_frozen BK217.out 0
                  have hfz35_1 := blk_frozen BK217.out 1
                  have hfz35_2 := blk_frozen BK217.out 2
                  have hfz35_3 := blk_frozen BK217.out 3
                  have hfz35_4 := blk_frozen BK217.out 4
                  try go_wp2
                  have n0_ := As0 (blk_drew BK214.out)
                  have n1_ := As0 (blk_drew BK217.out)
                  have n2_ := As0 (bd1 HB.out)
                  clear BK214
                  clear BK217
                  clear HB
                  have BK214 := n0_
                  have BK217 := n1_
                  have HB := n2_
                  clear n0_ n1_ n2_
                  have p218 : 0 ≤ (x5_4 : Int) := of_decide_eq_true (by first | (with_reducible assumption) | assumption)
                  have q218 : x5_4 < (((rd_T50 l0_2 x3_3).f0).length : Int) := of_decide_eq_true (by first | (with_reducible assumption) | assumption)
                  obtain ⟨ad218, e218, hx218_0, hx218_1, hx218_2, hx218_3, hx218_4⟩ := at_T97 HR216_0.out x5_4 p218 q218
                  have hw218_4 := hx218_4
                  have hw218_3 := hx218_3
                  have hw218_2 := hx218_2
                  have hw218_1 := hx218_1
                  have hw218_0 := hx218_0
                  cases e218
                  replace hx218_0 := (HB.out.cell (wblt w hx218_0)).trans hx218_0
                  replace hx218_1 := (HB.out.cell (wblt w hx218_1)).trans hx218_1
                  replace hx218_2 := (HB.out.cell (wblt w hx218_2)).trans hx218_2
                  replace hx218_3 := (HB.out.cell (wblt w hx218_3)).trans hx218_3
                  replace hx218_4 := (HB.out.cell (wblt w hx218_4)).trans hx218_4
                  replace p218 := eq_true p218
                  replace q218 := eq_true q218
                  refine start_ (n := 9) (S := fun w' => w'.cell? ⟨gb217, 0, none⟩ = some (.slice (some ad218) ((rd_T50 l0_2 x3_3).f0).length c216_0) ∧ w'.cell? ⟨gb217, 1, none⟩ = some (.int .i64 ((rd_T50 l0_2 x3_3).f1.f0)) ∧ w'.cell? ⟨gb217, 2, none⟩ = some (.int .i64 ((rd_T50 l0_2 x3_3).f1.f1)) ∧ w'.cell? ⟨gb217, 3, none⟩ = some (.int .i64 ((rd_T50 l0_2 x3_3).f1.f2)) ∧ w'.cell? ⟨gb217, 4, none⟩ = some (.int .i64 ((rd_T50 l0_2 x3_3).f1.f3)) ∧ w'.cell? ⟨gb214, 0, none⟩ = some (.int .i64 a0_0) ∧ w'.cell? ⟨gb214, 1, none⟩ = some (.int .i64 a0_1) ∧ w'.cell? ⟨gb214, 2, none⟩ = some (.slice (some ad216) l0_2.length c0_2) ∧ w'.cell? (ad218.add ((x5_4).toNat * 5)) = some (.int .i64 ((rd_T97 ((rd_T50 l0_2 x3_3).f0) x5_4).f0)) ∧ w'.cell? ⟨(ad218.add ((x5_4).toNat * 5)).block, (ad218.add ((x5_4).toNat * 5)).off + 1, none⟩ = some (.int .i64 ((rd_T97 ((rd_T50 l0_2 x3_3).f0) x5_4).f1)) ∧ w'.cell? ⟨(ad218.add ((x5_4).toNat * 5)).block, (ad218.add ((x5_4).toNat * 5)).off + 2, none⟩ = some (.int .i64 ((rd_T97 ((rd_T50 l0_2 x3_3).f0) x5_4).f2)) ∧ w'.cell? ⟨(ad218.add ((x5_4).toNat * 5)).block, (ad218.add ((x5_4).toNat * 5)).off + 3, none⟩ = some (.int .i64 ((rd_T97 ((rd_T50 l0_2 x3_3).f0) x5_4).f3)) ∧ w'.cell? ⟨(ad218.add ((x5_4).toNat * 5)).block, (ad218.add ((x5_4).toNat * 5)).off + 4, none⟩ = some (.int .i64 ((rd_T97 ((rd_T50 l0_2 x3_3).f0) x5_4).f4))) (ds := []) #[false, false, false, false, false, false, false, false, false] (by kernel_rfl) rfl rfl ⟨(blk_cell BK217.out 0).trans rfl, (blk_cell BK217.out 1).trans rfl, (blk_cell BK217.out 2).trans rfl, (blk_cell BK217.out 3).trans rfl, (blk_cell BK217.out 4).trans rfl, (blk_cell BK214.out 0).trans rfl, (blk_cell BK214.out 1).trans rfl, (blk_cell BK214.out 2).trans rfl, ((HB.out.cell (wblt w hw218_0)).trans hw218_0), ((HB.out.cell (wblt w hw218_1)).trans hw218_1), ((HB.out.cell (wblt w hw218_2)).trans hw218_2), ((HB.out.cell (wblt w hw218_3)).trans hw218_3), ((HB.out.cell (wblt w hw218_4)).trans hw218_4)⟩ (fun hHeld => ?_); refine with_tabW regcertref07_Check.tab16 regcertref07_Check.bits16 (fun HT_ HW_ => ?_)
                  generalize wr.drew = w36 at BK214 BK217 HB hx218_0 hx218_1 hx218_2 hx218_3 hx218_4 hHeld ⊢
                  refine pure_ (i := 0) (N := some 53) (v := ?_) (a' := ?_) #[true, false, false, false, false, false, false, false, false] rfl rfl (any_of HT_.out (by kernel_rfl)) (fun _ _ _ h => h) (Or.inl ⟨by rfl, ?_⟩) ?_ ?_
                  rotate_left
                  ·intro w'
                   go_simp
                   with_reducible rfl
                  rotate_left
                  ·simp only [Act.put, sL1, sL2, sL3, i64_w, i32_w]
                   rfl
                  refine pure_ (i := 2) (N := some 55) (v := ?_) (a' := ?_) #[true, false, true, false, false, false, false, false, false] rfl rfl (any_of HT_.out (by kernel_rfl)) (fun _ _ _ h => h) (Or.inl ⟨by rfl, ?_⟩) ?_ ?_
                  rotate_left
                  ·intro w'
                   go_simp
                   with_reducible rfl
                  rotate_left
                  ·simp only [Act.put, sL1, sL2, sL3, i64_w, i32_w]
                   rfl
                  refine pure_ (i := 5) (N := some 58) (v := ?_) (a' := ?_) #[true, false, true, false, false, true, false, false, false] rfl rfl (any_of HT_.out (by kernel_rfl)) (fun _ _ _ h => h) (Or.inl ⟨by rfl, ?_⟩) ?_ ?_
                  rotate_left
                  ·intro w'
                   go_simp
                   with_reducible rfl
                  rotate_left
                  ·simp only [Act.put, sL1, sL2, sL3, i64_w, i32_w]
                   rfl
                  refine take_ (i := 1) (N := some 54) (v := ?_) (a' := ?_) #[true, true, true, false, false, true, false, false, false] rfl rfl (take_ofW HT_.out HW_.out (by kernel_rfl)) (fun _ _ _ h => h) (Or.inl ⟨by rfl, ?_⟩) hHeld ?_ ?_
                  rotate_left
                  ·rintro w' ⟨s0, s1, s2, s3, s4, s5, s6, s7, s8, s9, s10, s11, s12⟩
                   go_simp
                   with_reducible rfl
                  rotate_left
                  ·simp only [Act.put, sL1, sL2, sL3, i64_w, i32_w]
                   rfl
                  refine pure_ (i := 3) (N := some 56) (v := ?_) (a' := ?_) #[true, true, true, true, false, true, false, false, false] rfl rfl (any_of HT_.out (by kernel_rfl)) (fun _ _ _ h => h) (Or.inl ⟨by rfl, ?_⟩) ?_ ?_
                  rotate_left
                  ·intro w'
                   go_simp
                   with_reducible rfl
                  rotate_left
                  ·simp only [Act.put, sL1, sL2, sL3, i64_w, i32_w]
                   rfl
                  refine take_ (i := 4) (N := some 57) (v := ?_) (a' := ?_) #[true, true, true, true, true, true, false, false, false] rfl rfl (take_ofW HT_.out HW_.out (by kernel_rfl)) (fun _ _ _ h => h) (Or.inl ⟨by rfl, ?_⟩) hHeld ?_ ?_
                  rotate_left
                  ·rintro w' ⟨s0, s1, s2, s3, s4, s5, s6, s7, s8, s9, s10, s11, s12⟩
                   go_simp
                   with_reducible rfl
                  rotate_left
                  ·simp only [Act.put, sL1, sL2, sL3, i64_w, i32_w]
                   rfl
                  refine take_ (i := 6) (N := some 59) (v := ?_) (a' := ?_) #[true, true, true, true, true, true, true, false, false] rfl rfl (take_ofW HT_.out HW_.out (by kernel_rfl)) (fun _ _ _ h => h) (Or.inl ⟨by rfl, ?_⟩) hHeld ?_ ?_
                  rotate_left
                  ·rintro w' ⟨s0, s1, s2, s3, s4, s5, s6, s7, s8, s9, s10, s11, s12⟩
                   go_simp
                   with_reducible rfl
                  rotate_left
                  ·simp only [Act.put, sL1, sL2, sL3, i64_w, i32_w]
                   rfl
                  refine one_ (i := 7) (N := some 60) #[true, true, true, true, true, true, true, true, false] rfl rfl (one_of HT_.out (by kernel_rfl)) (by decide) (fun K hK => ?_)
                  refine goes_ Try.func65 (by kernel_rfl) rfl #[.agg #[.int .i64 ((rd_T97 ((rd_T50 l0_2 x3_3).f0) x5_4).f0), .int .i64 ((rd_T97 ((rd_T50 l0_2 x3_3).f0) x5_4).f1), .int .i64 ((rd_T97 ((rd_T50 l0_2 x3_3).f0) x5_4).f2), .int .i64 ((rd_T97 ((rd_T50 l0_2 x3_3).f0) x5_4).f3), .int .i64 ((rd_T97 ((rd_T50 l0_2 x3_3).f0) x5_4).f4)], .int .i64 a0_1] (by rfl) rfl rfl (by (try simp only [List.map_toArray, List.map_cons, List.map_nil]); first | done | rfl | (simp only [List.length_drop, List.length_take]; rfl)) ?_
                  with_reducible refine (regcertref07_Instr.calls k4 ((rd_T97 ((rd_T50 l0_2 x3_3).f0) x5_4).f0) ((rd_T97 ((rd_T50 l0_2 x3_3).f0) x5_4).f1) ((rd_T97 ((rd_T50 l0_2 x3_3).f0) x5_4).f2) ((rd_T97 ((rd_T50 l0_2 x3_3).f0) x5_4).f3) ((rd_T97 ((rd_T50 l0_2 x3_3).f0) x5_4).f4) a0_1 t219 _ A28.out).mono ?_
                  rintro e w37 ⟨rfl, hb⟩
                  refine ⟨_, rfl, ?_⟩
                  have n0_ := As0 (blk_below (g := gb214) (o := .cells #[.int .i64 a0_0, .int .i64 a0_1, .slice (some ad216) l0_2.length c0_2] 34 (0, 0)) (by (with_reducible repeat (first | refine blk_drewN ?_ _ | refine blk_drew ?_ | refine blk_alloc ?_ _)); exact BK214.out) hb)
                  have n1_ := As0 (blk_below (g := gb217) (o := .cells #[.slice (some ad218) ((rd_T50 l0_2 x3_3).f0).length c216_0, .int .i64 ((rd_T50 l0_2 x3_3).f1.f0), .int .i64 ((rd_T50 l0_2 x3_3).f1.f1), .int .i64 ((rd_T50 l0_2 x3_3).f1.f2), .int .i64 ((rd_T50 l0_2 x3_3).f1.f3)] 50 (0, 0)) (by (with_reducible repeat (first | refine blk_drewN ?_ _ | refine blk_drew ?_ | refine blk_alloc ?_ _)); exact BK217.out) hb)
                  have n2_ := As0 (below_step (by repeat (first | (with_reducible first | exact HB.out | apply below_alloc | apply bdN | apply bd1 | refine below_set ?_ GE214.out | refine below_set ?_ GE217.out) | exact HB.out)) hb)
                  clear BK214
                  clear BK217
                  clear HB
                  have BK214 := n0_
                  have BK217 := n1_
                  have HB := n2_
                  clear n0_ n1_ n2_
                  (try clear hb)
                  (try clear hb2)
                  (try clear hk)
                  (try clear hi)
                  refine hK.out _ _ ⟨(blk_cell BK217.out 0).trans rfl, (blk_cell BK217.out 1).trans rfl, (blk_cell BK217.out 2).trans rfl, (blk_cell BK217.out 3).trans rfl, (blk_cell BK217.out 4).trans rfl, (blk_cell BK214.out 0).trans rfl, (blk_cell BK214.out 1).trans rfl, (blk_cell BK214.out 2).trans rfl, ((HB.out.cell (wblt w hw218_0)).trans hw218_0), ((HB.out.cell (wblt w hw218_1)).trans hw218_1), ((HB.out.cell (wblt w hw218_2)).trans hw218_2), ((HB.out.cell (wblt w hw218_3)).trans hw218_3), ((HB.out.cell (wblt w hw218_4)).trans hw218_4)⟩ (fun hHeld => ?_)
                  clear hK K
                  refine norm_ (a' := ?_) ?_ ?_
                  rotate_left
                  ·show Act.put _ (some 60) _ = _
                   simp only [Act.put, sL1, sL2, sL3, i64_w, i32_w]
                   rfl
                  refine pure_ (i := 8) (N := some 6) (v := ?_) (a' := ?_) #[true, true, true, true, true, true, true, true, true] rfl rfl (any_of HT_.out (by kernel_rfl)) (fun _ _ _ h => h) (Or.inl ⟨by rfl, ?_⟩) ?_ ?_
                  rotate_left
                  ·intro w'
                   go_simp
                   with_reducible rfl
                  rotate_left
                  ·simp only [Act.put, sL1, sL2, sL3, i64_w, i32_w]
                   rfl
                  refine done_ (done_of HT_.out (by kernel_rfl)) ?_
                  try go_wp2
                  go_ret
                  exact ⟨by first | rfl | (simp [errW_none, errW_some] <;> rfl) | (simp [*, errW_none, errW_some] <;> rfl), by repeat (first | (with_reducible first | exact HB.out | apply below_alloc | apply bdN | apply bd1 | refine below_set ?_ GE214.out | refine below_set ?_ GE217.out) | exact HB.out)⟩
                ·rw [if_neg c27] at H
                 exact absurd H (by simp)
               ·rw [if_neg c26] at H
                have c26b0 : decide (x5_4 < (((rd_T50 l0_2 x3_3).f0).length : Int)) = false := decide_eq_false c26
                clear c26
                replace H := Option.bind_eq_some_iff.mp H
                obtain ⟨t220, A380, H⟩ := H
                replace H : (if t220 = 0 then (regcertref07_Check.l0 k4 (wrap64 (x3_3 + 1)) a0_0 a0_1 l0_2) else (some t220)) = some r := H
                have A38 := As0 A380
                clear A380
                by_cases c39 : t220 = 0
                ·rw [if_pos c39] at H
                 have c39b0 : (t220 == 0) = true := beq_iff_eq.mpr c39
                 have c39b1 : (t220 != 0) = false := bne_eq_false_iff_eq.mpr c39
                 clear c39
                 have H' := As0 H
                 clear H
                 have hnb40 := NB217_214.out
                 have hnc40 := NB214_217.out
                 have hcz41_0 : wr.cell? ⟨gb217, 0, none⟩ = some (.slice A216_0 ((rd_T50 l0_2 x3_3).f0).length c216_0) := (blk_cell BK217.out 0).trans rfl
                 have hcz41_1 : wr.cell? ⟨gb217, 1, none⟩ = some (.int .i64 ((rd_T50 l0_2 x3_3).f1.f0)) := (blk_cell BK217.out 1).trans rfl
                 have hcz41_2 : wr.cell? ⟨gb217, 2, none⟩ = some (.int .i64 ((rd_T50 l0_2 x3_3).f1.f1)) := (blk_cell BK217.out 2).trans rfl
                 have hcz41_3 : wr.cell? ⟨gb217, 3, none⟩ = some (.int .i64 ((rd_T50 l0_2 x3_3).f1.f2)) := (blk_cell BK217.out 3).trans rfl
                 have hcz41_4 : wr.cell? ⟨gb217, 4, none⟩ = some (.int .i64 ((rd_T50 l0_2 x3_3).f1.f3)) := (blk_cell BK217.out 4).trans rfl
                 have hfz41_0 := blk_frozen BK217.out 0
                 have hfz41_1 := blk_frozen BK217.out 1
                 have hfz41_2 := blk_frozen BK217.out 2
                 have hfz41_3 := blk_frozen BK217.out 3
                 have hfz41_4 := blk_frozen BK217.out 4
                 have hcz42_0 : wr.cell? ⟨gb214, 0, none⟩ = some (.int .i64 a0_0) := (blk_cell BK214.out 0).trans rfl
                 have hcz42_1 : wr.cell? ⟨gb214, 1, none⟩ = some (.int .i64 a0_1) := (blk_cell BK214.out 1).trans rfl
                 have hcz42_2 : wr.cell? ⟨gb214, 2, none⟩ = some (.slice (some ad216) l0_2.length c0_2) := (blk_cell BK214.out 2).trans rfl
                 have hfz42_0 := blk_frozen BK214.out 0
                 have hfz42_1 := blk_frozen BK214.out 1
                 have hfz42_2 := blk_frozen BK214.out 2
                 go_wp2_with (first | ((with_reducible refine gate_callee (f := 66) rfl ?_); refine goesL_ (some 71) rfl rfl Try.func66 (by kernel_rfl) rfl #[.agg #[.int .i64 ((rd_T50 l0_2 x3_3).f1.f0), .int .i64 ((rd_T50 l0_2 x3_3).f1.f1), .int .i64 ((rd_T50 l0_2 x3_3).f1.f2), .int .i64 ((rd_T50 l0_2 x3_3).f1.f3)], .int .i64 a0_1, .int .i64 (l0_2.length : Int)] rfl (by (try simp only [List.map_toArray, List.map_cons, List.map_nil]); first | done | rfl | (simp only [List.length_drop, List.length_take]; rfl)) ?_; (with_reducible refine (regcertref07_Term.calls k4 ((rd_T50 l0_2 x3_3).f1.f0) ((rd_T50 l0_2 x3_3).f1.f1) ((rd_T50 l0_2 x3_3).f1.f2) ((rd_T50 l0_2 x3_3).f1.f3) a0_1 (l0_2.length : Int) t220 _ A38.out).mono ?_); rintro e w43 ⟨rfl, hb⟩; refine ⟨_, rfl, ?_⟩; have n0_ := As0 (blk_below (g := gb214) (o := .cells #[.int .i64 a0_0, .int .i64 a0_1, .slice (some ad216) l0_2.length c0_2] 34 (0, 0)) (by (with_reducible repeat (first | refine blk_drewN ?_ _ | refine blk_drew ?_ | refine blk_alloc ?_ _)); exact BK214.out) hb); have n1_ := As0 (blk_below (g := gb217) (o := .cells #[.slice A216_0 ((rd_T50 l0_2 x3_3).f0).length c216_0, .int .i64 ((rd_T50 l0_2 x3_3).f1.f0), .int .i64 ((rd_T50 l0_2 x3_3).f1.f1), .int .i64 ((rd_T50 l0_2 x3_3).f1.f2), .int .i64 ((rd_T50 l0_2 x3_3).f1.f3)] 50 (0, 0)) (by (with_reducible repeat (first | refine blk_drewN ?_ _ | refine blk_drew ?_ | refine blk_alloc ?_ _)); exact BK217.out) hb); have n2_ := As0 (below_step (by repeat (first | (with_reducible first | exact HB.out | apply below_alloc | apply bdN | apply bd1 | refine below_set ?_ GE214.out | refine below_set ?_ GE217.out) | exact HB.out)) hb); clear BK214; clear BK217; clear HB; have BK214 := n0_; have BK217 := n1_; have HB := n2_; clear n0_ n1_ n2_; (try clear hb); (try clear hb2); (try clear hk); (try clear hi)))
                 go_roundg k4
                 case measure => have := HJ1.out; have := HJ11.out; have := HK3.out; have := HK4.out; omega
                 case rel => exact ⟨(wrap64 (x3_3 + 1)), (by first | rfl | (simp; done) | (simp [*]; done)), H', ⟨by have := HJ1.out; have := HJ11.out; have := HK3.out; have := HK4.out; omega⟩, ⟨by (with_reducible repeat (first | refine blk_drewN ?_ _ | refine blk_drew ?_ | refine blk_alloc ?_ _)); exact BK214.out⟩, ⟨by repeat (first | (with_reducible first | exact HB.out | apply below_alloc | apply bdN | apply bd1 | refine below_set ?_ GE214.out | refine below_set ?_ GE217.out) | exact HB.out)⟩⟩
                ·rw [if_neg c39] at H
                 have c39b0 : (t220 == 0) = false := beq_eq_false_iff_ne.mpr c39
                 have c39b1 : (t220 != 0) = true := bne_iff_ne.mpr c39
                 obtain rfl := Option.some.inj H
                 have hnb44 := NB217_214.out
                 have hnc44 := NB214_217.out
                 have hcz45_0 : wr.cell? ⟨gb217, 0, none⟩ = some (.slice A216_0 ((rd_T50 l0_2 x3_3).f0).length c216_0) := (blk_cell BK217.out 0).trans rfl
                 have hcz45_1 : wr.cell? ⟨gb217, 1, none⟩ = some (.int .i64 ((rd_T50 l0_2 x3_3).f1.f0)) := (blk_cell BK217.out 1).trans rfl
                 have hcz45_2 : wr.cell? ⟨gb217, 2, none⟩ = some (.int .i64 ((rd_T50 l0_2 x3_3).f1.f1)) := (blk_cell BK217.out 2).trans rfl
                 have hcz45_3 : wr.cell? ⟨gb217, 3, none⟩ = some (.int .i64 ((rd_T50 l0_2 x3_3).f1.f2)) := (blk_cell BK217.out 3).trans rfl
                 have hcz45_4 : wr.cell? ⟨gb217, 4, none⟩ = some (.int .i64 ((rd_T50 l0_2 x3_3).f1.f3)) := (blk_cell BK217.out 4).trans rfl
                 have hfz45_0 := blk_frozen BK217.out 0
                 have hfz45_1 := blk_frozen BK217.out 1
                 have hfz45_2 := blk_frozen BK217.out 2
                 have hfz45_3 := blk_frozen BK217.out 3
                 have hfz45_4 := blk_frozen BK217.out 4
                 have hcz46_0 : wr.cell? ⟨gb214, 0, none⟩ = some (.int .i64 a0_0) := (blk_cell BK214.out 0).trans rfl
                 have hcz46_1 : wr.cell? ⟨gb214, 1, none⟩ = some (.int .i64 a0_1) := (blk_cell BK214.out 1).trans rfl
                 have hcz46_2 : wr.cell? ⟨gb214, 2, none⟩ = some (.slice (some ad216) l0_2.length c0_2) := (blk_cell BK214.out 2).trans rfl
                 have hfz46_0 := blk_frozen BK214.out 0
                 have hfz46_1 := blk_frozen BK214.out 1
                 have hfz46_2 := blk_frozen BK214.out 2
                 go_wp2_with (first | ((with_reducible refine gate_callee (f := 66) rfl ?_); refine goesL_ (some 71) rfl rfl Try.func66 (by kernel_rfl) rfl #[.agg #[.int .i64 ((rd_T50 l0_2 x3_3).f1.f0), .int .i64 ((rd_T50 l0_2 x3_3).f1.f1), .int .i64 ((rd_T50 l0_2 x3_3).f1.f2), .int .i64 ((rd_T50 l0_2 x3_3).f1.f3)], .int .i64 a0_1, .int .i64 (l0_2.length : Int)] rfl (by (try simp only [List.map_toArray, List.map_cons, List.map_nil]); first | done | rfl | (simp only [List.length_drop, List.length_take]; rfl)) ?_; (with_reducible refine (regcertref07_Term.calls k4 ((rd_T50 l0_2 x3_3).f1.f0) ((rd_T50 l0_2 x3_3).f1.f1) ((rd_T50 l0_2 x3_3).f1.f2) ((rd_T50 l0_2 x3_3).f1.f3) a0_1 (l0_2.length : Int) t220 _ A38.out).mono ?_); rintro e w47 ⟨rfl, hb⟩; refine ⟨_, rfl, ?_⟩; have n0_ := As0 (blk_below (g := gb214) (o := .cells #[.int .i64 a0_0, .int .i64 a0_1, .slice (some ad216) l0_2.length c0_2] 34 (0, 0)) (by (with_reducible repeat (first | refine blk_drewN ?_ _ | refine blk_drew ?_ | refine blk_alloc ?_ _)); exact BK214.out) hb); have n1_ := As0 (blk_below (g := gb217) (o := .cells #[.slice A216_0 ((rd_T50 l0_2 x3_3).f0).length c216_0, .int .i64 ((rd_T50 l0_2 x3_3).f1.f0), .int .i64 ((rd_T50 l0_2 x3_3).f1.f1), .int .i64 ((rd_T50 l0_2 x3_3).f1.f2), .int .i64 ((rd_T50 l0_2 x3_3).f1.f3)] 50 (0, 0)) (by (with_reducible repeat (first | refine blk_drewN ?_ _ | refine blk_drew ?_ | refine blk_alloc ?_ _)); exact BK217.out) hb); have n2_ := As0 (below_step (by repeat (first | (with_reducible first | exact HB.out | apply below_alloc | apply bdN | apply bd1 | refine below_set ?_ GE214.out | refine below_set ?_ GE217.out) | exact HB.out)) hb); clear BK214; clear BK217; clear HB; have BK214 := n0_; have BK217 := n1_; have HB := n2_; clear n0_ n1_ n2_; (try clear hb); (try clear hb2); (try clear hk); (try clear hi)))
                 go_ret
                 exact ⟨by first | rfl | (simp [errW_none, errW_some] <;> rfl) | (simp [*, errW_none, errW_some] <;> rfl), by repeat (first | (with_reducible first | exact HB.out | apply below_alloc | apply bdN | apply bd1 | refine below_set ?_ GE214.out | refine below_set ?_ GE217.out) | exact HB.out)⟩
            ·rw [if_neg c21] at H
             exact absurd H (by simp)
           ·rw [if_neg c20] at H
            have c20b0 : decide (x3_3 < (l0_2.length : Int)) = false := decide_eq_false c20
            clear c20
            obtain rfl := Option.some.inj H
            have hcz48_0 : wr.cell? ⟨gb214, 0, none⟩ = some (.int .i64 a0_0) := (blk_cell BK214.out 0).trans rfl
            have hcz48_1 : wr.cell? ⟨gb214, 1, none⟩ = some (.int .i64 a0_1) := (blk_cell BK214.out 1).trans rfl
            have hcz48_2 : wr.cell? ⟨gb214, 2, none⟩ = some (.slice A0_2 l0_2.length c0_2) := (blk_cell BK214.out 2).trans rfl
            have hfz48_0 := blk_frozen BK214.out 0
            have hfz48_1 := blk_frozen BK214.out 1
            have hfz48_2 := blk_frozen BK214.out 2
            go_wp2
            go_ret
            exact ⟨by first | rfl | (simp [errW_none, errW_some] <;> rfl) | (simp [*, errW_none, errW_some] <;> rfl), by repeat (first | (with_reducible first | exact HB.out | apply below_alloc | apply bdN | apply bd1 | refine below_set ?_ GE214.out) | exact HB.out)⟩

/-! ### regcertref09_Right: function 30 -/
def regcertref09_Right.f (k : Nat) (a0_0 : Int) (a0_1 : Int) (l0_2 : List (S50)) (l1 : List Int) (a2 : Int) : Option (Bool) := (regcertref07_Few.f k a0_0 a0_1 l0_2).bind fun t222 => (if t222 = true then ((regcertref07_Check.f k a0_0 a0_1 l0_2).bind fun t223 => (if t223 = 0 then (if a2 ≤ 400 then (some (decide ((l1.length : Int) ≤ 100))) else (some false)) else (some false))) else (some false))
theorem regcertref09_Right.mono : ∀ a0 a1 a2 a3 a4 k, LeO (regcertref09_Right.f k a0 a1 a2 a3 a4) (regcertref09_Right.f (k + 1) a0 a1 a2 a3 a4) := by
 intro a0 a1 a2 a3 a4 k
 unfold regcertref09_Right.f
 repeat' first
   | (with_reducible exact regcertref07_Check.mono _ _ _ _)
   | (with_reducible exact regcertref07_Few.mono _ _ _ _)
   | (with_reducible exact LeO.refl _)
   | (with_reducible exact LeO.none _)
   | (with_reducible refine LeO.ite ?_ ?_)
   | (with_reducible refine LeO.bind ?_ (fun _ => ?_))
   | exact regcertref07_Check.mono _ _ _ _
   | exact regcertref07_Few.mono _ _ _ _
   | exact LeO.none _
   | refine LeO.ite ?_ ?_
   | refine LeO.bind ?_ (fun _ => ?_)
set_option maxHeartbeats 8000000 in
set_option maxRecDepth 100000 in
theorem regcertref09_Right.calls (k : Nat) (a0_0 : Int) (a0_1 : Int) (A0_2 : Option Addr) (c0_2 : Nat) (l0_2 : List (S50)) (A1 : Option Addr) (c1 : Nat) (l1 : List Int) (a2 : Int) (r : Bool) (w : World) (hr0_2 : Kd.C k50 w A0_2 l0_2.length l0_2) (hc0_2 : l0_2.length ≤ c0_2) (hr1 : Kd.C (Kd.int .i64) w A1 l1.length l1) (hc1 : l1.length ≤ c1) (h : regcertref09_Right.f k a0_0 a0_1 l0_2 l1 a2 = some r) :
  Calls Try.prog 30 #[.agg #[.int .i64 a0_0, .int .i64 a0_1, .slice A0_2 l0_2.length c0_2], .slice A1 l1.length c1, .int .i64 a2] w fun e w' => e = .returned (.bool r) ∧ Below w.heap.size w w' := by
 have hu34 := Try.underlying34
 have HR0_2 := As0 hr0_2
 have HC0_2 := As0 hc0_2
 clear hr0_2 hc0_2
 have HR1 := As0 hr1
 have HC1 := As0 hc1
 clear hr1 hc1
 have HB := As0 (Below.refl w.heap.size w)
 have H : ((regcertref07_Few.f k a0_0 a0_1 l0_2).bind fun t222 => (if t222 = true then ((regcertref07_Check.f k a0_0 a0_1 l0_2).bind fun t223 => (if t223 = 0 then (if a2 ≤ 400 then (some (decide ((l1.length : Int) ≤ 100))) else (some false)) else (some false))) else (some false))) = some r := h
 clear h
 replace H := Option.bind_eq_some_iff.mp H
 obtain ⟨t222, A40, H⟩ := H
 replace H : (if t222 = true then ((regcertref07_Check.f k a0_0 a0_1 l0_2).bind fun t223 => (if t223 = 0 then (if a2 ≤ 400 then (some (decide ((l1.length : Int) ≤ 100))) else (some false)) else (some false))) else (some false)) = some r := H
 have A4 := As0 A40
 clear A40
 by_cases c5 : t222 = true
 ·subst c5
  have H1 : ((regcertref07_Check.f k a0_0 a0_1 l0_2).bind fun t223 => (if t223 = 0 then (if a2 ≤ 400 then (some (decide ((l1.length : Int) ≤ 100))) else (some false)) else (some false))) = some r := by rw [if_pos rfl] at H; exact H
  clear H
  have H := H1
  clear H1
  replace H := Option.bind_eq_some_iff.mp H
  obtain ⟨t223, A60, H⟩ := H
  replace H : (if t223 = 0 then (if a2 ≤ 400 then (some (decide ((l1.length : Int) ≤ 100))) else (some false)) else (some false)) = some r := H
  have A6 := As0 A60
  clear A60
  by_cases c7 : t223 = 0
  ·rw [if_pos c7] at H
   have c7b0 : (t223 == 0) = true := beq_iff_eq.mpr c7
   have c7b1 : (t223 != 0) = false := bne_eq_false_iff_eq.mpr c7
   clear c7
   by_cases c8 : a2 ≤ 400
   ·rw [if_pos c8] at H
    have c8b0 : decide (a2 ≤ 400) = true := decide_eq_true c8
    clear c8
    obtain rfl := Option.some.inj H
    go_enter Try.func30, Try.ntmps30
    go_wp2_with (first | ((with_reducible refine gate_dst (N := 3) rfl ?_); (try (refine gate_guard (by rfl) ?_; dsimp only)); refine box_event ?hg (N := 3) ?hd (cs := #[.int .i64 a0_0, .int .i64 a0_1, .slice A0_2 l0_2.length c0_2]) (t := 34) ?hr ?_; (case hd => rfl); (case hg => rfl); (case hr => first | (go_simp; done) | (go_simp; rfl)); intro gb221 hg w9 hbox hb; have n0_ := As0 (below_step (by repeat (first | (with_reducible first | exact HB.out | apply below_alloc | apply bdN | apply bd1) | exact HB.out)) hb); have n1_ := As0 (hbox); have n2_ := As0 ((by rw [hg]; exact (below_size (by repeat (first | (with_reducible first | exact HB.out | apply below_alloc | apply bdN | apply bd1) | exact HB.out))) : w.heap.size ≤ gb221)); have n3_ := As0 ((by rw [hg]; exact (below_size (by repeat (first | (with_reducible first | exact HB.out | apply below_alloc | apply bdN | apply bd1) | exact HB.out))) : w.heap.size ≤ gb221)); clear HB; have HB := n0_; have BK221 := n1_; have GW221 := n2_; have GE221 := n3_; clear n0_ n1_ n2_ n3_; clear hb hbox hg; have hcz10_0 : w9.cell? ⟨gb221, 0, none⟩ = some (.int .i64 a0_0) := (blk_cell BK221.out 0).trans rfl; have hcz10_1 : w9.cell? ⟨gb221, 1, none⟩ = some (.int .i64 a0_1) := (blk_cell BK221.out 1).trans rfl; have hcz10_2 : w9.cell? ⟨gb221, 2, none⟩ = some (.slice A0_2 l0_2.length c0_2) := (blk_cell BK221.out 2).trans rfl; have hfz10_0 := blk_frozen BK221.out 0; have hfz10_1 := blk_frozen BK221.out 1; have hfz10_2 := blk_frozen BK221.out 2) | ((with_reducible refine gate_callee (f := 35) rfl ?_); refine goesL_ (some 8) rfl rfl Try.func35 (by kernel_rfl) rfl #[.agg #[.int .i64 a0_0, .int .i64 a0_1, .slice A0_2 l0_2.length c0_2]] rfl (by (try simp only [List.map_toArray, List.map_cons, List.map_nil]); first | done | rfl | (simp only [List.length_drop, List.length_take]; rfl)) ?_; (with_reducible refine (regcertref07_Few.calls k a0_0 a0_1 _ _ l0_2 true _ ?side1 ?side2 A4.out).mono ?_); (case side1 => repeat (first | exact (Kd.C_below HR0_2.out HB.out) | (with_reducible refine Kd.C_alloc ?_ _) | (with_reducible refine Kd.C_drewN ?_ _) | (with_reducible refine Kd.C_drew ?_))); (case side2 => exact HC0_2.out); rintro e w11 ⟨rfl, hb⟩; refine ⟨_, rfl, ?_⟩; have n0_ := As0 (blk_below (g := gb221) (o := .cells #[.int .i64 a0_0, .int .i64 a0_1, .slice A0_2 l0_2.length c0_2] 34 (0, 0)) (by (with_reducible repeat (first | refine blk_drewN ?_ _ | refine blk_drew ?_ | refine blk_alloc ?_ _)); exact BK221.out) hb); have n1_ := As0 (below_step (by repeat (first | (with_reducible first | exact HB.out | apply below_alloc | apply bdN | apply bd1 | refine below_set ?_ GE221.out) | exact HB.out)) hb); clear BK221; clear HB; have BK221 := n0_; have HB := n1_; clear n0_ n1_; (try clear hb); (try clear hb2); (try clear hk); (try clear hi); have hcz12_0 : w11.cell? ⟨gb221, 0, none⟩ = some (.int .i64 a0_0) := (blk_cell BK221.out 0).trans rfl; have hcz12_1 : w11.cell? ⟨gb221, 1, none⟩ = some (.int .i64 a0_1) := (blk_cell BK221.out 1).trans rfl; have hcz12_2 : w11.cell? ⟨gb221, 2, none⟩ = some (.slice A0_2 l0_2.length c0_2) := (blk_cell BK221.out 2).trans rfl; have hfz12_0 := blk_frozen BK221.out 0; have hfz12_1 := blk_frozen BK221.out 1; have hfz12_2 := blk_frozen BK221.out 2) | (go_at_call 36; (with_reducible refine (regcertref07_Check.calls k a0_0 a0_1 _ _ l0_2 t223 _ ?side1 ?side2 A6.out).mono ?_); (case side1 => repeat (first | exact (Kd.C_below HR0_2.out HB.out) | (with_reducible refine Kd.C_alloc ?_ _) | (with_reducible refine Kd.C_drewN ?_ _) | (with_reducible refine Kd.C_drew ?_))); (case side2 => exact HC0_2.out); rintro e w13 ⟨rfl, hb⟩; have n0_ := As0 (blk_below (g := gb221) (o := .cells #[.int .i64 a0_0, .int .i64 a0_1, .slice A0_2 l0_2.length c0_2] 34 (0, 0)) (by (with_reducible repeat (first | refine blk_drewN ?_ _ | refine blk_drew ?_ | refine blk_alloc ?_ _)); exact BK221.out) hb); have n1_ := As0 (below_step (by repeat (first | (with_reducible first | exact HB.out | apply below_alloc | apply bdN | apply bd1 | refine below_set ?_ GE221.out) | exact HB.out)) hb); clear BK221; clear HB; have BK221 := n0_; have HB := n1_; clear n0_ n1_; (try clear hb); (try clear hb2); (try clear hk); (try clear hi)))
    go_ret
    exact ⟨by first | rfl | (simp [errW_none, errW_some] <;> rfl) | (simp [*, errW_none, errW_some] <;> rfl), by repeat (first | (with_reducible first | exact HB.out | apply below_alloc | apply bdN | apply bd1 | refine below_set ?_ GE221.out) | exact HB.out)⟩
   ·rw [if_neg c8] at H
    have c8b0 : decide (a2 ≤ 400) = false := decide_eq_false c8
    clear c8
    obtain rfl := Option.some.inj H
    go_enter Try.func30, Try.ntmps30
    go_wp2_with (first | ((with_reducible refine gate_dst (N := 3) rfl ?_); (try (refine gate_guard (by rfl) ?_; dsimp only)); refine box_event ?hg (N := 3) ?hd (cs := #[.int .i64 a0_0, .int .i64 a0_1, .slice A0_2 l0_2.length c0_2]) (t := 34) ?hr ?_; (case hd => rfl); (case hg => rfl); (case hr => first | (go_simp; done) | (go_simp; rfl)); intro gb221 hg w14 hbox hb; have n0_ := As0 (below_step (by repeat (first | (with_reducible first | exact HB.out | apply below_alloc | apply bdN | apply bd1) | exact HB.out)) hb); have n1_ := As0 (hbox); have n2_ := As0 ((by rw [hg]; exact (below_size (by repeat (first | (with_reducible first | exact HB.out | apply below_alloc | apply bdN | apply bd1) | exact HB.out))) : w.heap.size ≤ gb221)); have n3_ := As0 ((by rw [hg]; exact (below_size (by repeat (first | (with_reducible first | exact HB.out | apply below_alloc | apply bdN | apply bd1) | exact HB.out))) : w.heap.size ≤ gb221)); clear HB; have HB := n0_; have BK221 := n1_; have GW221 := n2_; have GE221 := n3_; clear n0_ n1_ n2_ n3_; clear hb hbox hg; have hcz15_0 : w14.cell? ⟨gb221, 0, none⟩ = some (.int .i64 a0_0) := (blk_cell BK221.out 0).trans rfl; have hcz15_1 : w14.cell? ⟨gb221, 1, none⟩ = some (.int .i64 a0_1) := (blk_cell BK221.out 1).trans rfl; have hcz15_2 : w14.cell? ⟨gb221, 2, none⟩ = some (.slice A0_2 l0_2.length c0_2) := (blk_cell BK221.out 2).trans rfl; have hfz15_0 := blk_frozen BK221.out 0; have hfz15_1 := blk_frozen BK221.out 1; have hfz15_2 := blk_frozen BK221.out 2) | ((with_reducible refine gate_callee (f := 35) rfl ?_); refine goesL_ (some 8) rfl rfl Try.func35 (by kernel_rfl) rfl #[.agg #[.int .i64 a0_0, .int .i64 a0_1, .slice A0_2 l0_2.length c0_2]] rfl (by (try simp only [List.map_toArray, List.map_cons, List.map_nil]); first | done | rfl | (simp only [List.length_drop, List.length_take]; rfl)) ?_; (with_reducible refine (regcertref07_Few.calls k a0_0 a0_1 _ _ l0_2 true _ ?side1 ?side2 A4.out).mono ?_); (case side1 => repeat (first | exact (Kd.C_below HR0_2.out HB.out) | (with_reducible refine Kd.C_alloc ?_ _) | (with_reducible refine Kd.C_drewN ?_ _) | (with_reducible refine Kd.C_drew ?_))); (case side2 => exact HC0_2.out); rintro e w16 ⟨rfl, hb⟩; refine ⟨_, rfl, ?_⟩; have n0_ := As0 (blk_below (g := gb221) (o := .cells #[.int .i64 a0_0, .int .i64 a0_1, .slice A0_2 l0_2.length c0_2] 34 (0, 0)) (by (with_reducible repeat (first | refine blk_drewN ?_ _ | refine blk_drew ?_ | refine blk_alloc ?_ _)); exact BK221.out) hb); have n1_ := As0 (below_step (by repeat (first | (with_reducible first | exact HB.out | apply below_alloc | apply bdN | apply bd1 | refine below_set ?_ GE221.out) | exact HB.out)) hb); clear BK221; clear HB; have BK221 := n0_; have HB := n1_; clear n0_ n1_; (try clear hb); (try clear hb2); (try clear hk); (try clear hi); have hcz17_0 : w16.cell? ⟨gb221, 0, none⟩ = some (.int .i64 a0_0) := (blk_cell BK221.out 0).trans rfl; have hcz17_1 : w16.cell? ⟨gb221, 1, none⟩ = some (.int .i64 a0_1) := (blk_cell BK221.out 1).trans rfl; have hcz17_2 : w16.cell? ⟨gb221, 2, none⟩ = some (.slice A0_2 l0_2.length c0_2) := (blk_cell BK221.out 2).trans rfl; have hfz17_0 := blk_frozen BK221.out 0; have hfz17_1 := blk_frozen BK221.out 1; have hfz17_2 := blk_frozen BK221.out 2) | (go_at_call 36; (with_reducible refine (regcertref07_Check.calls k a0_0 a0_1 _ _ l0_2 t223 _ ?side1 ?side2 A6.out).mono ?_); (case side1 => repeat (first | exact (Kd.C_below HR0_2.out HB.out) | (with_reducible refine Kd.C_alloc ?_ _) | (with_reducible refine Kd.C_drewN ?_ _) | (with_reducible refine Kd.C_drew ?_))); (case side2 => exact HC0_2.out); rintro e w18 ⟨rfl, hb⟩; have n0_ := As0 (blk_below (g := gb221) (o := .cells #[.int .i64 a0_0, .int .i64 a0_1, .slice A0_2 l0_2.length c0_2] 34 (0, 0)) (by (with_reducible repeat (first | refine blk_drewN ?_ _ | refine blk_drew ?_ | refine blk_alloc ?_ _)); exact BK221.out) hb); have n1_ := As0 (below_step (by repeat (first | (with_reducible first | exact HB.out | apply below_alloc | apply bdN | apply bd1 | refine below_set ?_ GE221.out) | exact HB.out)) hb); clear BK221; clear HB; have BK221 := n0_; have HB := n1_; clear n0_ n1_; (try clear hb); (try clear hb2); (try clear hk); (try clear hi)))
    go_ret
    exact ⟨by first | rfl | (simp [errW_none, errW_some] <;> rfl) | (simp [*, errW_none, errW_some] <;> rfl), by repeat (first | (with_reducible first | exact HB.out | apply below_alloc | apply bdN | apply bd1 | refine below_set ?_ GE221.out) | exact HB.out)⟩
  ·rw [if_neg c7] at H
   have c7b0 : (t223 == 0) = false := beq_eq_false_iff_ne.mpr c7
   have c7b1 : (t223 != 0) = true := bne_iff_ne.mpr c7
   obtain rfl := Option.some.inj H
   go_enter Try.func30, Try.ntmps30
   go_wp2_with (first | ((with_reducible refine gate_dst (N := 3) rfl ?_); (try (refine gate_guard (by rfl) ?_; dsimp only)); refine box_event ?hg (N := 3) ?hd (cs := #[.int .i64 a0_0, .int .i64 a0_1, .slice A0_2 l0_2.length c0_2]) (t := 34) ?hr ?_; (case hd => rfl); (case hg => rfl); (case hr => first | (go_simp; done) | (go_simp; rfl)); intro gb221 hg w19 hbox hb; have n0_ := As0 (below_step (by repeat (first | (with_reducible first | exact HB.out | apply below_alloc | apply bdN | apply bd1) | exact HB.out)) hb); have n1_ := As0 (hbox); have n2_ := As0 ((by rw [hg]; exact (below_size (by repeat (first | (with_reducible first | exact HB.out | apply below_alloc | apply bdN | apply bd1) | exact HB.out))) : w.heap.size ≤ gb221)); have n3_ := As0 ((by rw [hg]; exact (below_size (by repeat (first | (with_reducible first | exact HB.out | apply below_alloc | apply bdN | apply bd1) | exact HB.out))) : w.heap.size ≤ gb221)); clear HB; have HB := n0_; have BK221 := n1_; have GW221 := n2_; have GE221 := n3_; clear n0_ n1_ n2_ n3_; clear hb hbox hg; have hcz20_0 : w19.cell? ⟨gb221, 0, none⟩ = some (.int .i64 a0_0) := (blk_cell BK221.out 0).trans rfl; have hcz20_1 : w19.cell? ⟨gb221, 1, none⟩ = some (.int .i64 a0_1) := (blk_cell BK221.out 1).trans rfl; have hcz20_2 : w19.cell? ⟨gb221, 2, none⟩ = some (.slice A0_2 l0_2.length c0_2) := (blk_cell BK221.out 2).trans rfl; have hfz20_0 := blk_frozen BK221.out 0; have hfz20_1 := blk_frozen BK221.out 1; have hfz20_2 := blk_frozen BK221.out 2) | ((with_reducible refine gate_callee (f := 35) rfl ?_); refine goesL_ (some 8) rfl rfl Try.func35 (by kernel_rfl) rfl #[.agg #[.int .i64 a0_0, .int .i64 a0_1, .slice A0_2 l0_2.length c0_2]] rfl (by (try simp only [List.map_toArray, List.map_cons, List.map_nil]); first | done | rfl | (simp only [List.length_drop, List.length_take]; rfl)) ?_; (with_reducible refine (regcertref07_Few.calls k a0_0 a0_1 _ _ l0_2 true _ ?side1 ?side2 A4.out).mono ?_); (case side1 => repeat (first | exact (Kd.C_below HR0_2.out HB.out) | (with_reducible refine Kd.C_alloc ?_ _) | (with_reducible refine Kd.C_drewN ?_ _) | (with_reducible refine Kd.C_drew ?_))); (case side2 => exact HC0_2.out); rintro e w21 ⟨rfl, hb⟩; refine ⟨_, rfl, ?_⟩; have n0_ := As0 (blk_below (g := gb221) (o := .cells #[.int .i64 a0_0, .int .i64 a0_1, .slice A0_2 l0_2.length c0_2] 34 (0, 0)) (by (with_reducible repeat (first | refine blk_drewN ?_ _ | refine blk_drew ?_ | refine blk_alloc ?_ _)); exact BK221.out) hb); have n1_ := As0 (below_step (by repeat (first | (with_reducible first | exact HB.out | apply below_alloc | apply bdN | apply bd1 | refine below_set ?_ GE221.out) | exact HB.out)) hb); clear BK221; clear HB; have BK221 := n0_; have HB := n1_; clear n0_ n1_; (try clear hb); (try clear hb2); (try clear hk); (try clear hi); have hcz22_0 : w21.cell? ⟨gb221, 0, none⟩ = some (.int .i64 a0_0) := (blk_cell BK221.out 0).trans rfl; have hcz22_1 : w21.cell? ⟨gb221, 1, none⟩ = some (.int .i64 a0_1) := (blk_cell BK221.out 1).trans rfl; have hcz22_2 : w21.cell? ⟨gb221, 2, none⟩ = some (.slice A0_2 l0_2.length c0_2) := (blk_cell BK221.out 2).trans rfl; have hfz22_0 := blk_frozen BK221.out 0; have hfz22_1 := blk_frozen BK221.out 1; have hfz22_2 := blk_frozen BK221.out 2) | (go_at_call 36; (with_reducible refine (regcertref07_Check.calls k a0_0 a0_1 _ _ l0_2 t223 _ ?side1 ?side2 A6.out).mono ?_); (case side1 => repeat (first | exact (Kd.C_below HR0_2.out HB.out) | (with_reducible refine Kd.C_alloc ?_ _) | (with_reducible refine Kd.C_drewN ?_ _) | (with_reducible refine Kd.C_drew ?_))); (case side2 => exact HC0_2.out); rintro e w23 ⟨rfl, hb⟩; have n0_ := As0 (blk_below (g := gb221) (o := .cells #[.int .i64 a0_0, .int .i64 a0_1, .slice A0_2 l0_2.length c0_2] 34 (0, 0)) (by (with_reducible repeat (first | refine blk_drewN ?_ _ | refine blk_drew ?_ | refine blk_alloc ?_ _)); exact BK221.out) hb); have n1_ := As0 (below_step (by repeat (first | (with_reducible first | exact HB.out | apply below_alloc | apply bdN | apply bd1 | refine below_set ?_ GE221.out) | exact HB.out)) hb); clear BK221; clear HB; have BK221 := n0_; have HB := n1_; clear n0_ n1_; (try clear hb); (try clear hb2); (try clear hk); (try clear hi)))
   go_ret
   exact ⟨by first | rfl | (simp [errW_none, errW_some] <;> rfl) | (simp [*, errW_none, errW_some] <;> rfl), by repeat (first | (with_reducible first | exact HB.out | apply below_alloc | apply bdN | apply bd1 | refine below_set ?_ GE221.out) | exact HB.out)⟩
 ·replace c5 := Bool.eq_false_iff.mpr c5
  subst c5
  have H1 : (some false) = some r := by rw [if_neg (show ¬ (false = true) by decide)] at H; exact H
  clear H
  have H := H1
  clear H1
  obtain rfl := Option.some.inj H
  go_enter Try.func30, Try.ntmps30
  go_wp2_with (first | ((with_reducible refine gate_dst (N := 3) rfl ?_); (try (refine gate_guard (by rfl) ?_; dsimp only)); refine box_event ?hg (N := 3) ?hd (cs := #[.int .i64 a0_0, .int .i64 a0_1, .slice A0_2 l0_2.length c0_2]) (t := 34) ?hr ?_; (case hd => rfl); (case hg => rfl); (case hr => first | (go_simp; done) | (go_simp; rfl)); intro gb221 hg w24 hbox hb; have n0_ := As0 (below_step (by repeat (first | (with_reducible first | exact HB.out | apply below_alloc | apply bdN | apply bd1) | exact HB.out)) hb); have n1_ := As0 (hbox); have n2_ := As0 ((by rw [hg]; exact (below_size (by repeat (first | (with_reducible first | exact HB.out | apply below_alloc | apply bdN | apply bd1) | exact HB.out))) : w.heap.size ≤ gb221)); have n3_ := As0 ((by rw [hg]; exact (below_size (by repeat (first | (with_reducible first | exact HB.out | apply below_alloc | apply bdN | apply bd1) | exact HB.out))) : w.heap.size ≤ gb221)); clear HB; have HB := n0_; have BK221 := n1_; have GW221 := n2_; have GE221 := n3_; clear n0_ n1_ n2_ n3_; clear hb hbox hg; have hcz25_0 : w24.cell? ⟨gb221, 0, none⟩ = some (.int .i64 a0_0) := (blk_cell BK221.out 0).trans rfl; have hcz25_1 : w24.cell? ⟨gb221, 1, none⟩ = some (.int .i64 a0_1) := (blk_cell BK221.out 1).trans rfl; have hcz25_2 : w24.cell? ⟨gb221, 2, none⟩ = some (.slice A0_2 l0_2.length c0_2) := (blk_cell BK221.out 2).trans rfl; have hfz25_0 := blk_frozen BK221.out 0; have hfz25_1 := blk_frozen BK221.out 1; have hfz25_2 := blk_frozen BK221.out 2) | ((with_reducible refine gate_callee (f := 35) rfl ?_); refine goesL_ (some 8) rfl rfl Try.func35 (by kernel_rfl) rfl #[.agg #[.int .i64 a0_0, .int .i64 a0_1, .slice A0_2 l0_2.length c0_2]] rfl (by (try simp only [List.map_toArray, List.map_cons, List.map_nil]); first | done | rfl | (simp only [List.length_drop, List.length_take]; rfl)) ?_; (with_reducible refine (regcertref07_Few.calls k a0_0 a0_1 _ _ l0_2 false _ ?side1 ?side2 A4.out).mono ?_); (case side1 => repeat (first | exact (Kd.C_below HR0_2.out HB.out) | (with_reducible refine Kd.C_alloc ?_ _) | (with_reducible refine Kd.C_drewN ?_ _) | (with_reducible refine Kd.C_drew ?_))); (case side2 => exact HC0_2.out); rintro e w26 ⟨rfl, hb⟩; refine ⟨_, rfl, ?_⟩; have n0_ := As0 (blk_below (g := gb221) (o := .cells #[.int .i64 a0_0, .int .i64 a0_1, .slice A0_2 l0_2.length c0_2] 34 (0, 0)) (by (with_reducible repeat (first | refine blk_drewN ?_ _ | refine blk_drew ?_ | refine blk_alloc ?_ _)); exact BK221.out) hb); have n1_ := As0 (below_step (by repeat (first | (with_reducible first | exact HB.out | apply below_alloc | apply bdN | apply bd1 | refine below_set ?_ GE221.out) | exact HB.out)) hb); clear BK221; clear HB; have BK221 := n0_; have HB := n1_; clear n0_ n1_; (try clear hb); (try clear hb2); (try clear hk); (try clear hi)))
  go_ret
  exact ⟨by first | rfl | (simp [errW_none, errW_some] <;> rfl) | (simp [*, errW_none, errW_some] <;> rfl), by repeat (first | (with_reducible first | exact HB.out | apply below_alloc | apply bdN | apply bd1 | refine below_set ?_ GE221.out) | exact HB.out)⟩

/-! ### regcertref09_Same: function 33 -/
def regcertref09_Same.f (k : Nat) (a0_0 : Int) (a0_1 : Int) (a0_2 : Int) (a0_3 : Int) (l0_4 : List Int) (l0_5 : List Int) (l0_6 : List Int) (a0_7 : Int) (a1_0 : Int) (a1_1 : Int) (a1_2 : Int) (a1_3 : Int) (l1_4 : List Int) (l1_5 : List Int) (l1_6 : List Int) (a1_7 : Int) : Option (Bool) := if a0_0 = a1_0 then (if a0_1 = a1_1 then (if a0_2 = a1_2 then (if a0_3 = a1_3 then (if a0_7 = a1_7 then ((regcertref09_Values.f k l0_4 l1_4).bind fun t226 => (if t226 = true then ((regcertref09_Values.f k l0_5 l1_5).bind fun t227 => (if t227 = true then ((regcertref09_Values.f k l0_6 l1_6).bind fun t228 => (some t228)) else (none))) else (none))) else (none)) else (none)) else (none)) else (none)) else (none)
theorem regcertref09_Same.mono : ∀ a0 a1 a2 a3 a4 a5 a6 a7 a8 a9 a10 a11 a12 a13 a14 a15 k, LeO (regcertref09_Same.f k a0 a1 a2 a3 a4 a5 a6 a7 a8 a9 a10 a11 a12 a13 a14 a15) (regcertref09_Same.f (k + 1) a0 a1 a2 a3 a4 a5 a6 a7 a8 a9 a10 a11 a12 a13 a14 a15) := by
 intro a0 a1 a2 a3 a4 a5 a6 a7 a8 a9 a10 a11 a12 a13 a14 a15 k
 unfold regcertref09_Same.f
 repeat' first
   | (with_reducible exact regcertref09_Values.mono _ _ _)
   | (with_reducible exact LeO.refl _)
   | (with_reducible exact LeO.none _)
   | (with_reducible refine LeO.ite ?_ ?_)
   | (with_reducible refine LeO.bind ?_ (fun _ => ?_))
   | exact regcertref09_Values.mono _ _ _
   | exact LeO.none _
   | refine LeO.ite ?_ ?_
   | refine LeO.bind ?_ (fun _ => ?_)
set_option maxHeartbeats 8000000 in
set_option maxRecDepth 100000 in
theorem regcertref09_Same.calls (k : Nat) (a0_0 : Int) (a0_1 : Int) (a0_2 : Int) (a0_3 : Int) (A0_4 : Option Addr) (c0_4 : Nat) (l0_4 : List Int) (A0_5 : Option Addr) (c0_5 : Nat) (l0_5 : List Int) (A0_6 : Option Addr) (c0_6 : Nat) (l0_6 : List Int) (a0_7 : Int) (a1_0 : Int) (a1_1 : Int) (a1_2 : Int) (a1_3 : Int) (A1_4 : Option Addr) (c1_4 : Nat) (l1_4 : List Int) (A1_5 : Option Addr) (c1_5 : Nat) (l1_5 : List Int) (A1_6 : Option Addr) (c1_6 : Nat) (l1_6 : List Int) (a1_7 : Int) (r : Bool) (w : World) (hr0_4 : Kd.C (Kd.int .i64) w A0_4 l0_4.length l0_4) (hc0_4 : l0_4.length ≤ c0_4) (hr0_5 : Kd.C (Kd.int .i64) w A0_5 l0_5.length l0_5) (hc0_5 : l0_5.length ≤ c0_5) (hr0_6 : Kd.C (Kd.int .i64) w A0_6 l0_6.length l0_6) (hc0_6 : l0_6.length ≤ c0_6) (hr1_4 : Kd.C (Kd.int .i64) w A1_4 l1_4.length l1_4) (hc1_4 : l1_4.length ≤ c1_4) (hr1_5 : Kd.C (Kd.int .i64) w A1_5 l1_5.length l1_5) (hc1_5 : l1_5.length ≤ c1_5) (hr1_6 : Kd.C (Kd.int .i64) w A1_6 l1_6.length l1_6) (hc1_6 : l1_6.length ≤ c1_6) (h : regcertref09_Same.f k a0_0 a0_1 a0_2 a0_3 l0_4 l0_5 l0_6 a0_7 a1_0 a1_1 a1_2 a1_3 l1_4 l1_5 l1_6 a1_7 = some r) :
  Calls Try.prog 33 #[.agg #[.int .i64 a0_0, .int .i64 a0_1, .int .i64 a0_2, .int .i64 a0_3, .slice A0_4 l0_4.length c0_4, .slice A0_5 l0_5.length c0_5, .slice A0_6 l0_6.length c0_6, .int .i64 a0_7], .agg #[.int .i64 a1_0, .int .i64 a1_1, .int .i64 a1_2, .int .i64 a1_3, .slice A1_4 l1_4.length c1_4, .slice A1_5 l1_5.length c1_5, .slice A1_6 l1_6.length c1_6, .int .i64 a1_7]] w fun e w' => e = .returned (.bool r) ∧ Below w.heap.size w w' := by
 have hu39 := Try.underlying39
 have HR0_4 := As0 hr0_4
 have HC0_4 := As0 hc0_4
 clear hr0_4 hc0_4
 have HR0_5 := As0 hr0_5
 have HC0_5 := As0 hc0_5
 clear hr0_5 hc0_5
 have HR0_6 := As0 hr0_6
 have HC0_6 := As0 hc0_6
 clear hr0_6 hc0_6
 have HR1_4 := As0 hr1_4
 have HC1_4 := As0 hc1_4
 clear hr1_4 hc1_4
 have HR1_5 := As0 hr1_5
 have HC1_5 := As0 hc1_5
 clear hr1_5 hc1_5
 have HR1_6 := As0 hr1_6
 have HC1_6 := As0 hc1_6
 clear hr1_6 hc1_6
 have HB := As0 (Below.refl w.heap.size w)
 have H : (if a0_0 = a1_0 then (if a0_1 = a1_1 then (if a0_2 = a1_2 then (if a0_3 = a1_3 then (if a0_7 = a1_7 then ((regcertref09_Values.f k l0_4 l1_4).bind fun t226 => (if t226 = true then ((regcertref09_Values.f k l0_5 l1_5).bind fun t227 => (if t227 = true then ((regcertref09_Values.f k l0_6 l1_6).bind fun t228 => (some t228)) else (none))) else (none))) else (none)) else (none)) else (none)) else (none)) else (none)) = some r := h
 clear h
 by_cases c3 : a0_0 = a1_0
 ·rw [if_pos c3] at H
  have c3b0 : (a0_0 == a1_0) = true := beq_iff_eq.mpr c3
  have c3b1 : (a0_0 != a1_0) = false := bne_eq_false_iff_eq.mpr c3
  clear c3
  by_cases c4 : a0_1 = a1_1
  ·rw [if_pos c4] at H
   have c4b0 : (a0_1 == a1_1) = true := beq_iff_eq.mpr c4
   have c4b1 : (a0_1 != a1_1) = false := bne_eq_false_iff_eq.mpr c4
   clear c4
   by_cases c5 : a0_2 = a1_2
   ·rw [if_pos c5] at H
    have c5b0 : (a0_2 == a1_2) = true := beq_iff_eq.mpr c5
    have c5b1 : (a0_2 != a1_2) = false := bne_eq_false_iff_eq.mpr c5
    clear c5
    by_cases c6 : a0_3 = a1_3
    ·rw [if_pos c6] at H
     have c6b0 : (a0_3 == a1_3) = true := beq_iff_eq.mpr c6
     have c6b1 : (a0_3 != a1_3) = false := bne_eq_false_iff_eq.mpr c6
     clear c6
     by_cases c7 : a0_7 = a1_7
     ·rw [if_pos c7] at H
      have c7b0 : (a0_7 == a1_7) = true := beq_iff_eq.mpr c7
      have c7b1 : (a0_7 != a1_7) = false := bne_eq_false_iff_eq.mpr c7
      clear c7
      replace H := Option.bind_eq_some_iff.mp H
      obtain ⟨t226, A80, H⟩ := H
      replace H : (if t226 = true then ((regcertref09_Values.f k l0_5 l1_5).bind fun t227 => (if t227 = true then ((regcertref09_Values.f k l0_6 l1_6).bind fun t228 => (some t228)) else (none))) else (none)) = some r := H
      have A8 := As0 A80
      clear A80
      by_cases c9 : t226 = true
      ·subst c9
       have H1 : ((regcertref09_Values.f k l0_5 l1_5).bind fun t227 => (if t227 = true then ((regcertref09_Values.f k l0_6 l1_6).bind fun t228 => (some t228)) else (none))) = some r := by rw [if_pos rfl] at H; exact H
       clear H
       have H := H1
       clear H1
       replace H := Option.bind_eq_some_iff.mp H
       obtain ⟨t227, A100, H⟩ := H
       replace H : (if t227 = true then ((regcertref09_Values.f k l0_6 l1_6).bind fun t228 => (some t228)) else (none)) = some r := H
       have A10 := As0 A100
       clear A100
       by_cases c11 : t227 = true
       ·subst c11
        have H1 : ((regcertref09_Values.f k l0_6 l1_6).bind fun t228 => (some t228)) = some r := by rw [if_pos rfl] at H; exact H
        clear H
        have H := H1
        clear H1
        replace H := Option.bind_eq_some_iff.mp H
        obtain ⟨t228, A120, H⟩ := H
        replace H : (some t228) = some r := H
        have A12 := As0 A120
        clear A120
        obtain rfl := Option.some.inj H
        go_enter Try.func33, Try.ntmps33
        go_wp2_with (first | ((with_reducible refine gate_dst (N := 2) rfl ?_); refine box_event ?hg (N := 2) ?hd (cs := #[.int .i64 a0_0, .int .i64 a0_1, .int .i64 a0_2, .int .i64 a0_3, .slice A0_4 l0_4.length c0_4, .slice A0_5 l0_5.length c0_5, .slice A0_6 l0_6.length c0_6, .int .i64 a0_7]) (t := 39) ?hr ?_; (case hd => rfl); (case hg => rfl); (case hr => first | (go_simp; done) | (go_simp; rfl)); intro gb224 hg w13 hbox hb; have n0_ := As0 (below_step (by repeat (first | (with_reducible first | exact HB.out | apply below_alloc | apply bdN | apply bd1) | exact HB.out)) hb); have n1_ := As0 (hbox); have n2_ := As0 ((by rw [hg]; exact (below_size (by repeat (first | (with_reducible first | exact HB.out | apply below_alloc | apply bdN | apply bd1) | exact HB.out))) : w.heap.size ≤ gb224)); have n3_ := As0 ((by rw [hg]; exact (below_size (by repeat (first | (with_reducible first | exact HB.out | apply below_alloc | apply bdN | apply bd1) | exact HB.out))) : w.heap.size ≤ gb224)); clear HB; have HB := n0_; have BK224 := n1_; have GW224 := n2_; have GE224 := n3_; clear n0_ n1_ n2_ n3_; clear hb hbox hg) | ((with_reducible refine gate_dst (N := 3) rfl ?_); refine box_event ?hg (N := 3) ?hd (cs := #[.int .i64 a1_0, .int .i64 a1_1, .int .i64 a1_2, .int .i64 a1_3, .slice A1_4 l1_4.length c1_4, .slice A1_5 l1_5.length c1_5, .slice A1_6 l1_6.length c1_6, .int .i64 a1_7]) (t := 39) ?hr ?_; (case hd => rfl); (case hg => rfl); (case hr => first | (go_simp; done) | (go_simp; rfl)); intro gb225 hg w14 hbox hb; have n0_ := As0 (blk_below (g := gb224) (o := .cells #[.int .i64 a0_0, .int .i64 a0_1, .int .i64 a0_2, .int .i64 a0_3, .slice A0_4 l0_4.length c0_4, .slice A0_5 l0_5.length c0_5, .slice A0_6 l0_6.length c0_6, .int .i64 a0_7] 39 (0, 0)) (by (with_reducible repeat (first | refine blk_drewN ?_ _ | refine blk_drew ?_ | refine blk_alloc ?_ _)); exact BK224.out) hb); have n1_ := As0 (below_step (by repeat (first | (with_reducible first | exact HB.out | apply below_alloc | apply bdN | apply bd1 | refine below_set ?_ GE224.out) | exact HB.out)) hb); have n2_ := As0 (hbox); have n3_ := As0 ((by rw [hg]; exact (below_size (by repeat (first | (with_reducible first | exact HB.out | apply below_alloc | apply bdN | apply bd1 | refine below_set ?_ GE224.out) | exact HB.out))) : w.heap.size ≤ gb225)); have n4_ := As0 ((by rw [hg]; exact (below_size (by repeat (first | (with_reducible first | exact HB.out | apply below_alloc | apply bdN | apply bd1 | refine below_set ?_ GE224.out) | exact HB.out))) : w.heap.size ≤ gb225)); have n5_ := As0 ((by rw [hg]; exact Nat.ne_of_lt (blk_lt (g := gb224) (o := .cells #[.int .i64 a0_0, .int .i64 a0_1, .int .i64 a0_2, .int .i64 a0_3, .slice A0_4 l0_4.length c0_4, .slice A0_5 l0_5.length c0_5, .slice A0_6 l0_6.length c0_6, .int .i64 a0_7] 39 (0, 0)) (by (with_reducible repeat (first | refine blk_drewN ?_ _ | refine blk_drew ?_ | refine blk_alloc ?_ _)); exact BK224.out)) : gb224 ≠ gb225)); have n6_ := As0 ((by rw [hg]; exact Nat.ne_of_gt (blk_lt (g := gb224) (o := .cells #[.int .i64 a0_0, .int .i64 a0_1, .int .i64 a0_2, .int .i64 a0_3, .slice A0_4 l0_4.length c0_4, .slice A0_5 l0_5.length c0_5, .slice A0_6 l0_6.length c0_6, .int .i64 a0_7] 39 (0, 0)) (by (with_reducible repeat (first | refine blk_drewN ?_ _ | refine blk_drew ?_ | refine blk_alloc ?_ _)); exact BK224.out)) : gb225 ≠ gb224)); clear BK224; clear HB; have BK224 := n0_; have HB := n1_; have BK225 := n2_; have GW225 := n3_; have GE225 := n4_; have NB224_225 := n5_; have NB225_224 := n6_; clear n0_ n1_ n2_ n3_ n4_ n5_ n6_; clear hb hbox hg; have hnb15 := NB224_225.out; have hnc15 := NB225_224.out; have hcz16_0 : w14.cell? ⟨gb224, 0, none⟩ = some (.int .i64 a0_0) := (blk_cell BK224.out 0).trans rfl; have hcz16_1 : w14.cell? ⟨gb224, 1, none⟩ = some (.int .i64 a0_1) := (blk_cell BK224.out 1).trans rfl; have hcz16_2 : w14.cell? ⟨gb224, 2, none⟩ = some (.int .i64 a0_2) := (blk_cell BK224.out 2).trans rfl; have hcz16_3 : w14.cell? ⟨gb224, 3, none⟩ = some (.int .i64 a0_3) := (blk_cell BK224.out 3).trans rfl; have hcz16_4 : w14.cell? ⟨gb224, 4, none⟩ = some (.slice A0_4 l0_4.length c0_4) := (blk_cell BK224.out 4).trans rfl; have hcz16_5 : w14.cell? ⟨gb224, 5, none⟩ = some (.slice A0_5 l0_5.length c0_5) := (blk_cell BK224.out 5).trans rfl; have hcz16_6 : w14.cell? ⟨gb224, 6, none⟩ = some (.slice A0_6 l0_6.length c0_6) := (blk_cell BK224.out 6).trans rfl; have hcz16_7 : w14.cell? ⟨gb224, 7, none⟩ = some (.int .i64 a0_7) := (blk_cell BK224.out 7).trans rfl; have hfz16_0 := blk_frozen BK224.out 0; have hfz16_1 := blk_frozen BK224.out 1; have hfz16_2 := blk_frozen BK224.out 2; have hfz16_3 := blk_frozen BK224.out 3; have hfz16_4 := blk_frozen BK224.out 4; have hfz16_5 := blk_frozen BK224.out 5; have hfz16_6 := blk_frozen BK224.out 6; have hfz16_7 := blk_frozen BK224.out 7; have hcz17_0 : w14.cell? ⟨gb225, 0, none⟩ = some (.int .i64 a1_0) := (blk_cell BK225.out 0).trans rfl; have hcz17_1 : w14.cell? ⟨gb225, 1, none⟩ = some (.int .i64 a1_1) := (blk_cell BK225.out 1).trans rfl; have hcz17_2 : w14.cell? ⟨gb225, 2, none⟩ = some (.int .i64 a1_2) := (blk_cell BK225.out 2).trans rfl; have hcz17_3 : w14.cell? ⟨gb225, 3, none⟩ = some (.int .i64 a1_3) := (blk_cell BK225.out 3).trans rfl; have hcz17_4 : w14.cell? ⟨gb225, 4, none⟩ = some (.slice A1_4 l1_4.length c1_4) := (blk_cell BK225.out 4).trans rfl; have hcz17_5 : w14.cell? ⟨gb225, 5, none⟩ = some (.slice A1_5 l1_5.length c1_5) := (blk_cell BK225.out 5).trans rfl; have hcz17_6 : w14.cell? ⟨gb225, 6, none⟩ = some (.slice A1_6 l1_6.length c1_6) := (blk_cell BK225.out 6).trans rfl; have hcz17_7 : w14.cell? ⟨gb225, 7, none⟩ = some (.int .i64 a1_7) := (blk_cell BK225.out 7).trans rfl; have hfz17_0 := blk_frozen BK225.out 0; have hfz17_1 := blk_frozen BK225.out 1; have hfz17_2 := blk_frozen BK225.out 2; have hfz17_3 := blk_frozen BK225.out 3; have hfz17_4 := blk_frozen BK225.out 4; have hfz17_5 := blk_frozen BK225.out 5; have hfz17_6 := blk_frozen BK225.out 6; have hfz17_7 := blk_frozen BK225.out 7) | (go_at_call 37; (with_reducible refine (regcertref09_Values.calls k _ _ l0_4 _ _ l1_4 true _ ?side1 ?side2 ?side3 ?side4 A8.out).mono ?_); (case side1 => repeat (first | exact (Kd.C_below HR0_4.out HB.out) | (with_reducible refine Kd.C_alloc ?_ _) | (with_reducible refine Kd.C_drewN ?_ _) | (with_reducible refine Kd.C_drew ?_))); (case side2 => exact HC0_4.out); (case side3 => repeat (first | exact (Kd.C_below HR1_4.out HB.out) | (with_reducible refine Kd.C_alloc ?_ _) | (with_reducible refine Kd.C_drewN ?_ _) | (with_reducible refine Kd.C_drew ?_))); (case side4 => exact HC1_4.out); rintro e w' ⟨rfl, ⟨nd, rfl⟩⟩) | (go_at_call 37; (with_reducible refine (regcertref09_Values.calls k _ _ l0_5 _ _ l1_5 true _ ?side1 ?side2 ?side3 ?side4 A10.out).mono ?_); (case side1 => repeat (first | exact (Kd.C_below HR0_5.out (by repeat (first | (with_reducible first | exact HB.out | apply below_alloc | apply bdN | apply bd1 | refine below_set ?_ GE224.out | refine below_set ?_ GE225.out) | exact HB.out))) | (with_reducible refine Kd.C_alloc ?_ _) | (with_reducible refine Kd.C_drewN ?_ _) | (with_reducible refine Kd.C_drew ?_))); (case side2 => exact HC0_5.out); (case side3 => repeat (first | exact (Kd.C_below HR1_5.out (by repeat (first | (with_reducible first | exact HB.out | apply below_alloc | apply bdN | apply bd1 | refine below_set ?_ GE224.out | refine below_set ?_ GE225.out) | exact HB.out))) | (with_reducible refine Kd.C_alloc ?_ _) | (with_reducible refine Kd.C_drewN ?_ _) | (with_reducible refine Kd.C_drew ?_))); (case side4 => exact HC1_5.out); rintro e w' ⟨rfl, ⟨nd, rfl⟩⟩) | (go_at_call 37; (with_reducible refine (regcertref09_Values.calls k _ _ l0_6 _ _ l1_6 t228 _ ?side1 ?side2 ?side3 ?side4 A12.out).mono ?_); (case side1 => repeat (first | exact (Kd.C_below HR0_6.out (by repeat (first | (with_reducible first | exact HB.out | apply below_alloc | apply bdN | apply bd1 | refine below_set ?_ GE224.out | refine below_set ?_ GE225.out) | exact HB.out))) | (with_reducible refine Kd.C_alloc ?_ _) | (with_reducible refine Kd.C_drewN ?_ _) | (with_reducible refine Kd.C_drew ?_))); (case side2 => exact HC0_6.out); (case side3 => repeat (first | exact (Kd.C_below HR1_6.out (by repeat (first | (with_reducible first | exact HB.out | apply below_alloc | apply bdN | apply bd1 | refine below_set ?_ GE224.out | refine below_set ?_ GE225.out) | exact HB.out))) | (with_reducible refine Kd.C_alloc ?_ _) | (with_reducible refine Kd.C_drewN ?_ _) | (with_reducible refine Kd.C_drew ?_))); (case side4 => exact HC1_6.out); rintro e w' ⟨rfl, ⟨nd, rfl⟩⟩))
        go_ret
        exact ⟨by first | rfl | (simp [errW_none, errW_some] <;> rfl) | (simp [*, errW_none, errW_some] <;> rfl), by repeat (first | (with_reducible first | exact HB.out | apply below_alloc | apply bdN | apply bd1 | refine below_set ?_ GE224.out | refine below_set ?_ GE225.out) | exact HB.out)⟩
       ·replace c11 := Bool.eq_false_iff.mpr c11
        subst c11
        have H1 : (none) = some r := by rw [if_neg (show ¬ (false = true) by decide)] at H; exact H
        clear H
        have H := H1
        clear H1
        exact absurd H (by simp)
      ·replace c9 := Bool.eq_false_iff.mpr c9
       subst c9
       have H1 : (none) = some r := by rw [if_neg (show ¬ (false = true) by decide)] at H; exact H
       clear H
       have H := H1
       clear H1
       exact absurd H (by simp)
     ·rw [if_neg c7] at H
      exact absurd H (by simp)
    ·rw [if_neg c6] at H
     exact absurd H (by simp)
   ·rw [if_neg c5] at H
    exact absurd H (by simp)
  ·rw [if_neg c4] at H
   exact absurd H (by simp)
 ·rw [if_neg c3] at H
  exact absurd H (by simp)

-- NOT PRINTED: function 67 (slices_Clone_int64_int64)

-- BY HAND: function 39 (interp_Step): Derived.Test.YtgkmagfajalnhaaYIStepE

-- BY HAND: function 40 (interp_Start): Derived.Test.YtgkmagfajalnhaaYIStart

end Go.Proofs.Ytgkmagfajalnhaa.Y
