-- Written by a program of this session (xprint), out of the translation. Not trusted: Lean checks it.
import Derived.Test.YtgkmagfajalnhaaTE0
import Derived.Test.YtgkmagfajalnhaaTEInstr
namespace Go.Proofs.Ytgkmagfajalnhaa.E
open Go.RowKit Go.Proofs.YtgkmagfajalnhaaW.PrintWords Go.Proofs.YtgkmagfajalnhaaW.PrintLast Go.Proofs.YtgkmagfajalnhaaW.PrintMore
attribute [local go_sem] max2_int min2_int max_two min_two max_three min_three max_four min_four   -- for this text's walks alone
set_option linter.unusedVariables false
set_option linter.unusedSimpArgs false

/-! ### regcertref08_Code: function 70 -/
def regcertref08_Code.l0 : Nat → Int → Int → Int → Int → Int → List (S69) → Option (Int)
 | 0, _, _, _, _, _, _ => none
 | k + 1, x3, x4, x200000, x200001, x200002, x200003 => if x4 < (x200003.length : Int) then (if 0 ≤ x4 then (regcertref08_Code.l0 k (wrap64 (x3 + (((rd_T69 x200003 x4).f0).length : Int))) (wrap64 (x4 + 1)) x200000 x200001 x200002 x200003) else (none)) else (some x3)
def regcertref08_Code.f (k : Nat) (a0_0 : Int) (a0_1 : Int) (a0_2 : Int) (l0_3 : List (S69)) : Option (Int) := regcertref08_Code.l0 k 0 0 a0_0 a0_1 a0_2 l0_3
theorem regcertref08_Code.mono_l : ∀ k, (∀ y0 y1 y2 y3 y4 y5, LeO (regcertref08_Code.l0 k y0 y1 y2 y3 y4 y5) (regcertref08_Code.l0 (k + 1) y0 y1 y2 y3 y4 y5))
 | 0 => fun _ _ _ _ _ _ r h => by simp [regcertref08_Code.l0] at h
 | k + 1 => by
  have ih0 := regcertref08_Code.mono_l k
  ·intro y0 y1 y2 y3 y4 y5
   unfold regcertref08_Code.l0
   repeat' first
   | (with_reducible exact ih0 _ _ _ _ _ _)
   | (with_reducible exact LeO.refl _)
   | (with_reducible exact LeO.none _)
   | (with_reducible refine LeO.ite ?_ ?_)
   | (with_reducible refine LeO.bind ?_ (fun _ => ?_))
   | exact ih0 _ _ _ _ _ _
   | exact LeO.none _
   | refine LeO.ite ?_ ?_
   | refine LeO.bind ?_ (fun _ => ?_)
theorem regcertref08_Code.mono : ∀ a0 a1 a2 a3 k, LeO (regcertref08_Code.f k a0 a1 a2 a3) (regcertref08_Code.f (k + 1) a0 a1 a2 a3) := by
 intro a0 a1 a2 a3 k
 have ih0 := regcertref08_Code.mono_l k
 unfold regcertref08_Code.f
 repeat' first
   | (with_reducible exact ih0 _ _ _ _ _ _)
   | (with_reducible exact LeO.refl _)
   | (with_reducible exact LeO.none _)
   | (with_reducible refine LeO.ite ?_ ?_)
   | (with_reducible refine LeO.bind ?_ (fun _ => ?_))
   | exact ih0 _ _ _ _ _ _
   | exact LeO.none _
   | refine LeO.ite ?_ ?_
   | refine LeO.bind ?_ (fun _ => ?_)
set_option maxHeartbeats 8000000 in
set_option maxRecDepth 100000 in
theorem regcertref08_Code.calls (k : Nat) (a0_0 : Int) (a0_1 : Int) (a0_2 : Int) (A0_3 : Option Addr) (c0_3 : Nat) (l0_3 : List (S69)) (r : Int) (w : World) (hr0_3 : Kd.C k69 w A0_3 l0_3.length l0_3) (hc0_3 : l0_3.length ≤ c0_3) (h : regcertref08_Code.f k a0_0 a0_1 a0_2 l0_3 = some r) :
  Calls Try.prog 70 #[.agg #[.int .i64 a0_0, .int .i64 a0_1, .int .i64 a0_2, .slice A0_3 l0_3.length c0_3]] w fun e w' => e = .returned (.int .i64 r) ∧ Below w.heap.size w w' := by
 have hu63 := Try.underlying63
 have HR0_3 := As0 hr0_3
 have HC0_3 := As0 hc0_3
 clear hr0_3 hc0_3
 have HB := As0 (Below.refl w.heap.size w)
 have H : (regcertref08_Code.l0 k 0 0 a0_0 a0_1 a0_2 l0_3) = some r := h
 clear h
 have H' := As0 H
 clear H
 go_enter Try.func70, Try.ntmps70
 go_wp2_with (first | ((with_reducible refine gate_dst (N := 1) rfl ?_); refine bX (N := 1) (cs := #[.int .i64 a0_0, .int .i64 a0_1, .int .i64 a0_2, .slice A0_3 l0_3.length c0_3]) (t := 63) ?_; intro gb199 hg w2 hbox hb; have BK199 := As0 (hbox); have GW199 := As0 ((by rw [hg]; exact (below_size (BU HB.out)) : w.heap.size ≤ gb199)); have GE199 := As0 ((by rw [hg]; exact (below_size (BU HB.out)) : w.heap.size ≤ gb199)); replace HB := As0 (below_step (BU HB.out) hb); clear hb hbox hg))
 go_loopg [3, 4] k (fun kq v3 v4 w' => ∃ (x3_1 : Int) (x4_1 : Int), v3 = .int .i64 x3_1 ∧ v4 = .int .i64 x4_1 ∧ Aside0 (regcertref08_Code.l0 kq x3_1 x4_1 a0_0 a0_1 a0_2 l0_3 = some r) ∧ Aside0 (kq ≤ k) ∧ Aside0 (w'.heap[gb199]? = some (.cells #[.int .i64 a0_0, .int .i64 a0_1, .int .i64 a0_2, (.slice A0_3 l0_3.length c0_3)] 63 (0, 0))) ∧ Aside0 (Below w.heap.size w w'))
 case atStart => exact ⟨(0), (0), (by first | rfl | (simp; done) | (simp [*]; done)), (by first | rfl | (simp; done) | (simp [*]; done)), H', ⟨Nat.le_refl _⟩, ⟨bU BK199.out⟩, ⟨BU HB.out⟩⟩
 case round =>
  clear H'
  try clear p2
  obtain ⟨x3_1, x4_1, rfl, rfl, HA, HK1, BK199, HB⟩ := hrel
  cases gk with
  | zero => exact absurd HA.out (by simp [regcertref08_Code.l0])
  | succ k1 =>
   have H := HA.out
   clear HA
   simp only [regcertref08_Code.l0] at H
   by_cases c3 : x4_1 < (l0_3.length : Int)
   rotate_left
   ·rw [if_neg c3] at H
    have c3b0 : decide (x4_1 < (l0_3.length : Int)) = false := decide_eq_false c3
    clear c3
    obtain rfl := Option.some.inj H
    obtain ⟨hcz6_0, hcz6_1, hcz6_2, hcz6_3, hfz6_0, hfz6_1, hfz6_2, hfz6_3⟩ := cN4 BK199.out
    go_wp2
    go_ret
    exact ⟨by first | rfl | (simp [errW_none, errW_some] <;> rfl) | (simp [*, errW_none, errW_some] <;> rfl), BU HB.out⟩
   rw [if_pos c3] at H
   have c3b0 : decide (x4_1 < (l0_3.length : Int)) = true := decide_eq_true c3
   clear c3
   by_cases c4 : 0 ≤ x4_1
   rotate_left
   ·rw [if_neg c4] at H
    exact absurd H (by simp)
   rw [if_pos c4] at H
   have c4b0 : decide (0 ≤ x4_1) = true := decide_eq_true c4
   clear c4
   have H' := As0 H
   clear H
   obtain ⟨hcz5_0, hcz5_1, hcz5_2, hcz5_3, hfz5_0, hfz5_1, hfz5_2, hfz5_3⟩ := cN4 BK199.out
   have p200 : 0 ≤ (x4_1 : Int) := of_decide_eq_true (by first | (with_reducible assumption) | assumption)
   have q200 : x4_1 < (l0_3.length : Int) := of_decide_eq_true (by first | (with_reducible assumption) | assumption)
   obtain ⟨ad200, A200_0, c200_0, e200, hx200_0, hx200_1, hx200_2, hx200_3, hx200_4, hl200_0, hi200_0⟩ := at_T69 HR0_3.out x4_1 p200 q200
   cases e200
   replace hx200_0 := (HB.out.cell (wblt w hx200_0)).trans hx200_0
   replace hx200_1 := (HB.out.cell (wblt w hx200_1)).trans hx200_1
   replace hx200_2 := (HB.out.cell (wblt w hx200_2)).trans hx200_2
   replace hx200_3 := (HB.out.cell (wblt w hx200_3)).trans hx200_3
   replace hx200_4 := (HB.out.cell (wblt w hx200_4)).trans hx200_4
   have HR200_0 := As0 hi200_0
   have HC200_0 := As0 hl200_0
   clear hi200_0 hl200_0
   replace p200 := eq_true p200
   replace q200 := eq_true q200
   go_wp2
   go_roundg k1
   case measure => have := HK1.out; omega
   case rel => exact ⟨(wrap64 (x3_1 + (((rd_T69 l0_3 x4_1).f0).length : Int))), (wrap64 (x4_1 + 1)), (by first | rfl | (simp; done) | (simp [*]; done)), (by first | rfl | (simp; done) | (simp [*]; done)), H', ⟨by have := HK1.out; omega⟩, ⟨bU BK199.out⟩, ⟨BU HB.out⟩⟩

/-! ### regcertref08_Few: function 48 -/
mutual
def regcertref08_Few.j0 : Nat → Bool → Int → Int → Int → List (S69) → Option (Bool)
 | 0, _, _, _, _, _ => none
 | k + 1, x17, x202000, x202001, x202002, x202003 => if x17 = true then (some false) else (regcertref08_Few.l0 k 0 x202000 x202001 x202002 x202003)
def regcertref08_Few.l0 : Nat → Int → Int → Int → Int → List (S69) → Option (Bool)
 | 0, _, _, _, _, _ => none
 | k + 1, x3, x202000, x202001, x202002, x202003 => if x3 < (x202003.length : Int) then (if 0 ≤ x3 then (if (((rd_T69 x202003 x3).f0).length : Int) > 300 then (some false) else (regcertref08_Few.l0 k (wrap64 (x3 + 1)) x202000 x202001 x202002 x202003)) else (none)) else ((regcertref08_Code.f k x202000 x202001 x202002 x202003).bind fun t202 => (some (decide (t202 ≤ 900))))
end
def regcertref08_Few.f (k : Nat) (a0_0 : Int) (a0_1 : Int) (a0_2 : Int) (l0_3 : List (S69)) : Option (Bool) := if (l0_3.length : Int) > 40 then (regcertref08_Few.j0 k true a0_0 a0_1 a0_2 l0_3) else (if a0_1 > 60 then (regcertref08_Few.j0 k true a0_0 a0_1 a0_2 l0_3) else (regcertref08_Few.j0 k (decide (a0_2 > 60)) a0_0 a0_1 a0_2 l0_3))
theorem regcertref08_Few.mono_l : ∀ k, (∀ y0 y1 y2 y3 y4, LeO (regcertref08_Few.j0 k y0 y1 y2 y3 y4) (regcertref08_Few.j0 (k + 1) y0 y1 y2 y3 y4)) ∧ (∀ y0 y1 y2 y3 y4, LeO (regcertref08_Few.l0 k y0 y1 y2 y3 y4) (regcertref08_Few.l0 (k + 1) y0 y1 y2 y3 y4))
 | 0 => ⟨fun _ _ _ _ _ r h => by simp [regcertref08_Few.j0] at h, fun _ _ _ _ _ r h => by simp [regcertref08_Few.l0] at h⟩
 | k + 1 => by
  obtain ⟨ih0, ih1⟩ := regcertref08_Few.mono_l k
  refine ⟨?_, ?_⟩
  ·intro y0 y1 y2 y3 y4
   unfold regcertref08_Few.j0
   repeat' first
   | (with_reducible exact ih0 _ _ _ _ _)
   | (with_reducible exact ih1 _ _ _ _ _)
   | (with_reducible exact regcertref08_Code.mono _ _ _ _ _)
   | (with_reducible exact LeO.refl _)
   | (with_reducible exact LeO.none _)
   | (with_reducible refine LeO.ite ?_ ?_)
   | (with_reducible refine LeO.bind ?_ (fun _ => ?_))
   | exact ih0 _ _ _ _ _
   | exact ih1 _ _ _ _ _
   | exact regcertref08_Code.mono _ _ _ _ _
   | exact LeO.none _
   | refine LeO.ite ?_ ?_
   | refine LeO.bind ?_ (fun _ => ?_)
  ·intro y0 y1 y2 y3 y4
   unfold regcertref08_Few.l0
   repeat' first
   | (with_reducible exact ih0 _ _ _ _ _)
   | (with_reducible exact ih1 _ _ _ _ _)
   | (with_reducible exact regcertref08_Code.mono _ _ _ _ _)
   | (with_reducible exact LeO.refl _)
   | (with_reducible exact LeO.none _)
   | (with_reducible refine LeO.ite ?_ ?_)
   | (with_reducible refine LeO.bind ?_ (fun _ => ?_))
   | exact ih0 _ _ _ _ _
   | exact ih1 _ _ _ _ _
   | exact regcertref08_Code.mono _ _ _ _ _
   | exact LeO.none _
   | refine LeO.ite ?_ ?_
   | refine LeO.bind ?_ (fun _ => ?_)
theorem regcertref08_Few.mono : ∀ a0 a1 a2 a3 k, LeO (regcertref08_Few.f k a0 a1 a2 a3) (regcertref08_Few.f (k + 1) a0 a1 a2 a3) := by
 intro a0 a1 a2 a3 k
 obtain ⟨ih0, ih1⟩ := regcertref08_Few.mono_l k
 unfold regcertref08_Few.f
 repeat' first
   | (with_reducible exact ih0 _ _ _ _ _)
   | (with_reducible exact ih1 _ _ _ _ _)
   | (with_reducible exact regcertref08_Code.mono _ _ _ _ _)
   | (with_reducible exact LeO.refl _)
   | (with_reducible exact LeO.none _)
   | (with_reducible refine LeO.ite ?_ ?_)
   | (with_reducible refine LeO.bind ?_ (fun _ => ?_))
   | exact ih0 _ _ _ _ _
   | exact ih1 _ _ _ _ _
   | exact regcertref08_Code.mono _ _ _ _ _
   | exact LeO.none _
   | refine LeO.ite ?_ ?_
   | refine LeO.bind ?_ (fun _ => ?_)
set_option maxHeartbeats 8000000 in
set_option maxRecDepth 100000 in
theorem regcertref08_Few.calls (k : Nat) (a0_0 : Int) (a0_1 : Int) (a0_2 : Int) (A0_3 : Option Addr) (c0_3 : Nat) (l0_3 : List (S69)) (r : Bool) (w : World) (hr0_3 : Kd.C k69 w A0_3 l0_3.length l0_3) (hc0_3 : l0_3.length ≤ c0_3) (h : regcertref08_Few.f k a0_0 a0_1 a0_2 l0_3 = some r) :
  Calls Try.prog 48 #[.agg #[.int .i64 a0_0, .int .i64 a0_1, .int .i64 a0_2, .slice A0_3 l0_3.length c0_3]] w fun e w' => e = .returned (.bool r) ∧ Below w.heap.size w w' := by
 have hu63 := Try.underlying63
 have HR0_3 := As0 hr0_3
 have HC0_3 := As0 hc0_3
 clear hr0_3 hc0_3
 have HB := As0 (Below.refl w.heap.size w)
 have H : (if (l0_3.length : Int) > 40 then (regcertref08_Few.j0 k true a0_0 a0_1 a0_2 l0_3) else (if a0_1 > 60 then (regcertref08_Few.j0 k true a0_0 a0_1 a0_2 l0_3) else (regcertref08_Few.j0 k (decide (a0_2 > 60)) a0_0 a0_1 a0_2 l0_3))) = some r := h
 clear h
 have HC2 := As0 H
 clear H
 go_enter Try.func48, Try.ntmps48
 go_upto_region 1 with (first | ((with_reducible refine gate_dst (N := 1) rfl ?_); refine bX (N := 1) (cs := #[.int .i64 a0_0, .int .i64 a0_1, .int .i64 a0_2, .slice A0_3 l0_3.length c0_3]) (t := 63) ?_; intro gb201 hg w3 hbox hb; have BK201 := As0 (hbox); have GW201 := As0 ((by rw [hg]; exact (below_size (BU HB.out)) : w.heap.size ≤ gb201)); have GE201 := As0 ((by rw [hg]; exact (below_size (BU HB.out)) : w.heap.size ≤ gb201)); replace HB := As0 (below_step (BU HB.out) hb); clear hb hbox hg))
 (try simp only [Act.put, sL1, sL2, sL3])
 go_cut [17] (fun v17 wc => ∃ (kq : Nat) (x17_1 : Bool), v17 = .bool x17_1 ∧ Aside0 (regcertref08_Few.j0 kq x17_1 a0_0 a0_1 a0_2 l0_3 = some r) ∧ Aside0 (kq ≤ k) ∧ Aside0 (wc.heap[gb201]? = some (.cells #[.int .i64 a0_0, .int .i64 a0_1, .int .i64 a0_2, (.slice A0_3 l0_3.length c0_3)] 63 (0, 0))) ∧ Aside0 (Below w.heap.size w wc))
 case first =>
  have H := HC2.out
  clear HC2
  by_cases c4 : (l0_3.length : Int) > 40
  ·rw [if_pos c4] at H
   have c4b0 : decide (40 < (l0_3.length : Int)) = true := decide_eq_true c4
   have c4b1 : decide (40 < l0_3.length) = true := decide_eq_true (by omega)
   clear c4
   (first | rw [c4b0] | (simp only [i64_w, i32_w]; rw [c4b0]) | skip)
   have H' := As0 H
   clear H
   obtain ⟨hcz5_0, hcz5_1, hcz5_2, hcz5_3, hfz5_0, hfz5_1, hfz5_2, hfz5_3⟩ := cN4 BK201.out
   go_wp2
   go_meet
   case rel => exact ⟨_, (true), (by first | rfl | (simp; done) | (simp [*]; done)), H', ⟨by first | omega | exact Nat.le_refl _⟩, ⟨bU BK201.out⟩, ⟨BU HB.out⟩⟩
  rw [if_neg c4] at H
  have c4b0 : decide (40 < (l0_3.length : Int)) = false := decide_eq_false c4
  have c4b1 : decide (40 < l0_3.length) = false := decide_eq_false (by omega)
  clear c4
  (first | rw [c4b0] | (simp only [i64_w, i32_w]; rw [c4b0]) | skip)
  by_cases c6 : a0_1 > 60
  rotate_left
  ·rw [if_neg c6] at H
   have c6b0 : decide (60 < a0_1) = false := decide_eq_false c6
   clear c6
   have H' := As0 H
   clear H
   obtain ⟨hcz8_0, hcz8_1, hcz8_2, hcz8_3, hfz8_0, hfz8_1, hfz8_2, hfz8_3⟩ := cN4 BK201.out
   go_wp2
   go_meet
   case rel => exact ⟨_, (decide (a0_2 > 60)), (by first | rfl | (simp; done) | (simp [*]; done)), H', ⟨by first | omega | exact Nat.le_refl _⟩, ⟨bU BK201.out⟩, ⟨BU HB.out⟩⟩
  rw [if_pos c6] at H
  have c6b0 : decide (60 < a0_1) = true := decide_eq_true c6
  clear c6
  have H' := As0 H
  clear H
  obtain ⟨hcz7_0, hcz7_1, hcz7_2, hcz7_3, hfz7_0, hfz7_1, hfz7_2, hfz7_3⟩ := cN4 BK201.out
  go_wp2
  go_meet
  case rel => exact ⟨_, (true), (by first | rfl | (simp; done) | (simp [*]; done)), H', ⟨by first | omega | exact Nat.le_refl _⟩, ⟨bU BK201.out⟩, ⟨BU HB.out⟩⟩
 case rest =>
  clear HC2
  try clear p2
  try clear c4
  try clear c4b0
  try clear c4b1
  try clear c6
  try clear c6b0
  try clear hcz5_0
  try clear hcz5_1
  try clear hcz5_2
  try clear hcz5_3
  try clear hcz7_0
  try clear hcz7_1
  try clear hcz7_2
  try clear hcz7_3
  try clear hcz8_0
  try clear hcz8_1
  try clear hcz8_2
  try clear hcz8_3
  try clear hfz5_0
  try clear hfz5_1
  try clear hfz5_2
  try clear hfz5_3
  try clear hfz7_0
  try clear hfz7_1
  try clear hfz7_2
  try clear hfz7_3
  try clear hfz8_0
  try clear hfz8_1
  try clear hfz8_2
  try clear hfz8_3
  obtain ⟨kq, x17_1, rfl, HA, HJ1, BK201, HB⟩ := hcut
  cases kq with
  | zero => exact absurd HA.out (by simp [regcertref08_Few.j0])
  | succ kj1 =>
   have H := HA.out
   clear HA
   simp only [regcertref08_Few.j0] at H
   by_cases c9 : x17_1 = true
   ·subst c9
    rw [if_pos rfl] at H
    obtain rfl := Option.some.inj H
    go_wp2
    go_ret
    exact ⟨by first | rfl | (simp [errW_none, errW_some] <;> rfl) | (simp [*, errW_none, errW_some] <;> rfl), BU HB.out⟩
   replace c9 := Bool.eq_false_iff.mpr c9
   subst c9
   rw [if_neg (show ¬ (false = true) by decide)] at H
   have H' := As0 H
   clear H
   go_wp2
   go_loopg [3] kj1 (fun kq v3 w' => ∃ (x3_2 : Int), v3 = .int .i64 x3_2 ∧ Aside0 (regcertref08_Few.l0 kq x3_2 a0_0 a0_1 a0_2 l0_3 = some r) ∧ Aside0 (kq ≤ kj1) ∧ Aside0 (w'.heap[gb201]? = some (.cells #[.int .i64 a0_0, .int .i64 a0_1, .int .i64 a0_2, (.slice A0_3 l0_3.length c0_3)] 63 (0, 0))) ∧ Aside0 (Below w.heap.size w w'))
   case atStart => exact ⟨(0), (by first | rfl | (simp; done) | (simp [*]; done)), H', ⟨Nat.le_refl _⟩, ⟨bU BK201.out⟩, ⟨BU HB.out⟩⟩
   case round =>
    clear H'
    try clear p2
    try clear c4
    try clear c4b0
    try clear c4b1
    try clear c6
    try clear c6b0
    try clear c9
    try clear hcz5_0
    try clear hcz5_1
    try clear hcz5_2
    try clear hcz5_3
    try clear hcz7_0
    try clear hcz7_1
    try clear hcz7_2
    try clear hcz7_3
    try clear hcz8_0
    try clear hcz8_1
    try clear hcz8_2
    try clear hcz8_3
    try clear hfz5_0
    try clear hfz5_1
    try clear hfz5_2
    try clear hfz5_3
    try clear hfz7_0
    try clear hfz7_1
    try clear hfz7_2
    try clear hfz7_3
    try clear hfz8_0
    try clear hfz8_1
    try clear hfz8_2
    try clear hfz8_3
    try clear p2
    obtain ⟨x3_2, rfl, HA, HK2, BK201, HB⟩ := hrel
    cases gk with
    | zero => exact absurd HA.out (by simp [regcertref08_Few.l0])
    | succ k2 =>
     have H := HA.out
     clear HA
     simp only [regcertref08_Few.l0] at H
     by_cases c10 : x3_2 < (l0_3.length : Int)
     rotate_left
     ·rw [if_neg c10] at H
      have c10b0 : decide (x3_2 < (l0_3.length : Int)) = false := decide_eq_false c10
      clear c10
      replace H := Option.bind_eq_some_iff.mp H
      obtain ⟨t202, A150, H⟩ := H
      have A15 := As0 A150
      clear A150
      obtain rfl := Option.some.inj H
      obtain ⟨hcz16_0, hcz16_1, hcz16_2, hcz16_3, hfz16_0, hfz16_1, hfz16_2, hfz16_3⟩ := cN4 BK201.out
      go_wp2_with (first | ((with_reducible refine gate_callee (f := 70) rfl ?_); refine goesL_ (some 34) rfl rfl Try.func70 (by kernel_rfl) rfl #[.agg #[.int .i64 a0_0, .int .i64 a0_1, .int .i64 a0_2, .slice A0_3 l0_3.length c0_3]] rfl (by (try simp only [List.map_toArray, List.map_cons, List.map_nil]); first | done | rfl | (simp only [List.length_drop, List.length_take]; rfl)) ?_; (with_reducible refine (regcertref08_Code.calls k2 a0_0 a0_1 a0_2 _ _ l0_3 t202 _ ?side1 ?side2 A15.out).mono ?_); (case side1 => repeat (first | exact (Kd.C_below HR0_3.out HB.out) | (with_reducible refine Kd.C_alloc ?_ _) | (with_reducible refine Kd.C_drewN ?_ _) | (with_reducible refine Kd.C_drew ?_))); (case side2 => exact HC0_3.out); rintro e w17 ⟨rfl, hb⟩; refine ⟨_, rfl, ?_⟩; replace BK201 := As0 (blk_below (bU BK201.out) hb); replace HB := As0 (below_step (BU HB.out) hb); (try clear hb); (try clear hb2); (try clear hk); (try clear hi)))
      go_ret
      exact ⟨by first | rfl | (simp [errW_none, errW_some] <;> rfl) | (simp [*, errW_none, errW_some] <;> rfl), BU HB.out⟩
     rw [if_pos c10] at H
     have c10b0 : decide (x3_2 < (l0_3.length : Int)) = true := decide_eq_true c10
     clear c10
     by_cases c11 : 0 ≤ x3_2
     rotate_left
     ·rw [if_neg c11] at H
      exact absurd H (by simp)
     rw [if_pos c11] at H
     have c11b0 : decide (0 ≤ x3_2) = true := decide_eq_true c11
     clear c11
     by_cases c12 : (((rd_T69 l0_3 x3_2).f0).length : Int) > 300
     ·rw [if_pos c12] at H
      have c12b0 : decide (300 < (((rd_T69 l0_3 x3_2).f0).length : Int)) = true := decide_eq_true c12
      have c12b1 : decide (300 < ((rd_T69 l0_3 x3_2).f0).length) = true := decide_eq_true (by omega)
      clear c12
      obtain rfl := Option.some.inj H
      obtain ⟨hcz13_0, hcz13_1, hcz13_2, hcz13_3, hfz13_0, hfz13_1, hfz13_2, hfz13_3⟩ := cN4 BK201.out
      have p203 : 0 ≤ (x3_2 : Int) := of_decide_eq_true (by first | (with_reducible assumption) | assumption)
      have q203 : x3_2 < (l0_3.length : Int) := of_decide_eq_true (by first | (with_reducible assumption) | assumption)
      obtain ⟨ad203, A203_0, c203_0, e203, hx203_0, hx203_1, hx203_2, hx203_3, hx203_4, hl203_0, hi203_0⟩ := at_T69 HR0_3.out x3_2 p203 q203
      cases e203
      replace hx203_0 := (HB.out.cell (wblt w hx203_0)).trans hx203_0
      replace hx203_1 := (HB.out.cell (wblt w hx203_1)).trans hx203_1
      replace hx203_2 := (HB.out.cell (wblt w hx203_2)).trans hx203_2
      replace hx203_3 := (HB.out.cell (wblt w hx203_3)).trans hx203_3
      replace hx203_4 := (HB.out.cell (wblt w hx203_4)).trans hx203_4
      have HR203_0 := As0 hi203_0
      have HC203_0 := As0 hl203_0
      clear hi203_0 hl203_0
      replace p203 := eq_true p203
      replace q203 := eq_true q203
      go_wp2
      go_ret
      exact ⟨by first | rfl | (simp [errW_none, errW_some] <;> rfl) | (simp [*, errW_none, errW_some] <;> rfl), BU HB.out⟩
     rw [if_neg c12] at H
     have c12b0 : decide (300 < (((rd_T69 l0_3 x3_2).f0).length : Int)) = false := decide_eq_false c12
     have c12b1 : decide (300 < ((rd_T69 l0_3 x3_2).f0).length) = false := decide_eq_false (by omega)
     clear c12
     have H' := As0 H
     clear H
     obtain ⟨hcz14_0, hcz14_1, hcz14_2, hcz14_3, hfz14_0, hfz14_1, hfz14_2, hfz14_3⟩ := cN4 BK201.out
     have p203 : 0 ≤ (x3_2 : Int) := of_decide_eq_true (by first | (with_reducible assumption) | assumption)
     have q203 : x3_2 < (l0_3.length : Int) := of_decide_eq_true (by first | (with_reducible assumption) | assumption)
     obtain ⟨ad203, A203_0, c203_0, e203, hx203_0, hx203_1, hx203_2, hx203_3, hx203_4, hl203_0, hi203_0⟩ := at_T69 HR0_3.out x3_2 p203 q203
     cases e203
     replace hx203_0 := (HB.out.cell (wblt w hx203_0)).trans hx203_0
     replace hx203_1 := (HB.out.cell (wblt w hx203_1)).trans hx203_1
     replace hx203_2 := (HB.out.cell (wblt w hx203_2)).trans hx203_2
     replace hx203_3 := (HB.out.cell (wblt w hx203_3)).trans hx203_3
     replace hx203_4 := (HB.out.cell (wblt w hx203_4)).trans hx203_4
     have HR203_0 := As0 hi203_0
     have HC203_0 := As0 hl203_0
     clear hi203_0 hl203_0
     replace p203 := eq_true p203
     replace q203 := eq_true q203
     go_wp2
     go_roundg k2
     case measure => have := HJ1.out; have := HK2.out; omega
     case rel => exact ⟨(wrap64 (x3_2 + 1)), (by first | rfl | (simp; done) | (simp [*]; done)), H', ⟨by have := HJ1.out; have := HK2.out; omega⟩, ⟨bU BK201.out⟩, ⟨BU HB.out⟩⟩

/-! ### regcertref08_Moves: function 72 -/
mutual
def regcertref08_Moves.l0 : Nat → List (S84) → Int → Int → Option (Int)
 | 0, _, _, _ => none
 | k + 1, x0, x3, x4 => if x4 < (x0.length : Int) then (regcertref08_Moves.l1 k x0 x3 x4 0) else (some x3)
def regcertref08_Moves.l1 : Nat → List (S84) → Int → Int → Int → Option (Int)
 | 0, _, _, _, _ => none
 | k + 1, x0, x3, x4, x5 => if (wrap64 (x4 + x5)) < (x0.length : Int) then (if 0 ≤ (wrap64 (x4 + x5)) then (regcertref08_Moves.j2 k x0 x3 x4 x5 (((rd_T84 x0 (wrap64 (x4 + x5))).f0) == 18)) else (none)) else (regcertref08_Moves.j2 k x0 x3 x4 x5 false)
def regcertref08_Moves.j2 : Nat → List (S84) → Int → Int → Int → Bool → Option (Int)
 | 0, _, _, _, _, _ => none
 | k + 1, x0, x3, x4, x5, x27 => if x27 = true then (regcertref08_Moves.l1 k x0 x3 x4 (wrap64 (x5 + 1))) else (if x5 > x3 then (regcertref08_Moves.l0 k x0 x5 (wrap64 (x4 + 1))) else (regcertref08_Moves.l0 k x0 x3 (wrap64 (x4 + 1))))
end
def regcertref08_Moves.f (k : Nat) (l0 : List (S84)) : Option (Int) := regcertref08_Moves.l0 k l0 0 0
theorem regcertref08_Moves.mono_l : ∀ k, (∀ y0 y1 y2, LeO (regcertref08_Moves.l0 k y0 y1 y2) (regcertref08_Moves.l0 (k + 1) y0 y1 y2)) ∧ (∀ y0 y1 y2 y3, LeO (regcertref08_Moves.l1 k y0 y1 y2 y3) (regcertref08_Moves.l1 (k + 1) y0 y1 y2 y3)) ∧ (∀ y0 y1 y2 y3 y4, LeO (regcertref08_Moves.j2 k y0 y1 y2 y3 y4) (regcertref08_Moves.j2 (k + 1) y0 y1 y2 y3 y4))
 | 0 => ⟨fun _ _ _ r h => by simp [regcertref08_Moves.l0] at h, fun _ _ _ _ r h => by simp [regcertref08_Moves.l1] at h, fun _ _ _ _ _ r h => by simp [regcertref08_Moves.j2] at h⟩
 | k + 1 => by
  obtain ⟨ih0, ih1, ih2⟩ := regcertref08_Moves.mono_l k
  refine ⟨?_, ?_, ?_⟩
  ·intro y0 y1 y2
   unfold regcertref08_Moves.l0
   repeat' first
   | (with_reducible exact ih0 _ _ _)
   | (with_reducible exact ih1 _ _ _ _)
   | (with_reducible exact ih2 _ _ _ _ _)
   | (with_reducible exact LeO.refl _)
   | (with_reducible exact LeO.none _)
   | (with_reducible refine LeO.ite ?_ ?_)
   | (with_reducible refine LeO.bind ?_ (fun _ => ?_))
   | exact ih0 _ _ _
   | exact ih1 _ _ _ _
   | exact ih2 _ _ _ _ _
   | exact LeO.none _
   | refine LeO.ite ?_ ?_
   | refine LeO.bind ?_ (fun _ => ?_)
  ·intro y0 y1 y2 y3
   unfold regcertref08_Moves.l1
   repeat' first
   | (with_reducible exact ih0 _ _ _)
   | (with_reducible exact ih1 _ _ _ _)
   | (with_reducible exact ih2 _ _ _ _ _)
   | (with_reducible exact LeO.refl _)
   | (with_reducible exact LeO.none _)
   | (with_reducible refine LeO.ite ?_ ?_)
   | (with_reducible refine LeO.bind ?_ (fun _ => ?_))
   | exact ih0 _ _ _
   | exact ih1 _ _ _ _
   | exact ih2 _ _ _ _ _
   | exact LeO.none _
   | refine LeO.ite ?_ ?_
   | refine LeO.bind ?_ (fun _ => ?_)
  ·intro y0 y1 y2 y3 y4
   unfold regcertref08_Moves.j2
   repeat' first
   | (with_reducible exact ih0 _ _ _)
   | (with_reducible exact ih1 _ _ _ _)
   | (with_reducible exact ih2 _ _ _ _ _)
   | (with_reducible exact LeO.refl _)
   | (with_reducible exact LeO.none _)
   | (with_reducible refine LeO.ite ?_ ?_)
   | (with_reducible refine LeO.bind ?_ (fun _ => ?_))
   | exact ih0 _ _ _
   | exact ih1 _ _ _ _
   | exact ih2 _ _ _ _ _
   | exact LeO.none _
   | refine LeO.ite ?_ ?_
   | refine LeO.bind ?_ (fun _ => ?_)
theorem regcertref08_Moves.mono : ∀ a0 k, LeO (regcertref08_Moves.f k a0) (regcertref08_Moves.f (k + 1) a0) := by
 intro a0 k
 obtain ⟨ih0, ih1, ih2⟩ := regcertref08_Moves.mono_l k
 unfold regcertref08_Moves.f
 repeat' first
   | (with_reducible exact ih0 _ _ _)
   | (with_reducible exact ih1 _ _ _ _)
   | (with_reducible exact ih2 _ _ _ _ _)
   | (with_reducible exact LeO.refl _)
   | (with_reducible exact LeO.none _)
   | (with_reducible refine LeO.ite ?_ ?_)
   | (with_reducible refine LeO.bind ?_ (fun _ => ?_))
   | exact ih0 _ _ _
   | exact ih1 _ _ _ _
   | exact ih2 _ _ _ _ _
   | exact LeO.none _
   | refine LeO.ite ?_ ?_
   | refine LeO.bind ?_ (fun _ => ?_)
set_option maxHeartbeats 8000000 in
set_option maxRecDepth 100000 in
theorem regcertref08_Moves.calls (k : Nat) (A0 : Option Addr) (c0 : Nat) (l0 : List (S84)) (r : Int) (w : World) (hr0 : Kd.C k84 w A0 l0.length l0) (hc0 : l0.length ≤ c0) (h : regcertref08_Moves.f k l0 = some r) :
  Calls Try.prog 72 #[.slice A0 l0.length c0] w fun e w' => e = .returned (.int .i64 r) ∧ Drawn0 w w' := by
 have HR0 := As0 hr0
 have HC0 := As0 hc0
 clear hr0 hc0
 have H : (regcertref08_Moves.l0 k l0 0 0) = some r := h
 clear h
 have H' := As0 H
 clear H
 go_enter Try.func72, Try.ntmps72
 go_wp2
 go_loopg [3, 4] k (fun kq v3 v4 w' => ∃ (x3_1 : Int) (x4_1 : Int), v3 = .int .i64 x3_1 ∧ v4 = .int .i64 x4_1 ∧ Aside0 (regcertref08_Moves.l0 kq l0 x3_1 x4_1 = some r) ∧ Aside0 (kq ≤ k) ∧ Drawn0 w w')
 case atStart => exact ⟨(0), (0), (by first | rfl | (simp; done) | (simp [*]; done)), (by first | rfl | (simp; done) | (simp [*]; done)), H', ⟨Nat.le_refl _⟩, by repeat (first | exact Drawn0.refl _ | apply Drawn0.step)⟩
 case round =>
  clear H'
  obtain ⟨x3_1, x4_1, rfl, rfl, HA, HK1, ⟨m1, rfl⟩⟩ := hrel
  cases gk with
  | zero => exact absurd HA.out (by simp [regcertref08_Moves.l0])
  | succ k1 =>
   have H := HA.out
   clear HA
   simp only [regcertref08_Moves.l0] at H
   by_cases c2 : x4_1 < (l0.length : Int)
   rotate_left
   ·rw [if_neg c2] at H
    have c2b0 : decide (x4_1 < (l0.length : Int)) = false := decide_eq_false c2
    clear c2
    obtain rfl := Option.some.inj H
    go_wp2
    go_ret
    exact ⟨by first | rfl | (simp; done) | (simp [*]; done), by repeat (first | exact Drawn0.refl _ | apply Drawn0.step)⟩
   rw [if_pos c2] at H
   have c2b0 : decide (x4_1 < (l0.length : Int)) = true := decide_eq_true c2
   clear c2
   have H' := As0 H
   clear H
   go_wp2
   go_loopg [5] k1 (fun kq v5 w' => ∃ (x5_2 : Int), v5 = .int .i64 x5_2 ∧ Aside0 (regcertref08_Moves.l1 kq l0 x3_1 x4_1 x5_2 = some r) ∧ Aside0 (kq ≤ k1) ∧ Drawn0 w w')
   case atStart => exact ⟨(0), (by first | rfl | (simp; done) | (simp [*]; done)), H', ⟨Nat.le_refl _⟩, by repeat (first | exact Drawn0.refl _ | apply Drawn0.step)⟩
   case round =>
    clear H'
    try clear c2
    try clear c2b0
    try clear p2
    obtain ⟨x5_2, rfl, HA, HK2, ⟨m2, rfl⟩⟩ := hrel
    cases gk with
    | zero => exact absurd HA.out (by simp [regcertref08_Moves.l1])
    | succ k2 =>
     have H := HA.out
     clear HA
     simp only [regcertref08_Moves.l1] at H
     have HC3 := As0 H
     clear H
     go_upto_region 6 with (fail)
     go_cut [27] (fun v27 wc => ∃ (kq : Nat) (x27_2 : Bool), v27 = .bool x27_2 ∧ Aside0 (regcertref08_Moves.j2 kq l0 x3_1 x4_1 x5_2 x27_2 = some r) ∧ Aside0 (kq ≤ k2) ∧ Drawn0 w wc)
     case first =>
      have H := HC3.out
      clear HC3
      by_cases c4 : (wrap64 (x4_1 + x5_2)) < (l0.length : Int)
      rotate_left
      ·rw [if_neg c4] at H
       have c4b0 : decide ((wrap64 (x4_1 + x5_2)) < (l0.length : Int)) = false := decide_eq_false c4
       clear c4
       (first | rw [c4b0] | (simp only [i64_w, i32_w]; rw [c4b0]) | skip)
       have H' := As0 H
       clear H
       go_wp2
       go_meet
       case rel => exact ⟨_, (false), (by first | rfl | (simp; done) | (simp [*]; done)), H', ⟨by have := HK1.out; have := HK2.out; first | omega | exact Nat.le_refl _⟩, by repeat (first | exact Drawn0.refl _ | apply Drawn0.step)⟩
      rw [if_pos c4] at H
      have c4b0 : decide ((wrap64 (x4_1 + x5_2)) < (l0.length : Int)) = true := decide_eq_true c4
      clear c4
      (first | rw [c4b0] | (simp only [i64_w, i32_w]; rw [c4b0]) | skip)
      obtain ⟨ji5, hji5⟩ : ∃ j_ : Int, (wrap64 (x4_1 + x5_2)) = j_ := ⟨_, rfl⟩
      replace H : (if 0 ≤ (ji5) then (regcertref08_Moves.j2 k2 l0 x3_1 x4_1 x5_2 (((rd_T84 l0 (ji5)).f0) == 18)) else (none)) = some r := by first | (rw [hji5] at H; exact H) | (simp only [hji5] at H ⊢; exact H)
      (try rw [hji5] at c4b0)
      have hji5w : (IntKind.i64.wrap (x4_1 + x5_2)) = ji5 := (i64_w _).trans hji5
      by_cases c6 : 0 ≤ (ji5)
      rotate_left
      ·rw [if_neg c6] at H
       exact absurd H (by simp)
      rw [if_pos c6] at H
      have c6b0 : decide (0 ≤ (ji5)) = true := decide_eq_true c6
      clear c6
      have H' := As0 H
      clear H
      have p204 : 0 ≤ ((ji5) : Int) := of_decide_eq_true (by first | (with_reducible assumption) | assumption)
      have q204 : (ji5) < (l0.length : Int) := of_decide_eq_true (by first | (with_reducible assumption) | assumption)
      obtain ⟨ad204, e204, hx204_0, hx204_1, hx204_2, hx204_3, hx204_4, hx204_5, hx204_6⟩ := at_T84 HR0.out (ji5) p204 q204
      cases e204
      replace p204 := eq_true p204
      replace q204 := eq_true q204
      go_wp2
      go_meet
      case rel => exact ⟨_, ((((rd_T84 l0 (ji5)).f0) == 18)), (by first | rfl | (simp; done) | (simp only [← hji5] <;> (first | rfl | simp)) | (simp [*]; done)), H', ⟨by have := HK1.out; have := HK2.out; first | omega | exact Nat.le_refl _⟩, by repeat (first | exact Drawn0.refl _ | apply Drawn0.step)⟩
     case rest =>
      clear HC3
      try clear c2
      try clear c2b0
      try clear p2
      try clear q2
      try clear hx2
      try clear c4
      try clear c4b0
      try clear c6
      try clear c6b0
      try clear p6
      try clear hx204_0
      try clear hx204_1
      try clear hx204_2
      try clear hx204_3
      try clear hx204_4
      try clear hx204_5
      try clear hx204_6
      try clear p2
      try clear p204
      try clear q204
      obtain ⟨kq, x27_2, rfl, HA, HJ2, ⟨mc2, rfl⟩⟩ := hcut
      cases kq with
      | zero => exact absurd HA.out (by simp [regcertref08_Moves.j2])
      | succ kj2 =>
       have H := HA.out
       clear HA
       simp only [regcertref08_Moves.j2] at H
       by_cases c7 : x27_2 = true
       ·subst c7
        rw [if_pos rfl] at H
        have H' := As0 H
        clear H
        go_wp2
        go_roundg kj2
        case measure => have := HK1.out; have := HK2.out; have := HJ2.out; omega
        case rel => exact ⟨(wrap64 (x5_2 + 1)), (by first | rfl | (simp; done) | (simp [*]; done)), H', ⟨by have := HK1.out; have := HK2.out; have := HJ2.out; omega⟩, by repeat (first | exact Drawn0.refl _ | apply Drawn0.step)⟩
       replace c7 := Bool.eq_false_iff.mpr c7
       subst c7
       rw [if_neg (show ¬ (false = true) by decide)] at H
       by_cases c8 : x5_2 > x3_1
       rotate_left
       ·rw [if_neg c8] at H
        have c8b0 : decide (x3_1 < x5_2) = false := decide_eq_false c8
        clear c8
        have H' := As0 H
        clear H
        go_wp2
        go_roundg kj2
        case measure => have := HK1.out; have := HK2.out; have := HJ2.out; omega
        case rel => exact ⟨(x3_1), (wrap64 (x4_1 + 1)), (by first | rfl | (simp; done) | (simp [*]; done)), (by first | rfl | (simp; done) | (simp [*]; done)), H', ⟨by have := HK1.out; have := HK2.out; have := HJ2.out; omega⟩, by repeat (first | exact Drawn0.refl _ | apply Drawn0.step)⟩
       rw [if_pos c8] at H
       have c8b0 : decide (x3_1 < x5_2) = true := decide_eq_true c8
       clear c8
       have H' := As0 H
       clear H
       go_wp2
       go_roundg kj2
       case measure => have := HK1.out; have := HK2.out; have := HJ2.out; omega
       case rel => exact ⟨(x5_2), (wrap64 (x4_1 + 1)), (by first | rfl | (simp; done) | (simp [*]; done)), (by first | rfl | (simp; done) | (simp [*]; done)), H', ⟨by have := HK1.out; have := HK2.out; have := HJ2.out; omega⟩, by repeat (first | exact Drawn0.refl _ | apply Drawn0.step)⟩

/-! ### regcertref08_Check: function 49 -/
mutual
def regcertref08_Check.j0 : Nat → Bool → Int → Int → Int → List (S69) → Option (Int)
 | 0, _, _, _, _, _ => none
 | k + 1, x17, x206000, x206001, x206002, x206003 => if x17 = true then (some 10) else (if x206001 < 0 then (some 9) else (if x206002 > 1048576 then (regcertref08_Check.j1 k true x206000 x206001 x206002 x206003) else (regcertref08_Check.j1 k (decide (x206001 > 1048576)) x206000 x206001 x206002 x206003)))
def regcertref08_Check.j1 : Nat → Bool → Int → Int → Int → List (S69) → Option (Int)
 | 0, _, _, _, _, _ => none
 | k + 1, x28, x206000, x206001, x206002, x206003 => if x28 = true then (some 6) else (if (x206003.length : Int) = 0 then (some 14) else (if (x206003.length : Int) > 1048576 then (regcertref08_Check.j2 k true x206000 x206001 x206002 x206003) else ((regcertref08_Code.f k x206000 x206001 x206002 x206003).bind fun t206 => (regcertref08_Check.j2 k (decide (t206 > 1048576)) x206000 x206001 x206002 x206003))))
def regcertref08_Check.j2 : Nat → Bool → Int → Int → Int → List (S69) → Option (Int)
 | 0, _, _, _, _, _ => none
 | k + 1, x41, x206000, x206001, x206002, x206003 => if x41 = true then (some 6) else (regcertref08_Check.l0 k 0 x206000 x206001 x206002 x206003)
def regcertref08_Check.l0 : Nat → Int → Int → Int → Int → List (S69) → Option (Int)
 | 0, _, _, _, _, _ => none
 | k + 1, x3, x206000, x206001, x206002, x206003 => if x3 < (x206003.length : Int) then (if 0 ≤ x3 then (regcertref08_Check.l1 k x3 0 x206000 x206001 x206002 x206003 ((rd_T69 x206003 x3).f0) ((rd_T69 x206003 x3).f1.f0) ((rd_T69 x206003 x3).f1.f1) ((rd_T69 x206003 x3).f1.f2) ((rd_T69 x206003 x3).f1.f3)) else (none)) else (some 0)
def regcertref08_Check.l1 : Nat → Int → Int → Int → Int → Int → List (S69) → List (S84) → Int → Int → Int → Int → Option (Int)
 | 0, _, _, _, _, _, _, _, _, _, _, _ => none
 | k + 1, x3, x5, x206000, x206001, x206002, x206003, x209000, x209001, x209002, x209003, x209004 => if x5 < (x209000.length : Int) then (if 0 ≤ x5 then ((regcertref08_Instr.f ((rd_T84 x209000 x5).f0) ((rd_T84 x209000 x5).f1) ((rd_T84 x209000 x5).f2) ((rd_T84 x209000 x5).f3) ((rd_T84 x209000 x5).f4) ((rd_T84 x209000 x5).f5) ((rd_T84 x209000 x5).f6) x206001 x206002).bind fun t210 => (if t210 = 0 then (if x5 ≥ 64 then (if 0 ≤ (wrap64 (x5 - 64)) then (if (wrap64 (x5 - 64)) ≤ (wrap64 (x5 + 1)) then (if (wrap64 (x5 + 1)) ≤ (x209000.length : Int) then ((regcertref08_Moves.f k ((x209000.take ((wrap64 (x5 + 1)) : Int).toNat).drop ((wrap64 (x5 - 64)) : Int).toNat)).bind fun t215 => (regcertref08_Check.j5 k x3 x5 (decide (t215 > 64)) x206000 x206001 x206002 x206003 x209000 x209001 x209002 x209003 x209004)) else (none)) else (none)) else (none)) else (regcertref08_Check.j5 k x3 x5 false x206000 x206001 x206002 x206003 x209000 x209001 x209002 x209003 x209004)) else (some t210))) else (none)) else ((regcertref07_Term.f x209001 x209002 x209003 x209004 x206001 (x206003.length : Int)).bind fun t216 => (if t216 = 0 then (regcertref08_Check.l0 k (wrap64 (x3 + 1)) x206000 x206001 x206002 x206003) else (some t216)))
def regcertref08_Check.j5 : Nat → Int → Int → Bool → Int → Int → Int → List (S69) → List (S84) → Int → Int → Int → Int → Option (Int)
 | 0, _, _, _, _, _, _, _, _, _, _, _, _ => none
 | k + 1, x3, x5, x86, x206000, x206001, x206002, x206003, x209000, x209001, x209002, x209003, x209004 => if x86 = true then (some 15) else (regcertref08_Check.l1 k x3 (wrap64 (x5 + 1)) x206000 x206001 x206002 x206003 x209000 x209001 x209002 x209003 x209004)
end
def regcertref08_Check.f (k : Nat) (a0_0 : Int) (a0_1 : Int) (a0_2 : Int) (l0_3 : List (S69)) : Option (Int) := if a0_0 < 0 then (regcertref08_Check.j0 k true a0_0 a0_1 a0_2 l0_3) else (regcertref08_Check.j0 k (decide (a0_0 > a0_2)) a0_0 a0_1 a0_2 l0_3)
theorem regcertref08_Check.mono_l : ∀ k, (∀ y0 y1 y2 y3 y4, LeO (regcertref08_Check.j0 k y0 y1 y2 y3 y4) (regcertref08_Check.j0 (k + 1) y0 y1 y2 y3 y4)) ∧ (∀ y0 y1 y2 y3 y4, LeO (regcertref08_Check.j1 k y0 y1 y2 y3 y4) (regcertref08_Check.j1 (k + 1) y0 y1 y2 y3 y4)) ∧ (∀ y0 y1 y2 y3 y4, LeO (regcertref08_Check.j2 k y0 y1 y2 y3 y4) (regcertref08_Check.j2 (k + 1) y0 y1 y2 y3 y4)) ∧ (∀ y0 y1 y2 y3 y4, LeO (regcertref08_Check.l0 k y0 y1 y2 y3 y4) (regcertref08_Check.l0 (k + 1) y0 y1 y2 y3 y4)) ∧ (∀ y0 y1 y2 y3 y4 y5 y6 y7 y8 y9 y10, LeO (regcertref08_Check.l1 k y0 y1 y2 y3 y4 y5 y6 y7 y8 y9 y10) (regcertref08_Check.l1 (k + 1) y0 y1 y2 y3 y4 y5 y6 y7 y8 y9 y10)) ∧ (∀ y0 y1 y2 y3 y4 y5 y6 y7 y8 y9 y10 y11, LeO (regcertref08_Check.j5 k y0 y1 y2 y3 y4 y5 y6 y7 y8 y9 y10 y11) (regcertref08_Check.j5 (k + 1) y0 y1 y2 y3 y4 y5 y6 y7 y8 y9 y10 y11))
 | 0 => ⟨fun _ _ _ _ _ r h => by simp [regcertref08_Check.j0] at h, fun _ _ _ _ _ r h => by simp [regcertref08_Check.j1] at h, fun _ _ _ _ _ r h => by simp [regcertref08_Check.j2] at h, fun _ _ _ _ _ r h => by simp [regcertref08_Check.l0] at h, fun _ _ _ _ _ _ _ _ _ _ _ r h => by simp [regcertref08_Check.l1] at h, fun _ _ _ _ _ _ _ _ _ _ _ _ r h => by simp [regcertref08_Check.j5] at h⟩
 | k + 1 => by
  obtain ⟨ih0, ih1, ih2, ih3, ih4, ih5⟩ := regcertref08_Check.mono_l k
  refine ⟨?_, ?_, ?_, ?_, ?_, ?_⟩
  ·intro y0 y1 y2 y3 y4
   unfold regcertref08_Check.j0
   repeat' first
   | (with_reducible exact ih0 _ _ _ _ _)
   | (with_reducible exact ih1 _ _ _ _ _)
   | (with_reducible exact ih2 _ _ _ _ _)
   | (with_reducible exact ih3 _ _ _ _ _)
   | (with_reducible exact ih4 _ _ _ _ _ _ _ _ _ _ _)
   | (with_reducible exact ih5 _ _ _ _ _ _ _ _ _ _ _ _)
   | (with_reducible exact regcertref08_Code.mono _ _ _ _ _)
   | (with_reducible exact regcertref08_Moves.mono _ _)
   | (with_reducible exact LeO.refl _)
   | (with_reducible exact LeO.none _)
   | (with_reducible refine LeO.ite ?_ ?_)
   | (with_reducible refine LeO.bind ?_ (fun _ => ?_))
   | exact ih0 _ _ _ _ _
   | exact ih1 _ _ _ _ _
   | exact ih2 _ _ _ _ _
   | exact ih3 _ _ _ _ _
   | exact ih4 _ _ _ _ _ _ _ _ _ _ _
   | exact ih5 _ _ _ _ _ _ _ _ _ _ _ _
   | exact regcertref08_Code.mono _ _ _ _ _
   | exact regcertref08_Moves.mono _ _
   | exact LeO.none _
   | refine LeO.ite ?_ ?_
   | refine LeO.bind ?_ (fun _ => ?_)
  ·intro y0 y1 y2 y3 y4
   unfold regcertref08_Check.j1
   repeat' first
   | (with_reducible exact ih0 _ _ _ _ _)
   | (with_reducible exact ih1 _ _ _ _ _)
   | (with_reducible exact ih2 _ _ _ _ _)
   | (with_reducible exact ih3 _ _ _ _ _)
   | (with_reducible exact ih4 _ _ _ _ _ _ _ _ _ _ _)
   | (with_reducible exact ih5 _ _ _ _ _ _ _ _ _ _ _ _)
   | (with_reducible exact regcertref08_Code.mono _ _ _ _ _)
   | (with_reducible exact regcertref08_Moves.mono _ _)
   | (with_reducible exact LeO.refl _)
   | (with_reducible exact LeO.none _)
   | (with_reducible refine LeO.ite ?_ ?_)
   | (with_reducible refine LeO.bind ?_ (fun _ => ?_))
   | exact ih0 _ _ _ _ _
   | exact ih1 _ _ _ _ _
   | exact ih2 _ _ _ _ _
   | exact ih3 _ _ _ _ _
   | exact ih4 _ _ _ _ _ _ _ _ _ _ _
   | exact ih5 _ _ _ _ _ _ _ _ _ _ _ _
   | exact regcertref08_Code.mono _ _ _ _ _
   | exact regcertref08_Moves.mono _ _
   | exact LeO.none _
   | refine LeO.ite ?_ ?_
   | refine LeO.bind ?_ (fun _ => ?_)
  ·intro y0 y1 y2 y3 y4
   unfold regcertref08_Check.j2
   repeat' first
   | (with_reducible exact ih0 _ _ _ _ _)
   | (with_reducible exact ih1 _ _ _ _ _)
   | (with_reducible exact ih2 _ _ _ _ _)
   | (with_reducible exact ih3 _ _ _ _ _)
   | (with_reducible exact ih4 _ _ _ _ _ _ _ _ _ _ _)
   | (with_reducible exact ih5 _ _ _ _ _ _ _ _ _ _ _ _)
   | (with_reducible exact regcertref08_Code.mono _ _ _ _ _)
   | (with_reducible exact regcertref08_Moves.mono _ _)
   | (with_reducible exact LeO.refl _)
   | (with_reducible exact LeO.none _)
   | (with_reducible refine LeO.ite ?_ ?_)
   | (with_reducible refine LeO.bind ?_ (fun _ => ?_))
   | exact ih0 _ _ _ _ _
   | exact ih1 _ _ _ _ _
   | exact ih2 _ _ _ _ _
   | exact ih3 _ _ _ _ _
   | exact ih4 _ _ _ _ _ _ _ _ _ _ _
   | exact ih5 _ _ _ _ _ _ _ _ _ _ _ _
   | exact regcertref08_Code.mono _ _ _ _ _
   | exact regcertref08_Moves.mono _ _
   | exact LeO.none _
   | refine LeO.ite ?_ ?_
   | refine LeO.bind ?_ (fun _ => ?_)
  ·intro y0 y1 y2 y3 y4
   unfold regcertref08_Check.l0
   repeat' first
   | (with_reducible exact ih0 _ _ _ _ _)
   | (with_reducible exact ih1 _ _ _ _ _)
   | (with_reducible exact ih2 _ _ _ _ _)
   | (with_reducible exact ih3 _ _ _ _ _)
   | (with_reducible exact ih4 _ _ _ _ _ _ _ _ _ _ _)
   | (with_reducible exact ih5 _ _ _ _ _ _ _ _ _ _ _ _)
   | (with_reducible exact regcertref08_Code.mono _ _ _ _ _)
   | (with_reducible exact regcertref08_Moves.mono _ _)
   | (with_reducible exact LeO.refl _)
   | (with_reducible exact LeO.none _)
   | (with_reducible refine LeO.ite ?_ ?_)
   | (with_reducible refine LeO.bind ?_ (fun _ => ?_))
   | exact ih0 _ _ _ _ _
   | exact ih1 _ _ _ _ _
   | exact ih2 _ _ _ _ _
   | exact ih3 _ _ _ _ _
   | exact ih4 _ _ _ _ _ _ _ _ _ _ _
   | exact ih5 _ _ _ _ _ _ _ _ _ _ _ _
   | exact regcertref08_Code.mono _ _ _ _ _
   | exact regcertref08_Moves.mono _ _
   | exact LeO.none _
   | refine LeO.ite ?_ ?_
   | refine LeO.bind ?_ (fun _ => ?_)
  ·intro y0 y1 y2 y3 y4 y5 y6 y7 y8 y9 y10
   unfold regcertref08_Check.l1
   repeat' first
   | (with_reducible exact ih0 _ _ _ _ _)
   | (with_reducible exact ih1 _ _ _ _ _)
   | (with_reducible exact ih2 _ _ _ _ _)
   | (with_reducible exact ih3 _ _ _ _ _)
   | (with_reducible exact ih4 _ _ _ _ _ _ _ _ _ _ _)
   | (with_reducible exact ih5 _ _ _ _ _ _ _ _ _ _ _ _)
   | (with_reducible exact regcertref08_Code.mono _ _ _ _ _)
   | (with_reducible exact regcertref08_Moves.mono _ _)
   | (with_reducible exact LeO.refl _)
   | (with_reducible exact LeO.none _)
   | (with_reducible refine LeO.ite ?_ ?_)
   | (with_reducible refine LeO.bind ?_ (fun _ => ?_))
   | exact ih0 _ _ _ _ _
   | exact ih1 _ _ _ _ _
   | exact ih2 _ _ _ _ _
   | exact ih3 _ _ _ _ _
   | exact ih4 _ _ _ _ _ _ _ _ _ _ _
   | exact ih5 _ _ _ _ _ _ _ _ _ _ _ _
   | exact regcertref08_Code.mono _ _ _ _ _
   | exact regcertref08_Moves.mono _ _
   | exact LeO.none _
   | refine LeO.ite ?_ ?_
   | refine LeO.bind ?_ (fun _ => ?_)
  ·intro y0 y1 y2 y3 y4 y5 y6 y7 y8 y9 y10 y11
   unfold regcertref08_Check.j5
   repeat' first
   | (with_reducible exact ih0 _ _ _ _ _)
   | (with_reducible exact ih1 _ _ _ _ _)
   | (with_reducible exact ih2 _ _ _ _ _)
   | (with_reducible exact ih3 _ _ _ _ _)
   | (with_reducible exact ih4 _ _ _ _ _ _ _ _ _ _ _)
   | (with_reducible exact ih5 _ _ _ _ _ _ _ _ _ _ _ _)
   | (with_reducible exact regcertref08_Code.mono _ _ _ _ _)
   | (with_reducible exact regcertref08_Moves.mono _ _)
   | (with_reducible exact LeO.refl _)
   | (with_reducible exact LeO.none _)
   | (with_reducible refine LeO.ite ?_ ?_)
   | (with_reducible refine LeO.bind ?_ (fun _ => ?_))
   | exact ih0 _ _ _ _ _
   | exact ih1 _ _ _ _ _
   | exact ih2 _ _ _ _ _
   | exact ih3 _ _ _ _ _
   | exact ih4 _ _ _ _ _ _ _ _ _ _ _
   | exact ih5 _ _ _ _ _ _ _ _ _ _ _ _
   | exact regcertref08_Code.mono _ _ _ _ _
   | exact regcertref08_Moves.mono _ _
   | exact LeO.none _
   | refine LeO.ite ?_ ?_
   | refine LeO.bind ?_ (fun _ => ?_)
theorem regcertref08_Check.mono : ∀ a0 a1 a2 a3 k, LeO (regcertref08_Check.f k a0 a1 a2 a3) (regcertref08_Check.f (k + 1) a0 a1 a2 a3) := by
 intro a0 a1 a2 a3 k
 obtain ⟨ih0, ih1, ih2, ih3, ih4, ih5⟩ := regcertref08_Check.mono_l k
 unfold regcertref08_Check.f
 repeat' first
   | (with_reducible exact ih0 _ _ _ _ _)
   | (with_reducible exact ih1 _ _ _ _ _)
   | (with_reducible exact ih2 _ _ _ _ _)
   | (with_reducible exact ih3 _ _ _ _ _)
   | (with_reducible exact ih4 _ _ _ _ _ _ _ _ _ _ _)
   | (with_reducible exact ih5 _ _ _ _ _ _ _ _ _ _ _ _)
   | (with_reducible exact regcertref08_Code.mono _ _ _ _ _)
   | (with_reducible exact regcertref08_Moves.mono _ _)
   | (with_reducible exact LeO.refl _)
   | (with_reducible exact LeO.none _)
   | (with_reducible refine LeO.ite ?_ ?_)
   | (with_reducible refine LeO.bind ?_ (fun _ => ?_))
   | exact ih0 _ _ _ _ _
   | exact ih1 _ _ _ _ _
   | exact ih2 _ _ _ _ _
   | exact ih3 _ _ _ _ _
   | exact ih4 _ _ _ _ _ _ _ _ _ _ _
   | exact ih5 _ _ _ _ _ _ _ _ _ _ _ _
   | exact regcertref08_Code.mono _ _ _ _ _
   | exact regcertref08_Moves.mono _ _
   | exact LeO.none _
   | refine LeO.ite ?_ ?_
   | refine LeO.bind ?_ (fun _ => ?_)
def regcertref08_Check.T18 : Bool × List (List Nat × List Nat) := (true, [([], []), ([0], [0]), ([], []), ([1, 2], [1, 2]), ([3], [3]), ([], []), ([5], [5]), ([], []), ([7], [7]), ([4, 6, 8], [4, 6, 8]), ([9, 9, 0, 1, 2, 3, 4, 5, 6, 7, 8, 9], [9])])
def regcertref08_Check.B18 : List Nat := [0, 1, 0, 7, 15, 0, 32, 0, 128, 511, 1023]
theorem regcertref08_Check.tab18 : rtab .any (opsOf Try.f49 18) = regcertref08_Check.T18 := by kernel_rfl
theorem regcertref08_Check.bits18 : waitsOk regcertref08_Check.T18.2 regcertref08_Check.B18 = true := by kernel_rfl
set_option maxHeartbeats 8000000 in
set_option maxRecDepth 100000 in
theorem regcertref08_Check.calls (k : Nat) (a0_0 : Int) (a0_1 : Int) (a0_2 : Int) (A0_3 : Option Addr) (c0_3 : Nat) (l0_3 : List (S69)) (r : Int) (w : World) (hr0_3 : Kd.C k69 w A0_3 l0_3.length l0_3) (hc0_3 : l0_3.length ≤ c0_3) (h : regcertref08_Check.f k a0_0 a0_1 a0_2 l0_3 = some r) :
  Calls Try.prog 49 #[.agg #[.int .i64 a0_0, .int .i64 a0_1, .int .i64 a0_2, .slice A0_3 l0_3.length c0_3]] w fun e w' => e = .returned (.int .i64 r) ∧ Below w.heap.size w w' := by
 have hu63 := Try.underlying63
 have hu69 := Try.underlying69
 have hu84 := Try.underlying84
 have hu48 := Try.underlying48
 have HR0_3 := As0 hr0_3
 have HC0_3 := As0 hc0_3
 clear hr0_3 hc0_3
 have HB := As0 (Below.refl w.heap.size w)
 have H : (if a0_0 < 0 then (regcertref08_Check.j0 k true a0_0 a0_1 a0_2 l0_3) else (regcertref08_Check.j0 k (decide (a0_0 > a0_2)) a0_0 a0_1 a0_2 l0_3)) = some r := h
 clear h
 have HC2 := As0 H
 clear H
 go_enter Try.func49, Try.ntmps49
 go_upto_region 1 with (first | ((with_reducible refine gate_dst (N := 1) rfl ?_); refine bX (N := 1) (cs := #[.int .i64 a0_0, .int .i64 a0_1, .int .i64 a0_2, .slice A0_3 l0_3.length c0_3]) (t := 63) ?_; intro gb205 hg w3 hbox hb; have BK205 := As0 (hbox); have GW205 := As0 ((by rw [hg]; exact (below_size (BU HB.out)) : w.heap.size ≤ gb205)); have GE205 := As0 ((by rw [hg]; exact (below_size (BU HB.out)) : w.heap.size ≤ gb205)); replace HB := As0 (below_step (BU HB.out) hb); clear hb hbox hg))
 (try simp only [Act.put, sL1, sL2, sL3])
 go_cut [17] (fun v17 wc => ∃ (kq : Nat) (x17_1 : Bool), v17 = .bool x17_1 ∧ Aside0 (regcertref08_Check.j0 kq x17_1 a0_0 a0_1 a0_2 l0_3 = some r) ∧ Aside0 (kq ≤ k) ∧ Aside0 (wc.heap[gb205]? = some (.cells #[.int .i64 a0_0, .int .i64 a0_1, .int .i64 a0_2, (.slice A0_3 l0_3.length c0_3)] 63 (0, 0))) ∧ Aside0 (Below w.heap.size w wc))
 case first =>
  have H := HC2.out
  clear HC2
  by_cases c4 : a0_0 < 0
  rotate_left
  ·rw [if_neg c4] at H
   have c4b0 : decide (a0_0 < 0) = false := decide_eq_false c4
   clear c4
   (first | rw [c4b0] | (simp only [i64_w, i32_w]; rw [c4b0]) | skip)
   have H' := As0 H
   clear H
   obtain ⟨hcz6_0, hcz6_1, hcz6_2, hcz6_3, hfz6_0, hfz6_1, hfz6_2, hfz6_3⟩ := cN4 BK205.out
   go_wp2
   go_meet
   case rel => exact ⟨_, (decide (a0_0 > a0_2)), (by first | rfl | (simp; done) | (simp [*]; done)), H', ⟨by first | omega | exact Nat.le_refl _⟩, ⟨bU BK205.out⟩, ⟨BU HB.out⟩⟩
  rw [if_pos c4] at H
  have c4b0 : decide (a0_0 < 0) = true := decide_eq_true c4
  clear c4
  (first | rw [c4b0] | (simp only [i64_w, i32_w]; rw [c4b0]) | skip)
  have H' := As0 H
  clear H
  obtain ⟨hcz5_0, hcz5_1, hcz5_2, hcz5_3, hfz5_0, hfz5_1, hfz5_2, hfz5_3⟩ := cN4 BK205.out
  go_wp2
  go_meet
  case rel => exact ⟨_, (true), (by first | rfl | (simp; done) | (simp [*]; done)), H', ⟨by first | omega | exact Nat.le_refl _⟩, ⟨bU BK205.out⟩, ⟨BU HB.out⟩⟩
 case rest =>
  clear HC2
  try clear p2
  try clear c4
  try clear c4b0
  try clear hcz5_0
  try clear hcz5_1
  try clear hcz5_2
  try clear hcz5_3
  try clear hcz6_0
  try clear hcz6_1
  try clear hcz6_2
  try clear hcz6_3
  try clear hfz5_0
  try clear hfz5_1
  try clear hfz5_2
  try clear hfz5_3
  try clear hfz6_0
  try clear hfz6_1
  try clear hfz6_2
  try clear hfz6_3
  obtain ⟨kq, x17_1, rfl, HA, HJ1, BK205, HB⟩ := hcut
  cases kq with
  | zero => exact absurd HA.out (by simp [regcertref08_Check.j0])
  | succ kj1 =>
   have H := HA.out
   clear HA
   simp only [regcertref08_Check.j0] at H
   by_cases c7 : x17_1 = true
   ·subst c7
    rw [if_pos rfl] at H
    obtain rfl := Option.some.inj H
    go_wp2
    go_ret
    exact ⟨by first | rfl | (simp [errW_none, errW_some] <;> rfl) | (simp [*, errW_none, errW_some] <;> rfl), BU HB.out⟩
   replace c7 := Bool.eq_false_iff.mpr c7
   subst c7
   rw [if_neg (show ¬ (false = true) by decide)] at H
   by_cases c8 : a0_1 < 0
   ·rw [if_pos c8] at H
    have c8b0 : decide (a0_1 < 0) = true := decide_eq_true c8
    clear c8
    obtain rfl := Option.some.inj H
    obtain ⟨hcz9_0, hcz9_1, hcz9_2, hcz9_3, hfz9_0, hfz9_1, hfz9_2, hfz9_3⟩ := cN4 BK205.out
    go_wp2
    go_ret
    exact ⟨by first | rfl | (simp [errW_none, errW_some] <;> rfl) | (simp [*, errW_none, errW_some] <;> rfl), BU HB.out⟩
   rw [if_neg c8] at H
   have c8b0 : decide (a0_1 < 0) = false := decide_eq_false c8
   clear c8
   have HC10 := As0 H
   clear H
   obtain ⟨hcz11_0, hcz11_1, hcz11_2, hcz11_3, hfz11_0, hfz11_1, hfz11_2, hfz11_3⟩ := cN4 BK205.out
   go_upto_region 5 with (fail)
   go_cut [28] (fun v28 wc => ∃ (kq : Nat) (x28_9 : Bool), v28 = .bool x28_9 ∧ Aside0 (regcertref08_Check.j1 kq x28_9 a0_0 a0_1 a0_2 l0_3 = some r) ∧ Aside0 (kq ≤ kj1) ∧ Aside0 (wc.heap[gb205]? = some (.cells #[.int .i64 a0_0, .int .i64 a0_1, .int .i64 a0_2, (.slice A0_3 l0_3.length c0_3)] 63 (0, 0))) ∧ Aside0 (Below w.heap.size w wc))
   case first =>
    have H := HC10.out
    clear HC10
    by_cases c12 : a0_2 > 1048576
    rotate_left
    ·rw [if_neg c12] at H
     have c12b0 : decide (1048576 < a0_2) = false := decide_eq_false c12
     clear c12
     (first | rw [c12b0] | (simp only [i64_w, i32_w]; rw [c12b0]) | skip)
     have H' := As0 H
     clear H
     obtain ⟨hcz14_0, hcz14_1, hcz14_2, hcz14_3, hfz14_0, hfz14_1, hfz14_2, hfz14_3⟩ := cN4 BK205.out
     go_wp2
     go_meet
     case rel => exact ⟨_, (decide (a0_1 > 1048576)), (by first | rfl | (simp; done) | (simp [*]; done)), H', ⟨by have := HJ1.out; first | omega | exact Nat.le_refl _⟩, ⟨bU BK205.out⟩, ⟨BU HB.out⟩⟩
    rw [if_pos c12] at H
    have c12b0 : decide (1048576 < a0_2) = true := decide_eq_true c12
    clear c12
    (first | rw [c12b0] | (simp only [i64_w, i32_w]; rw [c12b0]) | skip)
    have H' := As0 H
    clear H
    obtain ⟨hcz13_0, hcz13_1, hcz13_2, hcz13_3, hfz13_0, hfz13_1, hfz13_2, hfz13_3⟩ := cN4 BK205.out
    go_wp2
    go_meet
    case rel => exact ⟨_, (true), (by first | rfl | (simp; done) | (simp [*]; done)), H', ⟨by have := HJ1.out; first | omega | exact Nat.le_refl _⟩, ⟨bU BK205.out⟩, ⟨BU HB.out⟩⟩
   case rest =>
    clear HC10
    try clear c1
    try clear p2
    try clear c4
    try clear c4b0
    try clear c7
    try clear c8
    try clear c8b0
    try clear c12
    try clear c12b0
    try clear hcz11_0
    try clear hcz11_1
    try clear hcz11_2
    try clear hcz11_3
    try clear hcz13_0
    try clear hcz13_1
    try clear hcz13_2
    try clear hcz13_3
    try clear hcz14_0
    try clear hcz14_1
    try clear hcz14_2
    try clear hcz14_3
    try clear hcz5_0
    try clear hcz5_1
    try clear hcz5_2
    try clear hcz5_3
    try clear hcz6_0
    try clear hcz6_1
    try clear hcz6_2
    try clear hcz6_3
    try clear hcz9_0
    try clear hcz9_1
    try clear hcz9_2
    try clear hcz9_3
    try clear hfz11_0
    try clear hfz11_1
    try clear hfz11_2
    try clear hfz11_3
    try clear hfz13_0
    try clear hfz13_1
    try clear hfz13_2
    try clear hfz13_3
    try clear hfz14_0
    try clear hfz14_1
    try clear hfz14_2
    try clear hfz14_3
    try clear hfz5_0
    try clear hfz5_1
    try clear hfz5_2
    try clear hfz5_3
    try clear hfz6_0
    try clear hfz6_1
    try clear hfz6_2
    try clear hfz6_3
    try clear hfz9_0
    try clear hfz9_1
    try clear hfz9_2
    try clear hfz9_3
    try clear p2
    obtain ⟨kq, x28_9, rfl, HA, HJ9, BK205, HB⟩ := hcut
    cases kq with
    | zero => exact absurd HA.out (by simp [regcertref08_Check.j1])
    | succ kj9 =>
     have H := HA.out
     clear HA
     simp only [regcertref08_Check.j1] at H
     by_cases c15 : x28_9 = true
     ·subst c15
      rw [if_pos rfl] at H
      obtain rfl := Option.some.inj H
      go_wp2
      go_ret
      exact ⟨by first | rfl | (simp [errW_none, errW_some] <;> rfl) | (simp [*, errW_none, errW_some] <;> rfl), BU HB.out⟩
     replace c15 := Bool.eq_false_iff.mpr c15
     subst c15
     rw [if_neg (show ¬ (false = true) by decide)] at H
     by_cases c16 : (l0_3.length : Int) = 0
     ·rw [if_pos c16] at H
      have c16b0 : ((l0_3.length : Int) == 0) = true := beq_iff_eq.mpr c16
      have c16b1 : ((l0_3.length : Int) != 0) = false := bne_eq_false_iff_eq.mpr c16
      clear c16
      obtain rfl := Option.some.inj H
      obtain ⟨hcz17_0, hcz17_1, hcz17_2, hcz17_3, hfz17_0, hfz17_1, hfz17_2, hfz17_3⟩ := cN4 BK205.out
      go_wp2
      go_ret
      exact ⟨by first | rfl | (simp [errW_none, errW_some] <;> rfl) | (simp [*, errW_none, errW_some] <;> rfl), BU HB.out⟩
     rw [if_neg c16] at H
     have c16b0 : ((l0_3.length : Int) == 0) = false := beq_eq_false_iff_ne.mpr c16
     have c16b1 : ((l0_3.length : Int) != 0) = true := bne_iff_ne.mpr c16
     have c16b2 : ¬ (l0_3 = []) := fun h_ => c16 (by rw [h_]; rfl)
     have HC18 := As0 H
     clear H
     obtain ⟨hcz19_0, hcz19_1, hcz19_2, hcz19_3, hfz19_0, hfz19_1, hfz19_2, hfz19_3⟩ := cN4 BK205.out
     go_upto_region 9 with (fail)
     go_cut [41] (fun v41 wc => ∃ (kq : Nat) (x41_17 : Bool), v41 = .bool x41_17 ∧ Aside0 (regcertref08_Check.j2 kq x41_17 a0_0 a0_1 a0_2 l0_3 = some r) ∧ Aside0 (kq ≤ kj9) ∧ Aside0 (wc.heap[gb205]? = some (.cells #[.int .i64 a0_0, .int .i64 a0_1, .int .i64 a0_2, (.slice A0_3 l0_3.length c0_3)] 63 (0, 0))) ∧ Aside0 (Below w.heap.size w wc))
     case first =>
      have H := HC18.out
      clear HC18
      by_cases c20 : (l0_3.length : Int) > 1048576
      ·rw [if_pos c20] at H
       have c20b0 : decide (1048576 < (l0_3.length : Int)) = true := decide_eq_true c20
       have c20b1 : decide (1048576 < l0_3.length) = true := decide_eq_true (by omega)
       clear c20
       (first | rw [c20b0] | (simp only [i64_w, i32_w]; rw [c20b0]) | skip)
       have H' := As0 H
       clear H
       obtain ⟨hcz21_0, hcz21_1, hcz21_2, hcz21_3, hfz21_0, hfz21_1, hfz21_2, hfz21_3⟩ := cN4 BK205.out
       go_wp2
       go_meet
       case rel => exact ⟨_, (true), (by first | rfl | (simp; done) | (simp [*]; done)), H', ⟨by have := HJ1.out; have := HJ9.out; first | omega | exact Nat.le_refl _⟩, ⟨bU BK205.out⟩, ⟨BU HB.out⟩⟩
      rw [if_neg c20] at H
      have c20b0 : decide (1048576 < (l0_3.length : Int)) = false := decide_eq_false c20
      have c20b1 : decide (1048576 < l0_3.length) = false := decide_eq_false (by omega)
      clear c20
      (first | rw [c20b0] | (simp only [i64_w, i32_w]; rw [c20b0]) | skip)
      replace H := Option.bind_eq_some_iff.mp H
      obtain ⟨t206, A220, H⟩ := H
      have A22 := As0 A220
      clear A220
      have H' := As0 H
      clear H
      obtain ⟨hcz23_0, hcz23_1, hcz23_2, hcz23_3, hfz23_0, hfz23_1, hfz23_2, hfz23_3⟩ := cN4 BK205.out
      go_wp2_with (first | (go_at_call 70; (with_reducible refine (regcertref08_Code.calls kj9 a0_0 a0_1 a0_2 _ _ l0_3 t206 _ ?side1 ?side2 A22.out).mono ?_); (case side1 => repeat (first | exact (Kd.C_below HR0_3.out HB.out) | (with_reducible refine Kd.C_alloc ?_ _) | (with_reducible refine Kd.C_drewN ?_ _) | (with_reducible refine Kd.C_drew ?_))); (case side2 => exact HC0_3.out); rintro e w24 ⟨rfl, hb⟩; replace BK205 := As0 (blk_below (bU BK205.out) hb); replace HB := As0 (below_step (BU HB.out) hb); (try clear hb); (try clear hb2); (try clear hk); (try clear hi)))
      go_meet
      case rel => exact ⟨_, (decide (t206 > 1048576)), (by first | rfl | (simp; done) | (simp [*]; done)), H', ⟨by have := HJ1.out; have := HJ9.out; first | omega | exact Nat.le_refl _⟩, ⟨bU BK205.out⟩, ⟨BU HB.out⟩⟩
     case rest =>
      clear HC18
      try clear c1
      try clear c2
      try clear p2
      try clear c4
      try clear c4b0
      try clear c7
      try clear c8
      try clear c8b0
      try clear c12
      try clear c12b0
      try clear c15
      try clear c16
      try clear c16b0
      try clear c16b1
      try clear c16b2
      try clear c20
      try clear c20b0
      try clear c20b1
      try clear hcz11_0
      try clear hcz11_1
      try clear hcz11_2
      try clear hcz11_3
      try clear hcz13_0
      try clear hcz13_1
      try clear hcz13_2
      try clear hcz13_3
      try clear hcz14_0
      try clear hcz14_1
      try clear hcz14_2
      try clear hcz14_3
      try clear hcz17_0
      try clear hcz17_1
      try clear hcz17_2
      try clear hcz17_3
      try clear hcz19_0
      try clear hcz19_1
      try clear hcz19_2
      try clear hcz19_3
      try clear hcz21_0
      try clear hcz21_1
      try clear hcz21_2
      try clear hcz21_3
      try clear hcz23_0
      try clear hcz23_1
      try clear hcz23_2
      try clear hcz23_3
      try clear hcz5_0
      try clear hcz5_1
      try clear hcz5_2
      try clear hcz5_3
      try clear hcz6_0
      try clear hcz6_1
      try clear hcz6_2
      try clear hcz6_3
      try clear hcz9_0
      try clear hcz9_1
      try clear hcz9_2
      try clear hcz9_3
      try clear hfz11_0
      try clear hfz11_1
      try clear hfz11_2
      try clear hfz11_3
      try clear hfz13_0
      try clear hfz13_1
      try clear hfz13_2
      try clear hfz13_3
      try clear hfz14_0
      try clear hfz14_1
      try clear hfz14_2
      try clear hfz14_3
      try clear hfz17_0
      try clear hfz17_1
      try clear hfz17_2
      try clear hfz17_3
      try clear hfz19_0
      try clear hfz19_1
      try clear hfz19_2
      try clear hfz19_3
      try clear hfz21_0
      try clear hfz21_1
      try clear hfz21_2
      try clear hfz21_3
      try clear hfz23_0
      try clear hfz23_1
      try clear hfz23_2
      try clear hfz23_3
      try clear hfz5_0
      try clear hfz5_1
      try clear hfz5_2
      try clear hfz5_3
      try clear hfz6_0
      try clear hfz6_1
      try clear hfz6_2
      try clear hfz6_3
      try clear hfz9_0
      try clear hfz9_1
      try clear hfz9_2
      try clear hfz9_3
      try clear p2
      obtain ⟨kq, x41_17, rfl, HA, HJ17, BK205, HB⟩ := hcut
      cases kq with
      | zero => exact absurd HA.out (by simp [regcertref08_Check.j2])
      | succ kj17 =>
       have H := HA.out
       clear HA
       simp only [regcertref08_Check.j2] at H
       by_cases c25 : x41_17 = true
       ·subst c25
        rw [if_pos rfl] at H
        obtain rfl := Option.some.inj H
        go_wp2
        go_ret
        exact ⟨by first | rfl | (simp [errW_none, errW_some] <;> rfl) | (simp [*, errW_none, errW_some] <;> rfl), BU HB.out⟩
       replace c25 := Bool.eq_false_iff.mpr c25
       subst c25
       rw [if_neg (show ¬ (false = true) by decide)] at H
       have H' := As0 H
       clear H
       go_wp2
       go_loopg [3] kj17 (fun kq v3 w' => ∃ (x3_4 : Int), v3 = .int .i64 x3_4 ∧ Aside0 (regcertref08_Check.l0 kq x3_4 a0_0 a0_1 a0_2 l0_3 = some r) ∧ Aside0 (kq ≤ kj17) ∧ Aside0 (w'.heap[gb205]? = some (.cells #[.int .i64 a0_0, .int .i64 a0_1, .int .i64 a0_2, (.slice A0_3 l0_3.length c0_3)] 63 (0, 0))) ∧ Aside0 (Below w.heap.size w w'))
       case atStart => exact ⟨(0), (by first | rfl | (simp; done) | (simp [*]; done)), H', ⟨Nat.le_refl _⟩, ⟨bU BK205.out⟩, ⟨BU HB.out⟩⟩
       case round =>
        clear H'
        try clear c1
        try clear c2
        try clear p2
        try clear c4
        try clear c4b0
        try clear c7
        try clear c8
        try clear c8b0
        try clear c12
        try clear c12b0
        try clear c15
        try clear c16
        try clear c16b0
        try clear c16b1
        try clear c16b2
        try clear c20
        try clear c20b0
        try clear c20b1
        try clear c25
        try clear hcz11_0
        try clear hcz11_1
        try clear hcz11_2
        try clear hcz11_3
        try clear hcz13_0
        try clear hcz13_1
        try clear hcz13_2
        try clear hcz13_3
        try clear hcz14_0
        try clear hcz14_1
        try clear hcz14_2
        try clear hcz14_3
        try clear hcz17_0
        try clear hcz17_1
        try clear hcz17_2
        try clear hcz17_3
        try clear hcz19_0
        try clear hcz19_1
        try clear hcz19_2
        try clear hcz19_3
        try clear hcz21_0
        try clear hcz21_1
        try clear hcz21_2
        try clear hcz21_3
        try clear hcz23_0
        try clear hcz23_1
        try clear hcz23_2
        try clear hcz23_3
        try clear hcz5_0
        try clear hcz5_1
        try clear hcz5_2
        try clear hcz5_3
        try clear hcz6_0
        try clear hcz6_1
        try clear hcz6_2
        try clear hcz6_3
        try clear hcz9_0
        try clear hcz9_1
        try clear hcz9_2
        try clear hcz9_3
        try clear hfz11_0
        try clear hfz11_1
        try clear hfz11_2
        try clear hfz11_3
        try clear hfz13_0
        try clear hfz13_1
        try clear hfz13_2
        try clear hfz13_3
        try clear hfz14_0
        try clear hfz14_1
        try clear hfz14_2
        try clear hfz14_3
        try clear hfz17_0
        try clear hfz17_1
        try clear hfz17_2
        try clear hfz17_3
        try clear hfz19_0
        try clear hfz19_1
        try clear hfz19_2
        try clear hfz19_3
        try clear hfz21_0
        try clear hfz21_1
        try clear hfz21_2
        try clear hfz21_3
        try clear hfz23_0
        try clear hfz23_1
        try clear hfz23_2
        try clear hfz23_3
        try clear hfz5_0
        try clear hfz5_1
        try clear hfz5_2
        try clear hfz5_3
        try clear hfz6_0
        try clear hfz6_1
        try clear hfz6_2
        try clear hfz6_3
        try clear hfz9_0
        try clear hfz9_1
        try clear hfz9_2
        try clear hfz9_3
        try clear p2
        obtain ⟨x3_4, rfl, HA, HK4, BK205, HB⟩ := hrel
        cases gk with
        | zero => exact absurd HA.out (by simp [regcertref08_Check.l0])
        | succ k4 =>
         have H := HA.out
         clear HA
         simp only [regcertref08_Check.l0] at H
         by_cases c26 : x3_4 < (l0_3.length : Int)
         rotate_left
         ·rw [if_neg c26] at H
          have c26b0 : decide (x3_4 < (l0_3.length : Int)) = false := decide_eq_false c26
          clear c26
          obtain rfl := Option.some.inj H
          obtain ⟨hcz65_0, hcz65_1, hcz65_2, hcz65_3, hfz65_0, hfz65_1, hfz65_2, hfz65_3⟩ := cN4 BK205.out
          go_wp2
          go_ret
          exact ⟨by first | rfl | (simp [errW_none, errW_some] <;> rfl) | (simp [*, errW_none, errW_some] <;> rfl), BU HB.out⟩
         rw [if_pos c26] at H
         have c26b0 : decide (x3_4 < (l0_3.length : Int)) = true := decide_eq_true c26
         clear c26
         by_cases c27 : 0 ≤ x3_4
         rotate_left
         ·rw [if_neg c27] at H
          exact absurd H (by simp)
         rw [if_pos c27] at H
         have c27b0 : decide (0 ≤ x3_4) = true := decide_eq_true c27
         clear c27
         have H' := As0 H
         clear H
         obtain ⟨hcz28_0, hcz28_1, hcz28_2, hcz28_3, hfz28_0, hfz28_1, hfz28_2, hfz28_3⟩ := cN4 BK205.out
         have p207 : 0 ≤ (x3_4 : Int) := of_decide_eq_true (by first | (with_reducible assumption) | assumption)
         have q207 : x3_4 < (l0_3.length : Int) := of_decide_eq_true (by first | (with_reducible assumption) | assumption)
         obtain ⟨ad207, A207_0, c207_0, e207, hx207_0, hx207_1, hx207_2, hx207_3, hx207_4, hl207_0, hi207_0⟩ := at_T69 HR0_3.out x3_4 p207 q207
         cases e207
         replace hx207_0 := (HB.out.cell (wblt w hx207_0)).trans hx207_0
         replace hx207_1 := (HB.out.cell (wblt w hx207_1)).trans hx207_1
         replace hx207_2 := (HB.out.cell (wblt w hx207_2)).trans hx207_2
         replace hx207_3 := (HB.out.cell (wblt w hx207_3)).trans hx207_3
         replace hx207_4 := (HB.out.cell (wblt w hx207_4)).trans hx207_4
         have HR207_0 := As0 hi207_0
         have HC207_0 := As0 hl207_0
         clear hi207_0 hl207_0
         replace p207 := eq_true p207
         replace q207 := eq_true q207
         go_wp2_with (first | ((with_reducible refine gate_dst (N := 4) rfl ?_); refine bX (N := 4) (cs := #[.slice none 0 0, .int .i64 0, .int .i64 0, .int .i64 0, .int .i64 0]) (t := 69) ?_; intro gb208 hg w29 hbox hb; have BK208 := As0 (hbox); have GW208 := As0 ((by rw [hg]; exact (below_size (BU HB.out)) : w.heap.size ≤ gb208)); have GE208 := As0 ((by rw [hg]; exact (below_size (BU HB.out)) : w.heap.size ≤ gb208)); replace HB := As0 (below_step (BU HB.out) hb); have NB205_208 := As0 ((by rw [hg]; exact Nat.ne_of_lt (blk_lt (bU BK205.out)) : gb205 ≠ gb208)); have NB208_205 := As0 ((by rw [hg]; exact Nat.ne_of_gt (blk_lt (bU BK205.out)) : gb208 ≠ gb205)); replace BK205 := As0 (blk_below (bU BK205.out) hb); clear hb hbox hg; have hnb30 := NB208_205.out; have hnc30 := NB205_208.out; obtain ⟨hcz31_0, hcz31_1, hcz31_2, hcz31_3, hcz31_4, hfz31_0, hfz31_1, hfz31_2, hfz31_3, hfz31_4⟩ := cN5 BK208.out))
         go_loopg [5] k4 (fun kq v5 w' => ∃ (x5_5 : Int), v5 = .int .i64 x5_5 ∧ Aside0 (regcertref08_Check.l1 kq x3_4 x5_5 a0_0 a0_1 a0_2 l0_3 ((rd_T69 l0_3 x3_4).f0) ((rd_T69 l0_3 x3_4).f1.f0) ((rd_T69 l0_3 x3_4).f1.f1) ((rd_T69 l0_3 x3_4).f1.f2) ((rd_T69 l0_3 x3_4).f1.f3) = some r) ∧ Aside0 (kq ≤ k4) ∧ Aside0 (w'.heap[gb205]? = some (.cells #[.int .i64 a0_0, .int .i64 a0_1, .int .i64 a0_2, (.slice (some ad207) l0_3.length c0_3)] 63 (0, 0))) ∧ Aside0 (w'.heap[gb208]? = some (.cells #[(.slice A207_0 ((rd_T69 l0_3 x3_4).f0).length c207_0), .int .i64 ((rd_T69 l0_3 x3_4).f1.f0), .int .i64 ((rd_T69 l0_3 x3_4).f1.f1), .int .i64 ((rd_T69 l0_3 x3_4).f1.f2), .int .i64 ((rd_T69 l0_3 x3_4).f1.f3)] 69 (0, 0))) ∧ Aside0 (Below w.heap.size w w'))
         case atStart => exact ⟨(0), (by first | rfl | (simp; done) | (simp [*]; done)), H', ⟨Nat.le_refl _⟩, ⟨by (with_reducible repeat (first | refine bN ?_ _ | refine bD ?_ | refine bA ?_ _)); refine blk_far ?_ NB205_208.out _; (with_reducible repeat (first | refine bN ?_ _ | refine bD ?_ | refine bA ?_ _)); refine blk_far ?_ NB205_208.out _; (with_reducible repeat (first | refine bN ?_ _ | refine bD ?_ | refine bA ?_ _)); refine blk_far ?_ NB205_208.out _; (with_reducible repeat (first | refine bN ?_ _ | refine bD ?_ | refine bA ?_ _)); refine blk_far ?_ NB205_208.out _; (with_reducible repeat (first | refine bN ?_ _ | refine bD ?_ | refine bA ?_ _)); refine blk_far ?_ NB205_208.out _; (with_reducible repeat (first | refine bN ?_ _ | refine bD ?_ | refine bA ?_ _)); exact BK205.out⟩, ⟨by (with_reducible repeat (first | refine bN ?_ _ | refine bD ?_ | refine bA ?_ _)); refine blk_put (cs := #[.slice A207_0 ((rd_T69 l0_3 x3_4).f0).length c207_0, .int .i64 ((rd_T69 l0_3 x3_4).f1.f0), .int .i64 ((rd_T69 l0_3 x3_4).f1.f1), .int .i64 ((rd_T69 l0_3 x3_4).f1.f2), .int .i64 0]) ?_ 4 _ rfl; (with_reducible repeat (first | refine bN ?_ _ | refine bD ?_ | refine bA ?_ _)); refine blk_put (cs := #[.slice A207_0 ((rd_T69 l0_3 x3_4).f0).length c207_0, .int .i64 ((rd_T69 l0_3 x3_4).f1.f0), .int .i64 ((rd_T69 l0_3 x3_4).f1.f1), .int .i64 0, .int .i64 0]) ?_ 3 _ rfl; (with_reducible repeat (first | refine bN ?_ _ | refine bD ?_ | refine bA ?_ _)); refine blk_put (cs := #[.slice A207_0 ((rd_T69 l0_3 x3_4).f0).length c207_0, .int .i64 ((rd_T69 l0_3 x3_4).f1.f0), .int .i64 0, .int .i64 0, .int .i64 0]) ?_ 2 _ rfl; (with_reducible repeat (first | refine bN ?_ _ | refine bD ?_ | refine bA ?_ _)); refine blk_put (cs := #[.slice A207_0 ((rd_T69 l0_3 x3_4).f0).length c207_0, .int .i64 0, .int .i64 0, .int .i64 0, .int .i64 0]) ?_ 1 _ rfl; (with_reducible repeat (first | refine bN ?_ _ | refine bD ?_ | refine bA ?_ _)); refine blk_put (cs := #[.slice none 0 0, .int .i64 0, .int .i64 0, .int .i64 0, .int .i64 0]) ?_ 0 _ rfl; (with_reducible repeat (first | refine bN ?_ _ | refine bD ?_ | refine bA ?_ _)); exact BK208.out⟩, ⟨BU HB.out⟩⟩
         case round =>
          clear H'
          try clear c1
          try clear c2
          try clear p2
          try clear q2
          try clear hx2
          try clear c3
          try clear c4
          try clear c4b0
          try clear c7
          try clear c8
          try clear c8b0
          try clear c12
          try clear c12b0
          try clear c15
          try clear c16
          try clear c16b0
          try clear c16b1
          try clear c16b2
          try clear c20
          try clear c20b0
          try clear c20b1
          try clear p20
          try clear q20
          try clear hx20
          try clear c25
          try clear c26
          try clear c26b0
          try clear c27
          try clear c27b0
          try clear c30
          try clear hcz11_0
          try clear hcz11_1
          try clear hcz11_2
          try clear hcz11_3
          try clear hcz13_0
          try clear hcz13_1
          try clear hcz13_2
          try clear hcz13_3
          try clear hcz14_0
          try clear hcz14_1
          try clear hcz14_2
          try clear hcz14_3
          try clear hcz17_0
          try clear hcz17_1
          try clear hcz17_2
          try clear hcz17_3
          try clear hcz19_0
          try clear hcz19_1
          try clear hcz19_2
          try clear hcz19_3
          try clear hcz21_0
          try clear hcz21_1
          try clear hcz21_2
          try clear hcz21_3
          try clear hcz23_0
          try clear hcz23_1
          try clear hcz23_2
          try clear hcz23_3
          try clear hcz28_0
          try clear hcz28_1
          try clear hcz28_2
          try clear hcz28_3
          try clear hcz31_0
          try clear hcz31_1
          try clear hcz31_2
          try clear hcz31_3
          try clear hcz31_4
          try clear hcz5_0
          try clear hcz5_1
          try clear hcz5_2
          try clear hcz5_3
          try clear hcz6_0
          try clear hcz6_1
          try clear hcz6_2
          try clear hcz6_3
          try clear hcz9_0
          try clear hcz9_1
          try clear hcz9_2
          try clear hcz9_3
          try clear hfz11_0
          try clear hfz11_1
          try clear hfz11_2
          try clear hfz11_3
          try clear hfz13_0
          try clear hfz13_1
          try clear hfz13_2
          try clear hfz13_3
          try clear hfz14_0
          try clear hfz14_1
          try clear hfz14_2
          try clear hfz14_3
          try clear hfz17_0
          try clear hfz17_1
          try clear hfz17_2
          try clear hfz17_3
          try clear hfz19_0
          try clear hfz19_1
          try clear hfz19_2
          try clear hfz19_3
          try clear hfz21_0
          try clear hfz21_1
          try clear hfz21_2
          try clear hfz21_3
          try clear hfz23_0
          try clear hfz23_1
          try clear hfz23_2
          try clear hfz23_3
          try clear hfz28_0
          try clear hfz28_1
          try clear hfz28_2
          try clear hfz28_3
          try clear hfz31_0
          try clear hfz31_1
          try clear hfz31_2
          try clear hfz31_3
          try clear hfz31_4
          try clear hfz5_0
          try clear hfz5_1
          try clear hfz5_2
          try clear hfz5_3
          try clear hfz6_0
          try clear hfz6_1
          try clear hfz6_2
          try clear hfz6_3
          try clear hfz9_0
          try clear hfz9_1
          try clear hfz9_2
          try clear hfz9_3
          try clear hx207_0
          try clear hx207_1
          try clear hx207_2
          try clear hx207_3
          try clear hx207_4
          try clear p2
          try clear p207
          try clear q207
          obtain ⟨x5_5, rfl, HA, HK5, BK205, BK208, HB⟩ := hrel
          cases gk with
          | zero => exact absurd HA.out (by simp [regcertref08_Check.l1])
          | succ k5 =>
           have H := HA.out
           clear HA
           simp only [regcertref08_Check.l1] at H
           by_cases c32 : x5_5 < (((rd_T69 l0_3 x3_4).f0).length : Int)
           rotate_left
           ·rw [if_neg c32] at H
            have c32b0 : decide (x5_5 < (((rd_T69 l0_3 x3_4).f0).length : Int)) = false := decide_eq_false c32
            clear c32
            replace H := Option.bind_eq_some_iff.mp H
            obtain ⟨t216, A550, H⟩ := H
            have A55 := As0 A550
            clear A550
            by_cases c56 : t216 = 0
            rotate_left
            ·rw [if_neg c56] at H
             have c56b0 : (t216 == 0) = false := beq_eq_false_iff_ne.mpr c56
             have c56b1 : (t216 != 0) = true := bne_iff_ne.mpr c56
             obtain rfl := Option.some.inj H
             have hnb61 := NB208_205.out
             have hnc61 := NB205_208.out
             obtain ⟨hcz62_0, hcz62_1, hcz62_2, hcz62_3, hcz62_4, hfz62_0, hfz62_1, hfz62_2, hfz62_3, hfz62_4⟩ := cN5 BK208.out
             obtain ⟨hcz63_0, hcz63_1, hcz63_2, hcz63_3, hfz63_0, hfz63_1, hfz63_2, hfz63_3⟩ := cN4 BK205.out
             go_wp2_with (first | ((with_reducible refine gate_callee (f := 66) rfl ?_); refine goesL_ (some 94) rfl rfl Try.func66 (by kernel_rfl) rfl #[.agg #[.int .i64 ((rd_T69 l0_3 x3_4).f1.f0), .int .i64 ((rd_T69 l0_3 x3_4).f1.f1), .int .i64 ((rd_T69 l0_3 x3_4).f1.f2), .int .i64 ((rd_T69 l0_3 x3_4).f1.f3)], .int .i64 a0_1, .int .i64 (l0_3.length : Int)] rfl (by (try simp only [List.map_toArray, List.map_cons, List.map_nil]); first | done | rfl | (simp only [List.length_drop, List.length_take]; rfl)) ?_; (with_reducible refine (regcertref07_Term.calls ((rd_T69 l0_3 x3_4).f1.f0) ((rd_T69 l0_3 x3_4).f1.f1) ((rd_T69 l0_3 x3_4).f1.f2) ((rd_T69 l0_3 x3_4).f1.f3) a0_1 (l0_3.length : Int) t216 _ A55.out).mono ?_); rintro e w64 ⟨rfl, hb⟩; refine ⟨_, rfl, ?_⟩; replace BK205 := As0 (blk_below (bU BK205.out) hb); replace BK208 := As0 (blk_below (bU BK208.out) hb); replace HB := As0 (below_step (BU HB.out) hb); (try clear hb); (try clear hb2); (try clear hk); (try clear hi)))
             go_ret
             exact ⟨by first | rfl | (simp [errW_none, errW_some] <;> rfl) | (simp [*, errW_none, errW_some] <;> rfl), BU HB.out⟩
            rw [if_pos c56] at H
            have c56b0 : (t216 == 0) = true := beq_iff_eq.mpr c56
            have c56b1 : (t216 != 0) = false := bne_eq_false_iff_eq.mpr c56
            clear c56
            have H' := As0 H
            clear H
            have hnb57 := NB208_205.out
            have hnc57 := NB205_208.out
            obtain ⟨hcz58_0, hcz58_1, hcz58_2, hcz58_3, hcz58_4, hfz58_0, hfz58_1, hfz58_2, hfz58_3, hfz58_4⟩ := cN5 BK208.out
            obtain ⟨hcz59_0, hcz59_1, hcz59_2, hcz59_3, hfz59_0, hfz59_1, hfz59_2, hfz59_3⟩ := cN4 BK205.out
            go_wp2_with (first | ((with_reducible refine gate_callee (f := 66) rfl ?_); refine goesL_ (some 94) rfl rfl Try.func66 (by kernel_rfl) rfl #[.agg #[.int .i64 ((rd_T69 l0_3 x3_4).f1.f0), .int .i64 ((rd_T69 l0_3 x3_4).f1.f1), .int .i64 ((rd_T69 l0_3 x3_4).f1.f2), .int .i64 ((rd_T69 l0_3 x3_4).f1.f3)], .int .i64 a0_1, .int .i64 (l0_3.length : Int)] rfl (by (try simp only [List.map_toArray, List.map_cons, List.map_nil]); first | done | rfl | (simp only [List.length_drop, List.length_take]; rfl)) ?_; (with_reducible refine (regcertref07_Term.calls ((rd_T69 l0_3 x3_4).f1.f0) ((rd_T69 l0_3 x3_4).f1.f1) ((rd_T69 l0_3 x3_4).f1.f2) ((rd_T69 l0_3 x3_4).f1.f3) a0_1 (l0_3.length : Int) t216 _ A55.out).mono ?_); rintro e w60 ⟨rfl, hb⟩; refine ⟨_, rfl, ?_⟩; replace BK205 := As0 (blk_below (bU BK205.out) hb); replace BK208 := As0 (blk_below (bU BK208.out) hb); replace HB := As0 (below_step (BU HB.out) hb); (try clear hb); (try clear hb2); (try clear hk); (try clear hi)))
            go_roundg k5
            case measure => have := HJ1.out; have := HJ9.out; have := HJ17.out; have := HK4.out; have := HK5.out; omega
            case rel => exact ⟨(wrap64 (x3_4 + 1)), (by first | rfl | (simp; done) | (simp [*]; done)), H', ⟨by have := HJ1.out; have := HJ9.out; have := HJ17.out; have := HK4.out; have := HK5.out; omega⟩, ⟨bU BK205.out⟩, ⟨BU HB.out⟩⟩
           rw [if_pos c32] at H
           have c32b0 : decide (x5_5 < (((rd_T69 l0_3 x3_4).f0).length : Int)) = true := decide_eq_true c32
           clear c32
           by_cases c33 : 0 ≤ x5_5
           rotate_left
           ·rw [if_neg c33] at H
            exact absurd H (by simp)
           rw [if_pos c33] at H
           have c33b0 : decide (0 ≤ x5_5) = true := decide_eq_true c33
           clear c33
           replace H := Option.bind_eq_some_iff.mp H
           obtain ⟨t210, A340, H⟩ := H
           have A34 := As0 A340
           clear A340
           by_cases c35 : t210 = 0
           rotate_left
           ·rw [if_neg c35] at H
            have c35b0 : (t210 == 0) = false := beq_eq_false_iff_ne.mpr c35
            have c35b1 : (t210 != 0) = true := bne_iff_ne.mpr c35
            obtain rfl := Option.some.inj H
            have hnb51 := NB208_205.out
            have hnc51 := NB205_208.out
            obtain ⟨hcz52_0, hcz52_1, hcz52_2, hcz52_3, hcz52_4, hfz52_0, hfz52_1, hfz52_2, hfz52_3, hfz52_4⟩ := cN5 BK208.out
            try go_wp2
            replace BK205 := As0 (blk_drew BK205.out)
            replace BK208 := As0 (blk_drew BK208.out)
            replace HB := As0 (bd1 HB.out)
            have p209 : 0 ≤ (x5_5 : Int) := of_decide_eq_true (by first | (with_reducible assumption) | assumption)
            have q209 : x5_5 < (((rd_T69 l0_3 x3_4).f0).length : Int) := of_decide_eq_true (by first | (with_reducible assumption) | assumption)
            obtain ⟨ad209, e209, hx209_0, hx209_1, hx209_2, hx209_3, hx209_4, hx209_5, hx209_6⟩ := at_T84 HR207_0.out x5_5 p209 q209
            have hw209_6 := hx209_6
            have hw209_5 := hx209_5
            have hw209_4 := hx209_4
            have hw209_3 := hx209_3
            have hw209_2 := hx209_2
            have hw209_1 := hx209_1
            have hw209_0 := hx209_0
            cases e209
            replace hx209_0 := (HB.out.cell (wblt w hx209_0)).trans hx209_0
            replace hx209_1 := (HB.out.cell (wblt w hx209_1)).trans hx209_1
            replace hx209_2 := (HB.out.cell (wblt w hx209_2)).trans hx209_2
            replace hx209_3 := (HB.out.cell (wblt w hx209_3)).trans hx209_3
            replace hx209_4 := (HB.out.cell (wblt w hx209_4)).trans hx209_4
            replace hx209_5 := (HB.out.cell (wblt w hx209_5)).trans hx209_5
            replace hx209_6 := (HB.out.cell (wblt w hx209_6)).trans hx209_6
            replace p209 := eq_true p209
            replace q209 := eq_true q209
            refine start_ (n := 11) (S := fun w' => w'.cell? ⟨gb208, 0, none⟩ = some (.slice (some ad209) ((rd_T69 l0_3 x3_4).f0).length c207_0) ∧ w'.cell? ⟨gb208, 1, none⟩ = some (.int .i64 ((rd_T69 l0_3 x3_4).f1.f0)) ∧ w'.cell? ⟨gb208, 2, none⟩ = some (.int .i64 ((rd_T69 l0_3 x3_4).f1.f1)) ∧ w'.cell? ⟨gb208, 3, none⟩ = some (.int .i64 ((rd_T69 l0_3 x3_4).f1.f2)) ∧ w'.cell? ⟨gb208, 4, none⟩ = some (.int .i64 ((rd_T69 l0_3 x3_4).f1.f3)) ∧ w'.cell? ⟨gb205, 0, none⟩ = some (.int .i64 a0_0) ∧ w'.cell? ⟨gb205, 1, none⟩ = some (.int .i64 a0_1) ∧ w'.cell? ⟨gb205, 2, none⟩ = some (.int .i64 a0_2) ∧ w'.cell? ⟨gb205, 3, none⟩ = some (.slice (some ad207) l0_3.length c0_3) ∧ w'.cell? (ad209.add ((x5_5).toNat * 7)) = some (.int .i64 ((rd_T84 ((rd_T69 l0_3 x3_4).f0) x5_5).f0)) ∧ w'.cell? ⟨(ad209.add ((x5_5).toNat * 7)).block, (ad209.add ((x5_5).toNat * 7)).off + 1, none⟩ = some (.int .i64 ((rd_T84 ((rd_T69 l0_3 x3_4).f0) x5_5).f1)) ∧ w'.cell? ⟨(ad209.add ((x5_5).toNat * 7)).block, (ad209.add ((x5_5).toNat * 7)).off + 2, none⟩ = some (.int .i64 ((rd_T84 ((rd_T69 l0_3 x3_4).f0) x5_5).f2)) ∧ w'.cell? ⟨(ad209.add ((x5_5).toNat * 7)).block, (ad209.add ((x5_5).toNat * 7)).off + 3, none⟩ = some (.int .i64 ((rd_T84 ((rd_T69 l0_3 x3_4).f0) x5_5).f3)) ∧ w'.cell? ⟨(ad209.add ((x5_5).toNat * 7)).block, (ad209.add ((x5_5).toNat * 7)).off + 4, none⟩ = some (.int .i64 ((rd_T84 ((rd_T69 l0_3 x3_4).f0) x5_5).f4)) ∧ w'.cell? ⟨(ad209.add ((x5_5).toNat * 7)).block, (ad209.add ((x5_5).toNat * 7)).off + 5, none⟩ = some (.int .i64 ((rd_T84 ((rd_T69 l0_3 x3_4).f0) x5_5).f5)) ∧ w'.cell? ⟨(ad209.add ((x5_5).toNat * 7)).block, (ad209.add ((x5_5).toNat * 7)).off + 6, none⟩ = some (.int .i64 ((rd_T84 ((rd_T69 l0_3 x3_4).f0) x5_5).f6))) (ds := []) (bb 11 0) (by kernel_rfl) rfl rfl ⟨(blk_cell BK208.out 0).trans rfl, (blk_cell BK208.out 1).trans rfl, (blk_cell BK208.out 2).trans rfl, (blk_cell BK208.out 3).trans rfl, (blk_cell BK208.out 4).trans rfl, (blk_cell BK205.out 0).trans rfl, (blk_cell BK205.out 1).trans rfl, (blk_cell BK205.out 2).trans rfl, (blk_cell BK205.out 3).trans rfl, ((HB.out.cell (wblt w hw209_0)).trans hw209_0), ((HB.out.cell (wblt w hw209_1)).trans hw209_1), ((HB.out.cell (wblt w hw209_2)).trans hw209_2), ((HB.out.cell (wblt w hw209_3)).trans hw209_3), ((HB.out.cell (wblt w hw209_4)).trans hw209_4), ((HB.out.cell (wblt w hw209_5)).trans hw209_5), ((HB.out.cell (wblt w hw209_6)).trans hw209_6)⟩ (fun hHeld => ?_); refine with_tabW regcertref08_Check.tab18 regcertref08_Check.bits18 (fun HT_ HW_ => ?_)
            generalize wr.drew = w53 at BK205 BK208 HB hx209_0 hx209_1 hx209_2 hx209_3 hx209_4 hx209_5 hx209_6 hHeld ⊢
            refine pv HT_.out 0 61 (bb 11 1) ?_
            refine pv HT_.out 2 63 (bb 11 5) ?_
            refine pv HT_.out 5 66 (bb 11 37) ?_
            refine pv HT_.out 7 68 (bb 11 165) ?_
            refine tv hHeld HT_.out HW_.out 1 62 (bb 11 167) ?_
            refine pv HT_.out 3 64 (bb 11 175) ?_
            refine tv hHeld HT_.out HW_.out 4 65 (bb 11 191) ?_
            refine tv hHeld HT_.out HW_.out 6 67 (bb 11 255) ?_
            refine tv hHeld HT_.out HW_.out 8 69 (bb 11 511) ?_
            refine one_ (i := 9) (N := some 70) (bb 11 1023) rfl rfl (one_of HT_.out (by kernel_rfl)) (by decide) (fun K hK => ?_)
            refine goes_ Try.func71 (by kernel_rfl) rfl #[.agg #[.int .i64 ((rd_T84 ((rd_T69 l0_3 x3_4).f0) x5_5).f0), .int .i64 ((rd_T84 ((rd_T69 l0_3 x3_4).f0) x5_5).f1), .int .i64 ((rd_T84 ((rd_T69 l0_3 x3_4).f0) x5_5).f2), .int .i64 ((rd_T84 ((rd_T69 l0_3 x3_4).f0) x5_5).f3), .int .i64 ((rd_T84 ((rd_T69 l0_3 x3_4).f0) x5_5).f4), .int .i64 ((rd_T84 ((rd_T69 l0_3 x3_4).f0) x5_5).f5), .int .i64 ((rd_T84 ((rd_T69 l0_3 x3_4).f0) x5_5).f6)], .int .i64 a0_1, .int .i64 a0_2] (by rfl) rfl rfl (by (try simp only [List.map_toArray, List.map_cons, List.map_nil]); first | done | rfl | (simp only [List.length_drop, List.length_take]; rfl)) ?_
            with_reducible refine (regcertref08_Instr.calls ((rd_T84 ((rd_T69 l0_3 x3_4).f0) x5_5).f0) ((rd_T84 ((rd_T69 l0_3 x3_4).f0) x5_5).f1) ((rd_T84 ((rd_T69 l0_3 x3_4).f0) x5_5).f2) ((rd_T84 ((rd_T69 l0_3 x3_4).f0) x5_5).f3) ((rd_T84 ((rd_T69 l0_3 x3_4).f0) x5_5).f4) ((rd_T84 ((rd_T69 l0_3 x3_4).f0) x5_5).f5) ((rd_T84 ((rd_T69 l0_3 x3_4).f0) x5_5).f6) a0_1 a0_2 t210 _ A34.out).mono ?_
            rintro e w54 ⟨rfl, hb⟩
            refine ⟨_, rfl, ?_⟩
            replace BK205 := As0 (blk_below (bU BK205.out) hb)
            replace BK208 := As0 (blk_below (bU BK208.out) hb)
            replace HB := As0 (below_step (BU HB.out) hb)
            (try clear hb)
            (try clear hb2)
            (try clear hk)
            (try clear hi)
            refine hK.out _ _ ⟨(blk_cell BK208.out 0).trans rfl, (blk_cell BK208.out 1).trans rfl, (blk_cell BK208.out 2).trans rfl, (blk_cell BK208.out 3).trans rfl, (blk_cell BK208.out 4).trans rfl, (blk_cell BK205.out 0).trans rfl, (blk_cell BK205.out 1).trans rfl, (blk_cell BK205.out 2).trans rfl, (blk_cell BK205.out 3).trans rfl, ((HB.out.cell (wblt w hw209_0)).trans hw209_0), ((HB.out.cell (wblt w hw209_1)).trans hw209_1), ((HB.out.cell (wblt w hw209_2)).trans hw209_2), ((HB.out.cell (wblt w hw209_3)).trans hw209_3), ((HB.out.cell (wblt w hw209_4)).trans hw209_4), ((HB.out.cell (wblt w hw209_5)).trans hw209_5), ((HB.out.cell (wblt w hw209_6)).trans hw209_6)⟩ (fun hHeld => ?_)
            clear hK K
            refine norm_ (a' := ?_) ?_ ?_
            rotate_left
            ·show Act.put _ (some 70) _ = _
             simp only [Act.put, sL1, sL2, sL3, i64_w, i32_w]
             rfl
            refine pv HT_.out 10 6 (bb 11 2047) ?_
            refine done_ (done_of HT_.out (by kernel_rfl)) ?_
            try go_wp2
            go_ret
            exact ⟨by first | rfl | (simp [errW_none, errW_some] <;> rfl) | (simp [*, errW_none, errW_some] <;> rfl), BU HB.out⟩
           rw [if_pos c35] at H
           have c35b0 : (t210 == 0) = true := beq_iff_eq.mpr c35
           have c35b1 : (t210 != 0) = false := bne_eq_false_iff_eq.mpr c35
           clear c35
           have HC36 := As0 H
           clear H
           have hnb37 := NB208_205.out
           have hnc37 := NB205_208.out
           obtain ⟨hcz38_0, hcz38_1, hcz38_2, hcz38_3, hcz38_4, hfz38_0, hfz38_1, hfz38_2, hfz38_3, hfz38_4⟩ := cN5 BK208.out
           try go_wp2
           replace BK205 := As0 (blk_drew BK205.out)
           replace BK208 := As0 (blk_drew BK208.out)
           replace HB := As0 (bd1 HB.out)
           have p209 : 0 ≤ (x5_5 : Int) := of_decide_eq_true (by first | (with_reducible assumption) | assumption)
           have q209 : x5_5 < (((rd_T69 l0_3 x3_4).f0).length : Int) := of_decide_eq_true (by first | (with_reducible assumption) | assumption)
           obtain ⟨ad209, e209, hx209_0, hx209_1, hx209_2, hx209_3, hx209_4, hx209_5, hx209_6⟩ := at_T84 HR207_0.out x5_5 p209 q209
           have hw209_6 := hx209_6
           have hw209_5 := hx209_5
           have hw209_4 := hx209_4
           have hw209_3 := hx209_3
           have hw209_2 := hx209_2
           have hw209_1 := hx209_1
           have hw209_0 := hx209_0
           cases e209
           replace hx209_0 := (HB.out.cell (wblt w hx209_0)).trans hx209_0
           replace hx209_1 := (HB.out.cell (wblt w hx209_1)).trans hx209_1
           replace hx209_2 := (HB.out.cell (wblt w hx209_2)).trans hx209_2
           replace hx209_3 := (HB.out.cell (wblt w hx209_3)).trans hx209_3
           replace hx209_4 := (HB.out.cell (wblt w hx209_4)).trans hx209_4
           replace hx209_5 := (HB.out.cell (wblt w hx209_5)).trans hx209_5
           replace hx209_6 := (HB.out.cell (wblt w hx209_6)).trans hx209_6
           replace p209 := eq_true p209
           replace q209 := eq_true q209
           refine start_ (n := 11) (S := fun w' => w'.cell? ⟨gb208, 0, none⟩ = some (.slice (some ad209) ((rd_T69 l0_3 x3_4).f0).length c207_0) ∧ w'.cell? ⟨gb208, 1, none⟩ = some (.int .i64 ((rd_T69 l0_3 x3_4).f1.f0)) ∧ w'.cell? ⟨gb208, 2, none⟩ = some (.int .i64 ((rd_T69 l0_3 x3_4).f1.f1)) ∧ w'.cell? ⟨gb208, 3, none⟩ = some (.int .i64 ((rd_T69 l0_3 x3_4).f1.f2)) ∧ w'.cell? ⟨gb208, 4, none⟩ = some (.int .i64 ((rd_T69 l0_3 x3_4).f1.f3)) ∧ w'.cell? ⟨gb205, 0, none⟩ = some (.int .i64 a0_0) ∧ w'.cell? ⟨gb205, 1, none⟩ = some (.int .i64 a0_1) ∧ w'.cell? ⟨gb205, 2, none⟩ = some (.int .i64 a0_2) ∧ w'.cell? ⟨gb205, 3, none⟩ = some (.slice (some ad207) l0_3.length c0_3) ∧ w'.cell? (ad209.add ((x5_5).toNat * 7)) = some (.int .i64 ((rd_T84 ((rd_T69 l0_3 x3_4).f0) x5_5).f0)) ∧ w'.cell? ⟨(ad209.add ((x5_5).toNat * 7)).block, (ad209.add ((x5_5).toNat * 7)).off + 1, none⟩ = some (.int .i64 ((rd_T84 ((rd_T69 l0_3 x3_4).f0) x5_5).f1)) ∧ w'.cell? ⟨(ad209.add ((x5_5).toNat * 7)).block, (ad209.add ((x5_5).toNat * 7)).off + 2, none⟩ = some (.int .i64 ((rd_T84 ((rd_T69 l0_3 x3_4).f0) x5_5).f2)) ∧ w'.cell? ⟨(ad209.add ((x5_5).toNat * 7)).block, (ad209.add ((x5_5).toNat * 7)).off + 3, none⟩ = some (.int .i64 ((rd_T84 ((rd_T69 l0_3 x3_4).f0) x5_5).f3)) ∧ w'.cell? ⟨(ad209.add ((x5_5).toNat * 7)).block, (ad209.add ((x5_5).toNat * 7)).off + 4, none⟩ = some (.int .i64 ((rd_T84 ((rd_T69 l0_3 x3_4).f0) x5_5).f4)) ∧ w'.cell? ⟨(ad209.add ((x5_5).toNat * 7)).block, (ad209.add ((x5_5).toNat * 7)).off + 5, none⟩ = some (.int .i64 ((rd_T84 ((rd_T69 l0_3 x3_4).f0) x5_5).f5)) ∧ w'.cell? ⟨(ad209.add ((x5_5).toNat * 7)).block, (ad209.add ((x5_5).toNat * 7)).off + 6, none⟩ = some (.int .i64 ((rd_T84 ((rd_T69 l0_3 x3_4).f0) x5_5).f6))) (ds := []) (bb 11 0) (by kernel_rfl) rfl rfl ⟨(blk_cell BK208.out 0).trans rfl, (blk_cell BK208.out 1).trans rfl, (blk_cell BK208.out 2).trans rfl, (blk_cell BK208.out 3).trans rfl, (blk_cell BK208.out 4).trans rfl, (blk_cell BK205.out 0).trans rfl, (blk_cell BK205.out 1).trans rfl, (blk_cell BK205.out 2).trans rfl, (blk_cell BK205.out 3).trans rfl, ((HB.out.cell (wblt w hw209_0)).trans hw209_0), ((HB.out.cell (wblt w hw209_1)).trans hw209_1), ((HB.out.cell (wblt w hw209_2)).trans hw209_2), ((HB.out.cell (wblt w hw209_3)).trans hw209_3), ((HB.out.cell (wblt w hw209_4)).trans hw209_4), ((HB.out.cell (wblt w hw209_5)).trans hw209_5), ((HB.out.cell (wblt w hw209_6)).trans hw209_6)⟩ (fun hHeld => ?_); refine with_tabW regcertref08_Check.tab18 regcertref08_Check.bits18 (fun HT_ HW_ => ?_)
           generalize wr.drew = w39 at BK205 BK208 HB hx209_0 hx209_1 hx209_2 hx209_3 hx209_4 hx209_5 hx209_6 hHeld ⊢
           refine pv HT_.out 0 61 (bb 11 1) ?_
           refine pv HT_.out 2 63 (bb 11 5) ?_
           refine pv HT_.out 5 66 (bb 11 37) ?_
           refine pv HT_.out 7 68 (bb 11 165) ?_
           refine tv hHeld HT_.out HW_.out 1 62 (bb 11 167) ?_
           refine pv HT_.out 3 64 (bb 11 175) ?_
           refine tv hHeld HT_.out HW_.out 4 65 (bb 11 191) ?_
           refine tv hHeld HT_.out HW_.out 6 67 (bb 11 255) ?_
           refine tv hHeld HT_.out HW_.out 8 69 (bb 11 511) ?_
           refine one_ (i := 9) (N := some 70) (bb 11 1023) rfl rfl (one_of HT_.out (by kernel_rfl)) (by decide) (fun K hK => ?_)
           refine goes_ Try.func71 (by kernel_rfl) rfl #[.agg #[.int .i64 ((rd_T84 ((rd_T69 l0_3 x3_4).f0) x5_5).f0), .int .i64 ((rd_T84 ((rd_T69 l0_3 x3_4).f0) x5_5).f1), .int .i64 ((rd_T84 ((rd_T69 l0_3 x3_4).f0) x5_5).f2), .int .i64 ((rd_T84 ((rd_T69 l0_3 x3_4).f0) x5_5).f3), .int .i64 ((rd_T84 ((rd_T69 l0_3 x3_4).f0) x5_5).f4), .int .i64 ((rd_T84 ((rd_T69 l0_3 x3_4).f0) x5_5).f5), .int .i64 ((rd_T84 ((rd_T69 l0_3 x3_4).f0) x5_5).f6)], .int .i64 a0_1, .int .i64 a0_2] (by rfl) rfl rfl (by (try simp only [List.map_toArray, List.map_cons, List.map_nil]); first | done | rfl | (simp only [List.length_drop, List.length_take]; rfl)) ?_
           with_reducible refine (regcertref08_Instr.calls ((rd_T84 ((rd_T69 l0_3 x3_4).f0) x5_5).f0) ((rd_T84 ((rd_T69 l0_3 x3_4).f0) x5_5).f1) ((rd_T84 ((rd_T69 l0_3 x3_4).f0) x5_5).f2) ((rd_T84 ((rd_T69 l0_3 x3_4).f0) x5_5).f3) ((rd_T84 ((rd_T69 l0_3 x3_4).f0) x5_5).f4) ((rd_T84 ((rd_T69 l0_3 x3_4).f0) x5_5).f5) ((rd_T84 ((rd_T69 l0_3 x3_4).f0) x5_5).f6) a0_1 a0_2 t210 _ A34.out).mono ?_
           rintro e w40 ⟨rfl, hb⟩
           refine ⟨_, rfl, ?_⟩
           replace BK205 := As0 (blk_below (bU BK205.out) hb)
           replace BK208 := As0 (blk_below (bU BK208.out) hb)
           replace HB := As0 (below_step (BU HB.out) hb)
           (try clear hb)
           (try clear hb2)
           (try clear hk)
           (try clear hi)
           refine hK.out _ _ ⟨(blk_cell BK208.out 0).trans rfl, (blk_cell BK208.out 1).trans rfl, (blk_cell BK208.out 2).trans rfl, (blk_cell BK208.out 3).trans rfl, (blk_cell BK208.out 4).trans rfl, (blk_cell BK205.out 0).trans rfl, (blk_cell BK205.out 1).trans rfl, (blk_cell BK205.out 2).trans rfl, (blk_cell BK205.out 3).trans rfl, ((HB.out.cell (wblt w hw209_0)).trans hw209_0), ((HB.out.cell (wblt w hw209_1)).trans hw209_1), ((HB.out.cell (wblt w hw209_2)).trans hw209_2), ((HB.out.cell (wblt w hw209_3)).trans hw209_3), ((HB.out.cell (wblt w hw209_4)).trans hw209_4), ((HB.out.cell (wblt w hw209_5)).trans hw209_5), ((HB.out.cell (wblt w hw209_6)).trans hw209_6)⟩ (fun hHeld => ?_)
           clear hK K
           refine norm_ (a' := ?_) ?_ ?_
           rotate_left
           ·show Act.put _ (some 70) _ = _
            simp only [Act.put, sL1, sL2, sL3, i64_w, i32_w]
            rfl
           refine pv HT_.out 10 6 (bb 11 2047) ?_
           refine done_ (done_of HT_.out (by kernel_rfl)) ?_
           go_upto_region 21 with (fail)
           go_cut [86] (fun v86 wc => ∃ (kq : Nat) (x86_35 : Bool), v86 = .bool x86_35 ∧ Aside0 (regcertref08_Check.j5 kq x3_4 x5_5 x86_35 a0_0 a0_1 a0_2 l0_3 ((rd_T69 l0_3 x3_4).f0) ((rd_T69 l0_3 x3_4).f1.f0) ((rd_T69 l0_3 x3_4).f1.f1) ((rd_T69 l0_3 x3_4).f1.f2) ((rd_T69 l0_3 x3_4).f1.f3) = some r) ∧ Aside0 (kq ≤ k5) ∧ Aside0 (wc.heap[gb205]? = some (.cells #[.int .i64 a0_0, .int .i64 a0_1, .int .i64 a0_2, (.slice (some ad207) l0_3.length c0_3)] 63 (0, 0))) ∧ Aside0 (wc.heap[gb208]? = some (.cells #[(.slice (some ad209) ((rd_T69 l0_3 x3_4).f0).length c207_0), .int .i64 ((rd_T69 l0_3 x3_4).f1.f0), .int .i64 ((rd_T69 l0_3 x3_4).f1.f1), .int .i64 ((rd_T69 l0_3 x3_4).f1.f2), .int .i64 ((rd_T69 l0_3 x3_4).f1.f3)] 69 (0, 0))) ∧ Aside0 (Below w.heap.size w wc))
           case first =>
            have H := HC36.out
            clear HC36
            by_cases c41 : x5_5 ≥ 64
            rotate_left
            ·rw [if_neg c41] at H
             have c41b0 : decide (64 ≤ x5_5) = false := decide_eq_false c41
             clear c41
             (first | rw [c41b0] | (simp only [i64_w, i32_w]; rw [c41b0]) | skip)
             have H' := As0 H
             clear H
             go_wp2
             go_meet
             case rel => exact ⟨_, (false), (by first | rfl | (simp; done) | (simp [*]; done)), H', ⟨by have := HJ1.out; have := HJ9.out; have := HJ17.out; have := HK4.out; have := HK5.out; first | omega | exact Nat.le_refl _⟩, ⟨bU BK205.out⟩, ⟨bU BK208.out⟩, ⟨BU HB.out⟩⟩
            rw [if_pos c41] at H
            have c41b0 : decide (64 ≤ x5_5) = true := decide_eq_true c41
            clear c41
            (first | rw [c41b0] | (simp only [i64_w, i32_w]; rw [c41b0]) | skip)
            obtain ⟨ji42, hji42⟩ : ∃ j_ : Int, (wrap64 (x5_5 - 64)) = j_ := ⟨_, rfl⟩
            replace H : (if 0 ≤ (ji42) then (if (ji42) ≤ (wrap64 (x5_5 + 1)) then (if (wrap64 (x5_5 + 1)) ≤ (((rd_T69 l0_3 x3_4).f0).length : Int) then ((regcertref08_Moves.f k5 ((((rd_T69 l0_3 x3_4).f0).take ((wrap64 (x5_5 + 1)) : Int).toNat).drop ((ji42) : Int).toNat)).bind fun t215 => (regcertref08_Check.j5 k5 x3_4 x5_5 (decide (t215 > 64)) a0_0 a0_1 a0_2 l0_3 ((rd_T69 l0_3 x3_4).f0) ((rd_T69 l0_3 x3_4).f1.f0) ((rd_T69 l0_3 x3_4).f1.f1) ((rd_T69 l0_3 x3_4).f1.f2) ((rd_T69 l0_3 x3_4).f1.f3))) else (none)) else (none)) else (none)) = some r := by first | (rw [hji42] at H; exact H) | (simp only [hji42] at H ⊢; exact H)
            have hji42w : (IntKind.i64.wrap (x5_5 - 64)) = ji42 := (i64_w _).trans hji42
            by_cases c43 : 0 ≤ (ji42)
            rotate_left
            ·rw [if_neg c43] at H
             exact absurd H (by simp)
            rw [if_pos c43] at H
            have c43b0 := eq_true c43
            have c43b1 : decide (0 ≤ (ji42)) = true := decide_eq_true c43
            clear c43
            by_cases c44 : (ji42) ≤ (wrap64 (x5_5 + 1))
            rotate_left
            ·rw [if_neg c44] at H
             exact absurd H (by simp)
            rw [if_pos c44] at H
            have c44b0 := eq_true c44
            have c44b1 : decide ((ji42) ≤ (wrap64 (x5_5 + 1))) = true := decide_eq_true c44
            by_cases c45 : (wrap64 (x5_5 + 1)) ≤ (((rd_T69 l0_3 x3_4).f0).length : Int)
            rotate_left
            ·rw [if_neg c45] at H
             exact absurd H (by simp)
            rw [if_pos c45] at H
            have c45b0 := eq_true c45
            have c45b1 : decide ((wrap64 (x5_5 + 1)) ≤ (((rd_T69 l0_3 x3_4).f0).length : Int)) = true := decide_eq_true c45
            obtain ⟨y211, hy211⟩ : ∃ y_ : List (S84), y_ = ((((rd_T69 l0_3 x3_4).f0).take ((wrap64 (x5_5 + 1)) : Int).toNat).drop ((ji42) : Int).toNat) := ⟨_, rfl⟩
            replace H : ((regcertref08_Moves.f k5 y211).bind fun t215 => (regcertref08_Check.j5 k5 x3_4 x5_5 (decide (t215 > 64)) a0_0 a0_1 a0_2 l0_3 ((rd_T69 l0_3 x3_4).f0) ((rd_T69 l0_3 x3_4).f1.f0) ((rd_T69 l0_3 x3_4).f1.f1) ((rd_T69 l0_3 x3_4).f1.f2) ((rd_T69 l0_3 x3_4).f1.f3))) = some r := by first | (rw [hy211]; with_reducible exact H) | (have H2_ := (Option.bind_some _ _).symm.trans H; rw [hy211]; with_reducible exact H2_) | (have H2_ := (Option.bind_some _ _).symm.trans H; with_reducible exact H2_) | with_reducible exact H | (rw [hy211]; exact H) | exact H
            have Ny211 := As0 hy211
            clear hy211
            replace H := Option.bind_eq_some_iff.mp H
            obtain ⟨t215, A460, H⟩ := H
            have A46 := As0 A460
            clear A460
            have H' := As0 H
            clear H
            have hnb47 := NB208_205.out
            have hnc47 := NB205_208.out
            obtain ⟨hcz48_0, hcz48_1, hcz48_2, hcz48_3, hcz48_4, hfz48_0, hfz48_1, hfz48_2, hfz48_3, hfz48_4⟩ := cN5 BK208.out
            have q49 : ((wrap64 (x5_5 + 1)) : Int) ≤ ((((rd_T69 l0_3 x3_4).f0).length : Int) : Int) := of_decide_eq_true (by first | (with_reducible assumption) | assumption)
            obtain ⟨i049, hi049, _, hsz49, _⟩ := info_parts info84
            have hroom49 : ((rd_T69 l0_3 x3_4).f0).length ≤ c207_0 := HC207_0.out
            have hC49 : Kd.C k84 _ (some ad209) ((rd_T69 l0_3 x3_4).f0).length ((rd_T69 l0_3 x3_4).f0) := HR207_0.out
            have ql49 : ((ji42) : Int) ≤ ((wrap64 (x5_5 + 1)) : Int) := of_decide_eq_true (by first | (with_reducible assumption) | assumption)
            have q049 : (0 : Int) ≤ ((ji42) : Int) := of_decide_eq_true (by first | (with_reducible assumption) | assumption)
            have hcut49 := cut_mid (P := Try.prog) 67 84 .i64 .i64 Try.underlying67 hi049 7 hsz49 (some ad209) ((rd_T69 l0_3 x3_4).f0).length c207_0 (ji42) (wrap64 (x5_5 + 1)) q049 ql49 q49 hroom49
            have hr49 := Kd.C_mid (lo := ((ji42) : Int).toNat) (hi := ((wrap64 (x5_5 + 1)) : Int).toNat) (c := c207_0) hC49 (by omega) (by omega) hroom49
            obtain ⟨A49, hA49⟩ : ∃ Aq_, Aq_ = (if c207_0 = ((ji42) : Int).toNat then (some ad209) else ((some ad209) : Option Addr).map (·.add (((ji42) : Int).toNat * 7))) := ⟨_, rfl⟩
            obtain ⟨c49, hc49⟩ : ∃ cq_, cq_ = c207_0 - ((ji42) : Int).toNat := ⟨_, rfl⟩
            have hy49 : y211.length = ((wrap64 (x5_5 + 1)) : Int).toNat - ((ji42) : Int).toNat := (by rw [Ny211.out, List.length_drop, List.length_take] <;> omega)
            rw [show ((((rd_T69 l0_3 x3_4).f0)).take ((wrap64 (x5_5 + 1)) : Int).toNat).drop ((ji42) : Int).toNat = y211 from Ny211.out.symm] at hr49
            replace hr49 : Kd.C k84 _ A49 y211.length y211 := (by rw [hA49]; exact hr49)
            rw [← hy49, ← hA49, ← hc49] at hcut49
            have HR214 := As0 hr49
            have HC214 := As0 (show y211.length ≤ c49 from by rw [hy49, hc49]; exact Nat.sub_le_sub_right (Nat.le_trans (by omega) hroom49) _)
            clear hr49 hC49 hroom49 hi049 hsz49 hc49
            have KY49 := As0 hy49
            have KA49 := As0 hA49
            clear hy49 hA49
            replace q49 := eq_true q49
            go_wp2_with (first | (go_at_call 72; (with_reducible refine (regcertref08_Moves.calls k5 _ _ y211 t215 _ ?side1 ?side2 A46.out).mono ?_); (case side1 => repeat (first | exact (Kd.C_below HR214.out HB.out) | (with_reducible refine Kd.C_alloc ?_ _) | (with_reducible refine Kd.C_drewN ?_ _) | (with_reducible refine Kd.C_drew ?_))); (case side2 => exact HC214.out); rintro e w' ⟨rfl, ⟨nd, rfl⟩⟩))
            go_meet
            case rel => exact ⟨_, (decide (t215 > 64)), (by first | rfl | (simp; done) | (simp [*]; done)), H', ⟨by have := HJ1.out; have := HJ9.out; have := HJ17.out; have := HK4.out; have := HK5.out; first | omega | exact Nat.le_refl _⟩, ⟨bU BK205.out⟩, ⟨bU BK208.out⟩, ⟨BU HB.out⟩⟩
           case rest =>
            clear HC36
            try clear c1
            try clear c2
            try clear p2
            try clear q2
            try clear hx2
            try clear c3
            try clear c4
            try clear c4b0
            try clear q4
            try clear p6
            try clear c7
            try clear c8
            try clear c8b0
            try clear c12
            try clear c12b0
            try clear c15
            try clear c16
            try clear c16b0
            try clear c16b1
            try clear c16b2
            try clear c20
            try clear c20b0
            try clear c20b1
            try clear p20
            try clear q20
            try clear hx20
            try clear c25
            try clear c26
            try clear c26b0
            try clear c27
            try clear c27b0
            try clear c30
            try clear c32
            try clear c32b0
            try clear c33
            try clear c33b0
            try clear c35
            try clear c35b0
            try clear c35b1
            try clear c37
            try clear c41
            try clear c41b0
            try clear c43
            try clear c43b0
            try clear c43b1
            try clear c44
            try clear c44b0
            try clear c44b1
            try clear c45
            try clear c45b0
            try clear c45b1
            try clear c47
            try clear c49
            try clear q49
            try clear hcz11_0
            try clear hcz11_1
            try clear hcz11_2
            try clear hcz11_3
            try clear hcz13_0
            try clear hcz13_1
            try clear hcz13_2
            try clear hcz13_3
            try clear hcz14_0
            try clear hcz14_1
            try clear hcz14_2
            try clear hcz14_3
            try clear hcz17_0
            try clear hcz17_1
            try clear hcz17_2
            try clear hcz17_3
            try clear hcz19_0
            try clear hcz19_1
            try clear hcz19_2
            try clear hcz19_3
            try clear hcz21_0
            try clear hcz21_1
            try clear hcz21_2
            try clear hcz21_3
            try clear hcz23_0
            try clear hcz23_1
            try clear hcz23_2
            try clear hcz23_3
            try clear hcz28_0
            try clear hcz28_1
            try clear hcz28_2
            try clear hcz28_3
            try clear hcz31_0
            try clear hcz31_1
            try clear hcz31_2
            try clear hcz31_3
            try clear hcz31_4
            try clear hcz38_0
            try clear hcz38_1
            try clear hcz38_2
            try clear hcz38_3
            try clear hcz38_4
            try clear hcz48_0
            try clear hcz48_1
            try clear hcz48_2
            try clear hcz48_3
            try clear hcz48_4
            try clear hcz5_0
            try clear hcz5_1
            try clear hcz5_2
            try clear hcz5_3
            try clear hcz6_0
            try clear hcz6_1
            try clear hcz6_2
            try clear hcz6_3
            try clear hcz9_0
            try clear hcz9_1
            try clear hcz9_2
            try clear hcz9_3
            try clear hfz11_0
            try clear hfz11_1
            try clear hfz11_2
            try clear hfz11_3
            try clear hfz13_0
            try clear hfz13_1
            try clear hfz13_2
            try clear hfz13_3
            try clear hfz14_0
            try clear hfz14_1
            try clear hfz14_2
            try clear hfz14_3
            try clear hfz17_0
            try clear hfz17_1
            try clear hfz17_2
            try clear hfz17_3
            try clear hfz19_0
            try clear hfz19_1
            try clear hfz19_2
            try clear hfz19_3
            try clear hfz21_0
            try clear hfz21_1
            try clear hfz21_2
            try clear hfz21_3
            try clear hfz23_0
            try clear hfz23_1
            try clear hfz23_2
            try clear hfz23_3
            try clear hfz28_0
            try clear hfz28_1
            try clear hfz28_2
            try clear hfz28_3
            try clear hfz31_0
            try clear hfz31_1
            try clear hfz31_2
            try clear hfz31_3
            try clear hfz31_4
            try clear hfz38_0
            try clear hfz38_1
            try clear hfz38_2
            try clear hfz38_3
            try clear hfz38_4
            try clear hfz48_0
            try clear hfz48_1
            try clear hfz48_2
            try clear hfz48_3
            try clear hfz48_4
            try clear hfz5_0
            try clear hfz5_1
            try clear hfz5_2
            try clear hfz5_3
            try clear hfz6_0
            try clear hfz6_1
            try clear hfz6_2
            try clear hfz6_3
            try clear hfz9_0
            try clear hfz9_1
            try clear hfz9_2
            try clear hfz9_3
            try clear hx207_0
            try clear hx207_1
            try clear hx207_2
            try clear hx207_3
            try clear hx207_4
            try clear hx209_0
            try clear hx209_1
            try clear hx209_2
            try clear hx209_3
            try clear hx209_4
            try clear hx209_5
            try clear hx209_6
            try clear p2
            try clear p20
            try clear p207
            try clear p209
            try clear q049
            try clear q2
            try clear q20
            try clear q207
            try clear q209
            try clear q49
            obtain ⟨kq, x86_35, rfl, HA, HJ35, BK205, BK208, HB⟩ := hcut
            cases kq with
            | zero => exact absurd HA.out (by simp [regcertref08_Check.j5])
            | succ kj35 =>
             have H := HA.out
             clear HA
             simp only [regcertref08_Check.j5] at H
             by_cases c50 : x86_35 = true
             ·subst c50
              rw [if_pos rfl] at H
              obtain rfl := Option.some.inj H
              go_wp2
              go_ret
              exact ⟨by first | rfl | (simp [errW_none, errW_some] <;> rfl) | (simp [*, errW_none, errW_some] <;> rfl), BU HB.out⟩
             replace c50 := Bool.eq_false_iff.mpr c50
             subst c50
             rw [if_neg (show ¬ (false = true) by decide)] at H
             have H' := As0 H
             clear H
             go_wp2
             go_roundg kj35
             case measure => have := HJ1.out; have := HJ9.out; have := HJ17.out; have := HK4.out; have := HK5.out; have := HJ35.out; omega
             case rel => exact ⟨(wrap64 (x5_5 + 1)), (by first | rfl | (simp; done) | (simp [*]; done)), H', ⟨by have := HJ1.out; have := HJ9.out; have := HJ17.out; have := HK4.out; have := HK5.out; have := HJ35.out; omega⟩, ⟨bU BK205.out⟩, ⟨bU BK208.out⟩, ⟨BU HB.out⟩⟩

/-! ### regcertref10_Right: function 45 -/
def regcertref10_Right.f (k : Nat) (a0_0 : Int) (a0_1 : Int) (a0_2 : Int) (l0_3 : List (S69)) (l1 : List Int) (a2 : Int) : Option (Bool) := (regcertref08_Few.f k a0_0 a0_1 a0_2 l0_3).bind fun t218 => (if t218 = true then ((regcertref08_Check.f k a0_0 a0_1 a0_2 l0_3).bind fun t219 => (if t219 = 0 then (if a2 ≤ 400 then (some (decide ((l1.length : Int) ≤ 100))) else (some false)) else (some false))) else (some false))
theorem regcertref10_Right.mono : ∀ a0 a1 a2 a3 a4 a5 k, LeO (regcertref10_Right.f k a0 a1 a2 a3 a4 a5) (regcertref10_Right.f (k + 1) a0 a1 a2 a3 a4 a5) := by
 intro a0 a1 a2 a3 a4 a5 k
 unfold regcertref10_Right.f
 repeat' first
   | (with_reducible exact regcertref08_Check.mono _ _ _ _ _)
   | (with_reducible exact regcertref08_Few.mono _ _ _ _ _)
   | (with_reducible exact LeO.refl _)
   | (with_reducible exact LeO.none _)
   | (with_reducible refine LeO.ite ?_ ?_)
   | (with_reducible refine LeO.bind ?_ (fun _ => ?_))
   | exact regcertref08_Check.mono _ _ _ _ _
   | exact regcertref08_Few.mono _ _ _ _ _
   | exact LeO.none _
   | refine LeO.ite ?_ ?_
   | refine LeO.bind ?_ (fun _ => ?_)
set_option maxHeartbeats 8000000 in
set_option maxRecDepth 100000 in
theorem regcertref10_Right.calls (k : Nat) (a0_0 : Int) (a0_1 : Int) (a0_2 : Int) (A0_3 : Option Addr) (c0_3 : Nat) (l0_3 : List (S69)) (A1 : Option Addr) (c1 : Nat) (l1 : List Int) (a2 : Int) (r : Bool) (w : World) (hr0_3 : Kd.C k69 w A0_3 l0_3.length l0_3) (hc0_3 : l0_3.length ≤ c0_3) (hr1 : Kd.C (Kd.int .i64) w A1 l1.length l1) (hc1 : l1.length ≤ c1) (h : regcertref10_Right.f k a0_0 a0_1 a0_2 l0_3 l1 a2 = some r) :
  Calls Try.prog 45 #[.agg #[.int .i64 a0_0, .int .i64 a0_1, .int .i64 a0_2, .slice A0_3 l0_3.length c0_3], .slice A1 l1.length c1, .int .i64 a2] w fun e w' => e = .returned (.bool r) ∧ Below w.heap.size w w' := by
 have hu63 := Try.underlying63
 have HR0_3 := As0 hr0_3
 have HC0_3 := As0 hc0_3
 clear hr0_3 hc0_3
 have HR1 := As0 hr1
 have HC1 := As0 hc1
 clear hr1 hc1
 have HB := As0 (Below.refl w.heap.size w)
 have H : ((regcertref08_Few.f k a0_0 a0_1 a0_2 l0_3).bind fun t218 => (if t218 = true then ((regcertref08_Check.f k a0_0 a0_1 a0_2 l0_3).bind fun t219 => (if t219 = 0 then (if a2 ≤ 400 then (some (decide ((l1.length : Int) ≤ 100))) else (some false)) else (some false))) else (some false))) = some r := h
 clear h
 replace H := Option.bind_eq_some_iff.mp H
 obtain ⟨t218, A40, H⟩ := H
 have A4 := As0 A40
 clear A40
 by_cases c5 : t218 = true
 rotate_left
 ·replace c5 := Bool.eq_false_iff.mpr c5
  subst c5
  rw [if_neg (show ¬ (false = true) by decide)] at H
  obtain rfl := Option.some.inj H
  go_enter Try.func45, Try.ntmps45
  go_wp2_with (first | ((with_reducible refine gate_dst (N := 3) rfl ?_); (try (refine gate_guard (by rfl) ?_; dsimp only)); refine bX (N := 3) (cs := #[.int .i64 a0_0, .int .i64 a0_1, .int .i64 a0_2, .slice A0_3 l0_3.length c0_3]) (t := 63) ?_; intro gb217 hg w24 hbox hb; have BK217 := As0 (hbox); have GW217 := As0 ((by rw [hg]; exact (below_size (BU HB.out)) : w.heap.size ≤ gb217)); have GE217 := As0 ((by rw [hg]; exact (below_size (BU HB.out)) : w.heap.size ≤ gb217)); replace HB := As0 (below_step (BU HB.out) hb); clear hb hbox hg; obtain ⟨hcz25_0, hcz25_1, hcz25_2, hcz25_3, hfz25_0, hfz25_1, hfz25_2, hfz25_3⟩ := cN4 BK217.out) | ((with_reducible refine gate_callee (f := 48) rfl ?_); refine goesL_ (some 8) rfl rfl Try.func48 (by kernel_rfl) rfl #[.agg #[.int .i64 a0_0, .int .i64 a0_1, .int .i64 a0_2, .slice A0_3 l0_3.length c0_3]] rfl (by (try simp only [List.map_toArray, List.map_cons, List.map_nil]); first | done | rfl | (simp only [List.length_drop, List.length_take]; rfl)) ?_; (with_reducible refine (regcertref08_Few.calls k a0_0 a0_1 a0_2 _ _ l0_3 false _ ?side1 ?side2 A4.out).mono ?_); (case side1 => repeat (first | exact (Kd.C_below HR0_3.out HB.out) | (with_reducible refine Kd.C_alloc ?_ _) | (with_reducible refine Kd.C_drewN ?_ _) | (with_reducible refine Kd.C_drew ?_))); (case side2 => exact HC0_3.out); rintro e w26 ⟨rfl, hb⟩; refine ⟨_, rfl, ?_⟩; replace BK217 := As0 (blk_below (bU BK217.out) hb); replace HB := As0 (below_step (BU HB.out) hb); (try clear hb); (try clear hb2); (try clear hk); (try clear hi)))
  go_ret
  exact ⟨by first | rfl | (simp [errW_none, errW_some] <;> rfl) | (simp [*, errW_none, errW_some] <;> rfl), BU HB.out⟩
 subst c5
 rw [if_pos rfl] at H
 replace H := Option.bind_eq_some_iff.mp H
 obtain ⟨t219, A60, H⟩ := H
 have A6 := As0 A60
 clear A60
 by_cases c7 : t219 = 0
 rotate_left
 ·rw [if_neg c7] at H
  have c7b0 : (t219 == 0) = false := beq_eq_false_iff_ne.mpr c7
  have c7b1 : (t219 != 0) = true := bne_iff_ne.mpr c7
  obtain rfl := Option.some.inj H
  go_enter Try.func45, Try.ntmps45
  go_wp2_with (first | ((with_reducible refine gate_dst (N := 3) rfl ?_); (try (refine gate_guard (by rfl) ?_; dsimp only)); refine bX (N := 3) (cs := #[.int .i64 a0_0, .int .i64 a0_1, .int .i64 a0_2, .slice A0_3 l0_3.length c0_3]) (t := 63) ?_; intro gb217 hg w19 hbox hb; have BK217 := As0 (hbox); have GW217 := As0 ((by rw [hg]; exact (below_size (BU HB.out)) : w.heap.size ≤ gb217)); have GE217 := As0 ((by rw [hg]; exact (below_size (BU HB.out)) : w.heap.size ≤ gb217)); replace HB := As0 (below_step (BU HB.out) hb); clear hb hbox hg; obtain ⟨hcz20_0, hcz20_1, hcz20_2, hcz20_3, hfz20_0, hfz20_1, hfz20_2, hfz20_3⟩ := cN4 BK217.out) | ((with_reducible refine gate_callee (f := 48) rfl ?_); refine goesL_ (some 8) rfl rfl Try.func48 (by kernel_rfl) rfl #[.agg #[.int .i64 a0_0, .int .i64 a0_1, .int .i64 a0_2, .slice A0_3 l0_3.length c0_3]] rfl (by (try simp only [List.map_toArray, List.map_cons, List.map_nil]); first | done | rfl | (simp only [List.length_drop, List.length_take]; rfl)) ?_; (with_reducible refine (regcertref08_Few.calls k a0_0 a0_1 a0_2 _ _ l0_3 true _ ?side1 ?side2 A4.out).mono ?_); (case side1 => repeat (first | exact (Kd.C_below HR0_3.out HB.out) | (with_reducible refine Kd.C_alloc ?_ _) | (with_reducible refine Kd.C_drewN ?_ _) | (with_reducible refine Kd.C_drew ?_))); (case side2 => exact HC0_3.out); rintro e w21 ⟨rfl, hb⟩; refine ⟨_, rfl, ?_⟩; replace BK217 := As0 (blk_below (bU BK217.out) hb); replace HB := As0 (below_step (BU HB.out) hb); (try clear hb); (try clear hb2); (try clear hk); (try clear hi); obtain ⟨hcz22_0, hcz22_1, hcz22_2, hcz22_3, hfz22_0, hfz22_1, hfz22_2, hfz22_3⟩ := cN4 BK217.out) | (go_at_call 49; (with_reducible refine (regcertref08_Check.calls k a0_0 a0_1 a0_2 _ _ l0_3 t219 _ ?side1 ?side2 A6.out).mono ?_); (case side1 => repeat (first | exact (Kd.C_below HR0_3.out HB.out) | (with_reducible refine Kd.C_alloc ?_ _) | (with_reducible refine Kd.C_drewN ?_ _) | (with_reducible refine Kd.C_drew ?_))); (case side2 => exact HC0_3.out); rintro e w23 ⟨rfl, hb⟩; replace BK217 := As0 (blk_below (bU BK217.out) hb); replace HB := As0 (below_step (BU HB.out) hb); (try clear hb); (try clear hb2); (try clear hk); (try clear hi)))
  go_ret
  exact ⟨by first | rfl | (simp [errW_none, errW_some] <;> rfl) | (simp [*, errW_none, errW_some] <;> rfl), BU HB.out⟩
 rw [if_pos c7] at H
 have c7b0 : (t219 == 0) = true := beq_iff_eq.mpr c7
 have c7b1 : (t219 != 0) = false := bne_eq_false_iff_eq.mpr c7
 clear c7
 by_cases c8 : a2 ≤ 400
 rotate_left
 ·rw [if_neg c8] at H
  have c8b0 : decide (a2 ≤ 400) = false := decide_eq_false c8
  clear c8
  obtain rfl := Option.some.inj H
  go_enter Try.func45, Try.ntmps45
  go_wp2_with (first | ((with_reducible refine gate_dst (N := 3) rfl ?_); (try (refine gate_guard (by rfl) ?_; dsimp only)); refine bX (N := 3) (cs := #[.int .i64 a0_0, .int .i64 a0_1, .int .i64 a0_2, .slice A0_3 l0_3.length c0_3]) (t := 63) ?_; intro gb217 hg w14 hbox hb; have BK217 := As0 (hbox); have GW217 := As0 ((by rw [hg]; exact (below_size (BU HB.out)) : w.heap.size ≤ gb217)); have GE217 := As0 ((by rw [hg]; exact (below_size (BU HB.out)) : w.heap.size ≤ gb217)); replace HB := As0 (below_step (BU HB.out) hb); clear hb hbox hg; obtain ⟨hcz15_0, hcz15_1, hcz15_2, hcz15_3, hfz15_0, hfz15_1, hfz15_2, hfz15_3⟩ := cN4 BK217.out) | ((with_reducible refine gate_callee (f := 48) rfl ?_); refine goesL_ (some 8) rfl rfl Try.func48 (by kernel_rfl) rfl #[.agg #[.int .i64 a0_0, .int .i64 a0_1, .int .i64 a0_2, .slice A0_3 l0_3.length c0_3]] rfl (by (try simp only [List.map_toArray, List.map_cons, List.map_nil]); first | done | rfl | (simp only [List.length_drop, List.length_take]; rfl)) ?_; (with_reducible refine (regcertref08_Few.calls k a0_0 a0_1 a0_2 _ _ l0_3 true _ ?side1 ?side2 A4.out).mono ?_); (case side1 => repeat (first | exact (Kd.C_below HR0_3.out HB.out) | (with_reducible refine Kd.C_alloc ?_ _) | (with_reducible refine Kd.C_drewN ?_ _) | (with_reducible refine Kd.C_drew ?_))); (case side2 => exact HC0_3.out); rintro e w16 ⟨rfl, hb⟩; refine ⟨_, rfl, ?_⟩; replace BK217 := As0 (blk_below (bU BK217.out) hb); replace HB := As0 (below_step (BU HB.out) hb); (try clear hb); (try clear hb2); (try clear hk); (try clear hi); obtain ⟨hcz17_0, hcz17_1, hcz17_2, hcz17_3, hfz17_0, hfz17_1, hfz17_2, hfz17_3⟩ := cN4 BK217.out) | (go_at_call 49; (with_reducible refine (regcertref08_Check.calls k a0_0 a0_1 a0_2 _ _ l0_3 t219 _ ?side1 ?side2 A6.out).mono ?_); (case side1 => repeat (first | exact (Kd.C_below HR0_3.out HB.out) | (with_reducible refine Kd.C_alloc ?_ _) | (with_reducible refine Kd.C_drewN ?_ _) | (with_reducible refine Kd.C_drew ?_))); (case side2 => exact HC0_3.out); rintro e w18 ⟨rfl, hb⟩; replace BK217 := As0 (blk_below (bU BK217.out) hb); replace HB := As0 (below_step (BU HB.out) hb); (try clear hb); (try clear hb2); (try clear hk); (try clear hi)))
  go_ret
  exact ⟨by first | rfl | (simp [errW_none, errW_some] <;> rfl) | (simp [*, errW_none, errW_some] <;> rfl), BU HB.out⟩
 rw [if_pos c8] at H
 have c8b0 : decide (a2 ≤ 400) = true := decide_eq_true c8
 clear c8
 obtain rfl := Option.some.inj H
 go_enter Try.func45, Try.ntmps45
 go_wp2_with (first | ((with_reducible refine gate_dst (N := 3) rfl ?_); (try (refine gate_guard (by rfl) ?_; dsimp only)); refine bX (N := 3) (cs := #[.int .i64 a0_0, .int .i64 a0_1, .int .i64 a0_2, .slice A0_3 l0_3.length c0_3]) (t := 63) ?_; intro gb217 hg w9 hbox hb; have BK217 := As0 (hbox); have GW217 := As0 ((by rw [hg]; exact (below_size (BU HB.out)) : w.heap.size ≤ gb217)); have GE217 := As0 ((by rw [hg]; exact (below_size (BU HB.out)) : w.heap.size ≤ gb217)); replace HB := As0 (below_step (BU HB.out) hb); clear hb hbox hg; obtain ⟨hcz10_0, hcz10_1, hcz10_2, hcz10_3, hfz10_0, hfz10_1, hfz10_2, hfz10_3⟩ := cN4 BK217.out) | ((with_reducible refine gate_callee (f := 48) rfl ?_); refine goesL_ (some 8) rfl rfl Try.func48 (by kernel_rfl) rfl #[.agg #[.int .i64 a0_0, .int .i64 a0_1, .int .i64 a0_2, .slice A0_3 l0_3.length c0_3]] rfl (by (try simp only [List.map_toArray, List.map_cons, List.map_nil]); first | done | rfl | (simp only [List.length_drop, List.length_take]; rfl)) ?_; (with_reducible refine (regcertref08_Few.calls k a0_0 a0_1 a0_2 _ _ l0_3 true _ ?side1 ?side2 A4.out).mono ?_); (case side1 => repeat (first | exact (Kd.C_below HR0_3.out HB.out) | (with_reducible refine Kd.C_alloc ?_ _) | (with_reducible refine Kd.C_drewN ?_ _) | (with_reducible refine Kd.C_drew ?_))); (case side2 => exact HC0_3.out); rintro e w11 ⟨rfl, hb⟩; refine ⟨_, rfl, ?_⟩; replace BK217 := As0 (blk_below (bU BK217.out) hb); replace HB := As0 (below_step (BU HB.out) hb); (try clear hb); (try clear hb2); (try clear hk); (try clear hi); obtain ⟨hcz12_0, hcz12_1, hcz12_2, hcz12_3, hfz12_0, hfz12_1, hfz12_2, hfz12_3⟩ := cN4 BK217.out) | (go_at_call 49; (with_reducible refine (regcertref08_Check.calls k a0_0 a0_1 a0_2 _ _ l0_3 t219 _ ?side1 ?side2 A6.out).mono ?_); (case side1 => repeat (first | exact (Kd.C_below HR0_3.out HB.out) | (with_reducible refine Kd.C_alloc ?_ _) | (with_reducible refine Kd.C_drewN ?_ _) | (with_reducible refine Kd.C_drew ?_))); (case side2 => exact HC0_3.out); rintro e w13 ⟨rfl, hb⟩; replace BK217 := As0 (blk_below (bU BK217.out) hb); replace HB := As0 (below_step (BU HB.out) hb); (try clear hb); (try clear hb2); (try clear hk); (try clear hi)))
 go_ret
 exact ⟨by first | rfl | (simp [errW_none, errW_some] <;> rfl) | (simp [*, errW_none, errW_some] <;> rfl), BU HB.out⟩

end Go.Proofs.Ytgkmagfajalnhaa.E
