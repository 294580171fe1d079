/-
  The reference's Prefix: its contract.
-/
import Derived.Test.YtgkmagfajalnhaaUEVal
namespace Go.Proofs.Ytgkmagfajalnhaa.E
open Go.RowKit Go.Proofs.YtgkmagfajalnhaaW.PrintWords Go.Proofs.YtgkmagfajalnhaaW.PrintLast Go.Proofs.YtgkmagfajalnhaaW.PrintMore
set_option linter.unusedVariables false
set_option linter.unusedSimpArgs false

/-! ### regcertref09_Prefix: function 32 -/
def regcertref09_Prefix.f (k : Nat) (l0 : List Int) (l1 : List Int) : Option (Bool) := if (l0.length : Int) ≤ (l1.length : Int) then (if 0 ≤ (l0.length : Int) then ((regcertref09_Values.f k l0 (l1.take ((l0.length : Int) : Int).toNat)).bind fun t225 => (some t225)) else (none)) else (some false)
theorem regcertref09_Prefix.mono : ∀ a0 a1 k, LeO (regcertref09_Prefix.f k a0 a1) (regcertref09_Prefix.f (k + 1) a0 a1) := by
 intro a0 a1 k
 unfold regcertref09_Prefix.f
 repeat' first
   | (with_reducible exact regcertref09_Values.mono _ _ _)
   | (with_reducible exact LeO.refl _)
   | (with_reducible exact LeO.none _)
   | (with_reducible refine LeO.ite ?_ ?_)
   | (with_reducible refine LeO.bind ?_ (fun _ => ?_))
   | exact regcertref09_Values.mono _ _ _
   | exact LeO.none _
   | refine LeO.ite ?_ ?_
   | refine LeO.bind ?_ (fun _ => ?_)
set_option maxHeartbeats 8000000 in
set_option maxRecDepth 100000 in
theorem regcertref09_Prefix.calls (k : Nat) (A0 : Option Addr) (c0 : Nat) (l0 : List Int) (A1 : Option Addr) (c1 : Nat) (l1 : List Int) (r : Bool) (w : World) (hr0 : Kd.C (Kd.int .i64) w A0 l0.length l0) (hc0 : l0.length ≤ c0) (hr1 : Kd.C (Kd.int .i64) w A1 l1.length l1) (hc1 : l1.length ≤ c1) (h : regcertref09_Prefix.f k l0 l1 = some r) :
  Calls Try.prog 32 #[.slice A0 l0.length c0, .slice A1 l1.length c1] w fun e w' => e = .returned (.bool r) ∧ Drawn0 w w' := by
 have HR0 := As0 hr0
 have HC0 := As0 hc0
 clear hr0 hc0
 have HR1 := As0 hr1
 have HC1 := As0 hc1
 clear hr1 hc1
 have H : (if (l0.length : Int) ≤ (l1.length : Int) then (if 0 ≤ (l0.length : Int) then ((regcertref09_Values.f k l0 (l1.take ((l0.length : Int) : Int).toNat)).bind fun t225 => (some t225)) else (none)) else (some false)) = some r := h
 clear h
 by_cases c3 : (l0.length : Int) ≤ (l1.length : Int)
 ·rw [if_pos c3] at H
  have c3b0 : decide ((l0.length : Int) ≤ (l1.length : Int)) = true := decide_eq_true c3
  have c3b1 : decide (l0.length ≤ l1.length) = true := decide_eq_true (Int.ofNat_le.mp c3)
  clear c3
  by_cases c4 : 0 ≤ (l0.length : Int)
  ·rw [if_pos c4] at H
   have c4b0 := eq_true c4
   have c4b1 : decide (0 ≤ (l0.length : Int)) = true := decide_eq_true c4
   clear c4
   have c5b0 := eq_true (of_decide_eq_true (by first | (with_reducible assumption) | assumption) : (l0.length : Int) ≤ (l1.length : Int))
   replace H := Option.bind_eq_some_iff.mp H
   obtain ⟨t225, A60, H⟩ := H
   replace H : (some t225) = some r := H
   have A6 := As0 A60
   clear A60
   obtain rfl := Option.some.inj H
   obtain ⟨i07, hi07, _, hsz7, _⟩ := info_parts info2
   obtain ⟨hcut7, hA7, hC7⟩ := print_take_of (P := Try.prog) (Value.int .i64) 0 35 2 .i64 Try.underlying35 hi07 hsz7 A1 c1 l1 (l0.length : Int) (of_decide_eq_true (by first | (with_reducible assumption) | assumption)) (of_decide_eq_true (by first | (with_reducible assumption) | assumption)) HC1.out
   have HR224 := As0 (Kd.C_of_reads (h1 := fun _ => rfl) (hA7 _ (Kd.reads_of_C HR1.out)))
   have HC224 := As0 hC7
   clear hA7 hC7 hi07 hsz7
   go_enter Try.func32, Try.ntmps32
   go_wp2_with fail
   rw [show min l0.length l1.length = (l1.take ((l0.length : Int)).toNat).length by simp]
   refine (regcertref09_Values.calls k _ _ l0 _ _ (l1.take ((l0.length : Int) : Int).toNat) t225 _ ?side1 ?side2 ?side3 ?side4 A6.out).mono ?_
   case side1 => repeat (first | exact HR0.out | (with_reducible refine Kd.C_alloc ?_ _) | (with_reducible refine Kd.C_drewN ?_ _) | (with_reducible refine Kd.C_drew ?_))
   case side2 => exact HC0.out
   case side3 => repeat (first | exact HR224.out | (with_reducible refine Kd.C_alloc ?_ _) | (with_reducible refine Kd.C_drewN ?_ _) | (with_reducible refine Kd.C_drew ?_))
   case side4 => exact HC224.out
   rintro e w' ⟨rfl, ⟨nd, rfl⟩⟩
   go_wp2
   go_ret
   exact ⟨by first | rfl | (simp; done) | (simp [*]; done), by repeat (first | exact Drawn0.refl _ | apply Drawn0.step)⟩
  ·rw [if_neg c4] at H
   exact absurd H (by simp)
 ·rw [if_neg c3] at H
  have c3b0 : decide ((l0.length : Int) ≤ (l1.length : Int)) = false := decide_eq_false c3
  have c3b1 : decide (l0.length ≤ l1.length) = false := decide_eq_false (fun h => c3 (Int.ofNat_le.mpr h))
  clear c3
  obtain rfl := Option.some.inj H
  go_enter Try.func32, Try.ntmps32
  go_wp2
  go_ret
  exact ⟨by first | rfl | (simp; done) | (simp [*]; done), by repeat (first | exact Drawn0.refl _ | apply Drawn0.step)⟩

end Go.Proofs.Ytgkmagfajalnhaa.E
