-- Written by a program of this session (xprint), out of the translation. Not trusted: Lean checks it.
import Derived.Test.YtgkmagfajalnhaaTE0
import Derived.Test.YtgkmagfajalnhaaTY0
namespace Go.Proofs.Ytgkmagfajalnhaa.X
open Go.Proofs.Ytgkmagfajalnhaa.E (BU)
open Go.RowKit Go.Proofs.YtgkmagfajalnhaaW.PrintWords Go.Proofs.YtgkmagfajalnhaaW.PrintLast Go.Proofs.YtgkmagfajalnhaaW.PrintMore Go.Proofs.Ytgkmagfajalnhaa.Y
attribute [local go_sem] max2_int min2_int max_two min_two max_three min_three max_four min_four   -- for this text's walks alone
set_option linter.unusedVariables false
set_option linter.unusedSimpArgs false

/-! ### regcertref06_bit: function 87 -/
def regcertref06_bit.l0 : Nat → Int → Int → Int → Option (Bool)
 | 0, _, _, _ => none
 | k + 1, x0, x1, x5 => if x5 < x1 then (regcertref06_bit.l0 k (IntKind.u64.wrap (Int.tdiv x0 2)) x1 (wrap64 (x5 + 1))) else (some ((Int.tmod x0 2) == 1))
def regcertref06_bit.f (k : Nat) (a0 : Int) (a1 : Int) : Option (Bool) := regcertref06_bit.l0 k a0 a1 0
theorem regcertref06_bit.mono_l : ∀ k, (∀ y0 y1 y2, LeO (regcertref06_bit.l0 k y0 y1 y2) (regcertref06_bit.l0 (k + 1) y0 y1 y2))
 | 0 => fun _ _ _ r h => by simp [regcertref06_bit.l0] at h
 | k + 1 => by
  have ih0 := regcertref06_bit.mono_l k
  ·intro y0 y1 y2
   unfold regcertref06_bit.l0
   repeat' first
   | (with_reducible exact ih0 _ _ _)
   | (with_reducible exact LeO.refl _)
   | (with_reducible exact LeO.none _)
   | (with_reducible refine LeO.ite ?_ ?_)
   | (with_reducible refine LeO.bind ?_ (fun _ => ?_))
   | exact ih0 _ _ _
   | exact LeO.none _
   | refine LeO.ite ?_ ?_
   | refine LeO.bind ?_ (fun _ => ?_)
theorem regcertref06_bit.mono : ∀ a0 a1 k, LeO (regcertref06_bit.f k a0 a1) (regcertref06_bit.f (k + 1) a0 a1) := by
 intro a0 a1 k
 have ih0 := regcertref06_bit.mono_l k
 unfold regcertref06_bit.f
 repeat' first
   | (with_reducible exact ih0 _ _ _)
   | (with_reducible exact LeO.refl _)
   | (with_reducible exact LeO.none _)
   | (with_reducible refine LeO.ite ?_ ?_)
   | (with_reducible refine LeO.bind ?_ (fun _ => ?_))
   | exact ih0 _ _ _
   | exact LeO.none _
   | refine LeO.ite ?_ ?_
   | refine LeO.bind ?_ (fun _ => ?_)
set_option maxHeartbeats 8000000 in
set_option maxRecDepth 100000 in
theorem regcertref06_bit.calls (k : Nat) (a0 : Int) (a1 : Int) (r : Bool) (w : World) (h : regcertref06_bit.f k a0 a1 = some r) :
  Calls Try.prog 87 #[.int .u64 a0, .int .i64 a1] w fun e w' => e = .returned (.bool r) ∧ Drawn0 w w' := by
 have H : (regcertref06_bit.l0 k a0 a1 0) = some r := h
 clear h
 have H' := As0 H
 clear H
 go_enter Try.func87, Try.ntmps87
 go_wp2
 go_loopg [0, 5] k (fun kq v0 v5 w' => ∃ (x0_1 : Int) (x5_1 : Int), v0 = .int .u64 x0_1 ∧ v5 = .int .i64 x5_1 ∧ Aside0 (regcertref06_bit.l0 kq x0_1 a1 x5_1 = some r) ∧ Aside0 (kq ≤ k) ∧ Drawn0 w w')
 case atStart => exact ⟨(a0), (0), (by first | rfl | (simp; done) | (simp [*]; done)), (by first | rfl | (simp; done) | (simp [*]; done)), H', ⟨Nat.le_refl _⟩, by repeat (first | exact Drawn0.refl _ | apply Drawn0.step)⟩
 case round =>
  clear H'
  try clear p2
  obtain ⟨x0_1, x5_1, rfl, rfl, HA, HK1, ⟨m1, rfl⟩⟩ := hrel
  cases gk with
  | zero => exact absurd HA.out (by simp [regcertref06_bit.l0])
  | succ k1 =>
   have H := HA.out
   clear HA
   simp only [regcertref06_bit.l0] at H
   by_cases c3 : x5_1 < a1
   rotate_left
   ·rw [if_neg c3] at H
    have c3b0 : decide (x5_1 < a1) = false := decide_eq_false c3
    clear c3
    obtain rfl := Option.some.inj H
    go_wp2
    go_ret
    exact ⟨by first | rfl | (simp; done) | (simp [*]; done), by repeat (first | exact Drawn0.refl _ | apply Drawn0.step)⟩
   rw [if_pos c3] at H
   have c3b0 : decide (x5_1 < a1) = true := decide_eq_true c3
   clear c3
   have H' := As0 H
   clear H
   go_wp2
   go_roundg k1
   case measure => have := HK1.out; omega
   case rel => exact ⟨(IntKind.u64.wrap (Int.tdiv x0_1 2)), (wrap64 (x5_1 + 1)), (by first | rfl | (simp; done) | (simp [*]; done)), (by first | rfl | (simp; done) | (simp [*]; done)), H', ⟨by have := HK1.out; omega⟩, by repeat (first | exact Drawn0.refl _ | apply Drawn0.step)⟩

/-! ### regcertref06_bits: function 59 -/
mutual
def regcertref06_bits.l0 : Nat → Int → Int → List Bool → Int → Int → Int → Option (Int)
 | 0, _, _, _, _, _, _ => none
 | k + 1, x0, x1, x2, x7, x8, x9 => if x9 < 64 then ((regcertref06_bit.f k (IntKind.u64.wrap (x0)) x9).bind fun t118 => (if t118 = true then (regcertref06_bits.j1 k x0 x1 x2 x7 x8 x9 2) else (regcertref06_bits.j1 k x0 x1 x2 x7 x8 x9 0))) else (some (wrap64 (x7)))
def regcertref06_bits.j1 : Nat → Int → Int → List Bool → Int → Int → Int → Int → Option (Int)
 | 0, _, _, _, _, _, _, _ => none
 | k + 1, x0, x1, x2, x7, x8, x9, x10 => (regcertref06_bit.f k (IntKind.u64.wrap (x1)) x9).bind fun t119 => (if t119 = true then (regcertref06_bits.j2 k x0 x1 x2 x7 x8 x9 (wrap64 (x10 + 1))) else (regcertref06_bits.j2 k x0 x1 x2 x7 x8 x9 x10))
def regcertref06_bits.j2 : Nat → Int → Int → List Bool → Int → Int → Int → Int → Option (Int)
 | 0, _, _, _, _, _, _, _ => none
 | k + 1, x0, x1, x2, x7, x8, x9, x10 => if 0 ≤ x10 then (if x10 < (x2.length : Int) then (if rdOf false x2 x10 = true then (regcertref06_bits.l0 k x0 x1 x2 (IntKind.u64.wrap (x7 + x8)) (IntKind.u64.wrap (x8 * 2)) (wrap64 (x9 + 1))) else (regcertref06_bits.l0 k x0 x1 x2 x7 (IntKind.u64.wrap (x8 * 2)) (wrap64 (x9 + 1)))) else (none)) else (none)
end
def regcertref06_bits.f (k : Nat) (a0 : Int) (a1 : Int) (l2 : List Bool) : Option (Int) := regcertref06_bits.l0 k a0 a1 l2 0 1 0
theorem regcertref06_bits.mono_l : ∀ k, (∀ y0 y1 y2 y3 y4 y5, LeO (regcertref06_bits.l0 k y0 y1 y2 y3 y4 y5) (regcertref06_bits.l0 (k + 1) y0 y1 y2 y3 y4 y5)) ∧ (∀ y0 y1 y2 y3 y4 y5 y6, LeO (regcertref06_bits.j1 k y0 y1 y2 y3 y4 y5 y6) (regcertref06_bits.j1 (k + 1) y0 y1 y2 y3 y4 y5 y6)) ∧ (∀ y0 y1 y2 y3 y4 y5 y6, LeO (regcertref06_bits.j2 k y0 y1 y2 y3 y4 y5 y6) (regcertref06_bits.j2 (k + 1) y0 y1 y2 y3 y4 y5 y6))
 | 0 => ⟨fun _ _ _ _ _ _ r h => by simp [regcertref06_bits.l0] at h, fun _ _ _ _ _ _ _ r h => by simp [regcertref06_bits.j1] at h, fun _ _ _ _ _ _ _ r h => by simp [regcertref06_bits.j2] at h⟩
 | k + 1 => by
  obtain ⟨ih0, ih1, ih2⟩ := regcertref06_bits.mono_l k
  refine ⟨?_, ?_, ?_⟩
  ·intro y0 y1 y2 y3 y4 y5
   unfold regcertref06_bits.l0
   repeat' first
   | (with_reducible exact ih0 _ _ _ _ _ _)
   | (with_reducible exact ih1 _ _ _ _ _ _ _)
   | (with_reducible exact ih2 _ _ _ _ _ _ _)
   | (with_reducible exact regcertref06_bit.mono _ _ _)
   | (with_reducible exact LeO.refl _)
   | (with_reducible exact LeO.none _)
   | (with_reducible refine LeO.ite ?_ ?_)
   | (with_reducible refine LeO.bind ?_ (fun _ => ?_))
   | exact ih0 _ _ _ _ _ _
   | exact ih1 _ _ _ _ _ _ _
   | exact ih2 _ _ _ _ _ _ _
   | exact regcertref06_bit.mono _ _ _
   | exact LeO.none _
   | refine LeO.ite ?_ ?_
   | refine LeO.bind ?_ (fun _ => ?_)
  ·intro y0 y1 y2 y3 y4 y5 y6
   unfold regcertref06_bits.j1
   repeat' first
   | (with_reducible exact ih0 _ _ _ _ _ _)
   | (with_reducible exact ih1 _ _ _ _ _ _ _)
   | (with_reducible exact ih2 _ _ _ _ _ _ _)
   | (with_reducible exact regcertref06_bit.mono _ _ _)
   | (with_reducible exact LeO.refl _)
   | (with_reducible exact LeO.none _)
   | (with_reducible refine LeO.ite ?_ ?_)
   | (with_reducible refine LeO.bind ?_ (fun _ => ?_))
   | exact ih0 _ _ _ _ _ _
   | exact ih1 _ _ _ _ _ _ _
   | exact ih2 _ _ _ _ _ _ _
   | exact regcertref06_bit.mono _ _ _
   | exact LeO.none _
   | refine LeO.ite ?_ ?_
   | refine LeO.bind ?_ (fun _ => ?_)
  ·intro y0 y1 y2 y3 y4 y5 y6
   unfold regcertref06_bits.j2
   repeat' first
   | (with_reducible exact ih0 _ _ _ _ _ _)
   | (with_reducible exact ih1 _ _ _ _ _ _ _)
   | (with_reducible exact ih2 _ _ _ _ _ _ _)
   | (with_reducible exact regcertref06_bit.mono _ _ _)
   | (with_reducible exact LeO.refl _)
   | (with_reducible exact LeO.none _)
   | (with_reducible refine LeO.ite ?_ ?_)
   | (with_reducible refine LeO.bind ?_ (fun _ => ?_))
   | exact ih0 _ _ _ _ _ _
   | exact ih1 _ _ _ _ _ _ _
   | exact ih2 _ _ _ _ _ _ _
   | exact regcertref06_bit.mono _ _ _
   | exact LeO.none _
   | refine LeO.ite ?_ ?_
   | refine LeO.bind ?_ (fun _ => ?_)
theorem regcertref06_bits.mono : ∀ a0 a1 a2 k, LeO (regcertref06_bits.f k a0 a1 a2) (regcertref06_bits.f (k + 1) a0 a1 a2) := by
 intro a0 a1 a2 k
 obtain ⟨ih0, ih1, ih2⟩ := regcertref06_bits.mono_l k
 unfold regcertref06_bits.f
 repeat' first
   | (with_reducible exact ih0 _ _ _ _ _ _)
   | (with_reducible exact ih1 _ _ _ _ _ _ _)
   | (with_reducible exact ih2 _ _ _ _ _ _ _)
   | (with_reducible exact regcertref06_bit.mono _ _ _)
   | (with_reducible exact LeO.refl _)
   | (with_reducible exact LeO.none _)
   | (with_reducible refine LeO.ite ?_ ?_)
   | (with_reducible refine LeO.bind ?_ (fun _ => ?_))
   | exact ih0 _ _ _ _ _ _
   | exact ih1 _ _ _ _ _ _ _
   | exact ih2 _ _ _ _ _ _ _
   | exact regcertref06_bit.mono _ _ _
   | exact LeO.none _
   | refine LeO.ite ?_ ?_
   | refine LeO.bind ?_ (fun _ => ?_)
set_option maxHeartbeats 8000000 in
set_option maxRecDepth 100000 in
theorem regcertref06_bits.calls (k : Nat) (a0 : Int) (a1 : Int) (A2 : Option Addr) (c2 : Nat) (l2 : List Bool) (r : Int) (w : World) (hr2 : Kd.C Kd.bool w A2 l2.length l2) (hc2 : l2.length ≤ c2) (h : regcertref06_bits.f k a0 a1 l2 = some r) :
  Calls Try.prog 59 #[.int .i64 a0, .int .i64 a1, .slice A2 l2.length c2] w fun e w' => e = .returned (.int .i64 r) ∧ Drawn0 w w' := by
 have HR2 := As0 hr2
 have HC2 := As0 hc2
 clear hr2 hc2
 have H : (regcertref06_bits.l0 k a0 a1 l2 0 1 0) = some r := h
 clear h
 have H' := As0 H
 clear H
 go_enter Try.func59, Try.ntmps59
 go_wp2
 go_loopg [7, 8, 9] k (fun kq v7 v8 v9 w' => ∃ (x7_1 : Int) (x8_1 : Int) (x9_1 : Int), v7 = .int .u64 x7_1 ∧ v8 = .int .u64 x8_1 ∧ v9 = .int .i64 x9_1 ∧ Aside0 (regcertref06_bits.l0 kq a0 a1 l2 x7_1 x8_1 x9_1 = some r) ∧ Aside0 (kq ≤ k) ∧ Drawn0 w w')
 case atStart => exact ⟨(0), (1), (0), (by first | rfl | (simp; done) | (simp [*]; done)), (by first | rfl | (simp; done) | (simp [*]; done)), (by first | rfl | (simp; done) | (simp [*]; done)), H', ⟨Nat.le_refl _⟩, by repeat (first | exact Drawn0.refl _ | apply Drawn0.step)⟩
 case round =>
  clear H'
  try clear c2
  try clear p2
  obtain ⟨x7_1, x8_1, x9_1, rfl, rfl, rfl, HA, HK1, ⟨m1, rfl⟩⟩ := hrel
  cases gk with
  | zero => exact absurd HA.out (by simp [regcertref06_bits.l0])
  | succ k1 =>
   have H := HA.out
   clear HA
   simp only [regcertref06_bits.l0] at H
   by_cases c4 : x9_1 < 64
   rotate_left
   ·rw [if_neg c4] at H
    have c4b0 : decide (x9_1 < 64) = false := decide_eq_false c4
    clear c4
    obtain rfl := Option.some.inj H
    go_wp2
    go_ret
    exact ⟨by first | rfl | (simp; done) | (simp [*]; done), by repeat (first | exact Drawn0.refl _ | apply Drawn0.step)⟩
   rw [if_pos c4] at H
   have c4b0 : decide (x9_1 < 64) = true := decide_eq_true c4
   clear c4
   replace H := Option.bind_eq_some_iff.mp H
   obtain ⟨t118, A50, H⟩ := H
   have A5 := As0 A50
   clear A50
   have HC6 := As0 H
   clear H
   go_upto_if 18 with (first | ((with_reducible refine gate_callee (f := 87) rfl ?_); refine goesL_ (some 18) rfl rfl Try.func87 (by kernel_rfl) rfl #[.int .u64 (IntKind.u64.wrap (a0)), .int .i64 x9_1] rfl (by (try simp only [List.map_toArray, List.map_cons, List.map_nil]); first | done | rfl | (simp only [List.length_drop, List.length_take]; rfl)) ?_; (with_reducible refine (regcertref06_bit.calls k1 (IntKind.u64.wrap (a0)) x9_1 t118 _ A5.out).mono ?_); rintro e w' ⟨rfl, ⟨nd, rfl⟩⟩; refine ⟨_, rfl, ?_⟩))
   (try simp only [Act.put, sL1, sL2, sL3])
   go_cut [10] (fun v10 wc => ∃ (kq : Nat) (x10_5 : Int), v10 = .int .i64 x10_5 ∧ Aside0 (regcertref06_bits.j1 kq a0 a1 l2 x7_1 x8_1 x9_1 x10_5 = some r) ∧ Aside0 (kq ≤ k1) ∧ Drawn0 w wc)
   case first =>
    have H := HC6.out
    clear HC6
    by_cases c7 : t118 = true
    ·subst c7
     rw [if_pos rfl] at H
     have H' := As0 H
     clear H
     go_wp2
     go_meet
     case rel => exact ⟨_, (2), (by first | rfl | (simp; done) | (simp [*]; done)), H', ⟨by have := HK1.out; first | omega | exact Nat.le_refl _⟩, by repeat (first | exact Drawn0.refl _ | apply Drawn0.step)⟩
    replace c7 := Bool.eq_false_iff.mpr c7
    subst c7
    rw [if_neg (show ¬ (false = true) by decide)] at H
    have H' := As0 H
    clear H
    go_wp2
    go_meet
    case rel => exact ⟨_, (0), (by first | rfl | (simp; done) | (simp [*]; done)), H', ⟨by have := HK1.out; first | omega | exact Nat.le_refl _⟩, by repeat (first | exact Drawn0.refl _ | apply Drawn0.step)⟩
   case rest =>
    clear HC6
    try clear c2
    try clear p2
    try clear c4
    try clear c4b0
    try clear c5
    try clear c7
    try clear p2
    obtain ⟨kq, x10_5, rfl, HA, HJ5, ⟨mc5, rfl⟩⟩ := hcut
    cases kq with
    | zero => exact absurd HA.out (by simp [regcertref06_bits.j1])
    | succ kj5 =>
     have H := HA.out
     clear HA
     simp only [regcertref06_bits.j1] at H
     replace H := Option.bind_eq_some_iff.mp H
     obtain ⟨t119, A80, H⟩ := H
     have A8 := As0 A80
     clear A80
     have HC9 := As0 H
     clear H
     go_upto_if 22 with (first | ((with_reducible refine gate_callee (f := 87) rfl ?_); refine goesL_ (some 22) rfl rfl Try.func87 (by kernel_rfl) rfl #[.int .u64 (IntKind.u64.wrap (a1)), .int .i64 x9_1] rfl (by (try simp only [List.map_toArray, List.map_cons, List.map_nil]); first | done | rfl | (simp only [List.length_drop, List.length_take]; rfl)) ?_; (with_reducible refine (regcertref06_bit.calls kj5 (IntKind.u64.wrap (a1)) x9_1 t119 _ A8.out).mono ?_); rintro e w' ⟨rfl, ⟨nd, rfl⟩⟩; refine ⟨_, rfl, ?_⟩))
     (try simp only [Act.put, sL1, sL2, sL3])
     go_cut [10] (fun v10 wc => ∃ (kq : Nat) (x10_8 : Int), v10 = .int .i64 x10_8 ∧ Aside0 (regcertref06_bits.j2 kq a0 a1 l2 x7_1 x8_1 x9_1 x10_8 = some r) ∧ Aside0 (kq ≤ kj5) ∧ Drawn0 w wc)
     case first =>
      have H := HC9.out
      clear HC9
      by_cases c10 : t119 = true
      ·subst c10
       rw [if_pos rfl] at H
       have H' := As0 H
       clear H
       go_wp2
       go_meet
       case rel => exact ⟨_, (wrap64 (x10_5 + 1)), (by first | rfl | (simp; done) | (simp [*]; done)), H', ⟨by have := HK1.out; have := HJ5.out; first | omega | exact Nat.le_refl _⟩, by repeat (first | exact Drawn0.refl _ | apply Drawn0.step)⟩
      replace c10 := Bool.eq_false_iff.mpr c10
      subst c10
      rw [if_neg (show ¬ (false = true) by decide)] at H
      have H' := As0 H
      clear H
      go_wp2
      go_meet
      case rel => exact ⟨_, (x10_5), (by first | rfl | (simp; done) | (simp [*]; done)), H', ⟨by have := HK1.out; have := HJ5.out; first | omega | exact Nat.le_refl _⟩, by repeat (first | exact Drawn0.refl _ | apply Drawn0.step)⟩
     case rest =>
      clear HC9
      try clear c1
      try clear c2
      try clear p2
      try clear c4
      try clear c4b0
      try clear c5
      try clear p6
      try clear c7
      try clear c8
      try clear c10
      try clear p2
      obtain ⟨kq, x10_8, rfl, HA, HJ8, ⟨mc8, rfl⟩⟩ := hcut
      cases kq with
      | zero => exact absurd HA.out (by simp [regcertref06_bits.j2])
      | succ kj8 =>
       have H := HA.out
       clear HA
       simp only [regcertref06_bits.j2] at H
       by_cases c11 : 0 ≤ x10_8
       rotate_left
       ·rw [if_neg c11] at H
        exact absurd H (by simp)
       rw [if_pos c11] at H
       have c11b0 : decide (0 ≤ x10_8) = true := decide_eq_true c11
       clear c11
       by_cases c12 : x10_8 < (l2.length : Int)
       rotate_left
       ·rw [if_neg c12] at H
        exact absurd H (by simp)
       rw [if_pos c12] at H
       have c12b0 : decide (x10_8 < (l2.length : Int)) = true := decide_eq_true c12
       clear c12
       obtain ⟨bq13, hbq13⟩ : ∃ b_ : Bool, b_ = (rdOf false l2 x10_8) := ⟨_, rfl⟩
       replace H : (if bq13 = true then (regcertref06_bits.l0 kj8 a0 a1 l2 (IntKind.u64.wrap (x7_1 + x8_1)) (IntKind.u64.wrap (x8_1 * 2)) (wrap64 (x9_1 + 1))) else (regcertref06_bits.l0 kj8 a0 a1 l2 x7_1 (IntKind.u64.wrap (x8_1 * 2)) (wrap64 (x9_1 + 1)))) = some r := by rw [← hbq13] at H; exact H
       have Nbq13 := As0 hbq13
       clear hbq13
       by_cases c14 : bq13 = true
       ·subst c14
        rw [if_pos rfl] at H
        have H' := As0 H
        clear H
        have p120 : 0 ≤ (x10_8 : Int) := of_decide_eq_true (by first | (with_reducible assumption) | assumption)
        have q120 : x10_8 < (l2.length : Int) := of_decide_eq_true (by first | (with_reducible assumption) | assumption)
        obtain ⟨ad120, e120, hx120_0⟩ := Kd.at_bool HR2.out x10_8 p120 q120
        (try rw [← Nbq13.out] at hx120_0)
        cases e120
        replace p120 := eq_true p120
        replace q120 := eq_true q120
        go_wp2
        go_roundg kj8
        case measure => have := HK1.out; have := HJ5.out; have := HJ8.out; omega
        case rel => exact ⟨(IntKind.u64.wrap (x7_1 + x8_1)), (IntKind.u64.wrap (x8_1 * 2)), (wrap64 (x9_1 + 1)), (by first | rfl | (simp; done) | (simp [*]; done)), (by first | rfl | (simp; done) | (simp [*]; done)), (by first | rfl | (simp; done) | (simp [*]; done)), H', ⟨by have := HK1.out; have := HJ5.out; have := HJ8.out; omega⟩, by repeat (first | exact Drawn0.refl _ | apply Drawn0.step)⟩
       replace c14 := Bool.eq_false_iff.mpr c14
       subst c14
       rw [if_neg (show ¬ (false = true) by decide)] at H
       have H' := As0 H
       clear H
       have p120 : 0 ≤ (x10_8 : Int) := of_decide_eq_true (by first | (with_reducible assumption) | assumption)
       have q120 : x10_8 < (l2.length : Int) := of_decide_eq_true (by first | (with_reducible assumption) | assumption)
       obtain ⟨ad120, e120, hx120_0⟩ := Kd.at_bool HR2.out x10_8 p120 q120
       (try rw [← Nbq13.out] at hx120_0)
       cases e120
       replace p120 := eq_true p120
       replace q120 := eq_true q120
       go_wp2
       go_roundg kj8
       case measure => have := HK1.out; have := HJ5.out; have := HJ8.out; omega
       case rel => exact ⟨(x7_1), (IntKind.u64.wrap (x8_1 * 2)), (wrap64 (x9_1 + 1)), (by first | rfl | (simp; done) | (simp [*]; done)), (by first | rfl | (simp; done) | (simp [*]; done)), (by first | rfl | (simp; done) | (simp [*]; done)), H', ⟨by have := HK1.out; have := HJ5.out; have := HJ8.out; omega⟩, by repeat (first | exact Drawn0.refl _ | apply Drawn0.step)⟩

/-! ### regcertref06_half: function 60 -/
def regcertref06_half.j0 : Nat → Int → Bool → Option (Int)
 | 0, _, _ => none
 | k + 1, x0, x9 => if x9 = true then (some (wrap64 ((wrap64 (Int.tdiv x0 2)) - 1))) else (some (wrap64 (Int.tdiv x0 2)))
def regcertref06_half.f (k : Nat) (a0 : Int) : Option (Int) := if a0 < 0 then (regcertref06_half.j0 k a0 ((Int.tmod a0 2) != 0)) else (regcertref06_half.j0 k a0 false)
theorem regcertref06_half.mono_l : ∀ k, (∀ y0 y1, LeO (regcertref06_half.j0 k y0 y1) (regcertref06_half.j0 (k + 1) y0 y1))
 | 0 => fun _ _ r h => by simp [regcertref06_half.j0] at h
 | k + 1 => by
  have ih0 := regcertref06_half.mono_l k
  ·intro y0 y1
   unfold regcertref06_half.j0
   repeat' first
   | (with_reducible exact ih0 _ _)
   | (with_reducible exact LeO.refl _)
   | (with_reducible exact LeO.none _)
   | (with_reducible refine LeO.ite ?_ ?_)
   | (with_reducible refine LeO.bind ?_ (fun _ => ?_))
   | exact ih0 _ _
   | exact LeO.none _
   | refine LeO.ite ?_ ?_
   | refine LeO.bind ?_ (fun _ => ?_)
theorem regcertref06_half.mono : ∀ a0 k, LeO (regcertref06_half.f k a0) (regcertref06_half.f (k + 1) a0) := by
 intro a0 k
 have ih0 := regcertref06_half.mono_l k
 unfold regcertref06_half.f
 repeat' first
   | (with_reducible exact ih0 _ _)
   | (with_reducible exact LeO.refl _)
   | (with_reducible exact LeO.none _)
   | (with_reducible refine LeO.ite ?_ ?_)
   | (with_reducible refine LeO.bind ?_ (fun _ => ?_))
   | exact ih0 _ _
   | exact LeO.none _
   | refine LeO.ite ?_ ?_
   | refine LeO.bind ?_ (fun _ => ?_)
set_option maxHeartbeats 8000000 in
set_option maxRecDepth 100000 in
theorem regcertref06_half.calls (k : Nat) (a0 : Int) (r : Int) (w : World) (h : regcertref06_half.f k a0 = some r) :
  Calls Try.prog 60 #[.int .i64 a0] w fun e w' => e = .returned (.int .i64 r) ∧ Drawn0 w w' := by
 have H : (if a0 < 0 then (regcertref06_half.j0 k a0 ((Int.tmod a0 2) != 0)) else (regcertref06_half.j0 k a0 false)) = some r := h
 clear h
 have HC2 := As0 H
 clear H
 go_enter Try.func60, Try.ntmps60
 go_upto_region 1 with (fail)
 go_cut [9] (fun v9 wc => ∃ (kq : Nat) (x9_1 : Bool), v9 = .bool x9_1 ∧ Aside0 (regcertref06_half.j0 kq a0 x9_1 = some r) ∧ Aside0 (kq ≤ k) ∧ Drawn0 w wc)
 case first =>
  have H := HC2.out
  clear HC2
  by_cases c3 : a0 < 0
  rotate_left
  ·rw [if_neg c3] at H
   have c3b0 : decide (a0 < 0) = false := decide_eq_false c3
   clear c3
   (first | rw [c3b0] | (simp only [i64_w, i32_w]; rw [c3b0]) | skip)
   have H' := As0 H
   clear H
   go_wp2
   go_meet
   case rel => exact ⟨_, (false), (by first | rfl | (simp; done) | (simp [*]; done)), H', ⟨by first | omega | exact Nat.le_refl _⟩, by repeat (first | exact Drawn0.refl _ | apply Drawn0.step)⟩
  rw [if_pos c3] at H
  have c3b0 : decide (a0 < 0) = true := decide_eq_true c3
  clear c3
  (first | rw [c3b0] | (simp only [i64_w, i32_w]; rw [c3b0]) | skip)
  have H' := As0 H
  clear H
  go_wp2
  go_meet
  case rel => exact ⟨_, (((Int.tmod a0 2) != 0)), (by first | rfl | (simp; done) | (simp [*]; done)), H', ⟨by first | omega | exact Nat.le_refl _⟩, by repeat (first | exact Drawn0.refl _ | apply Drawn0.step)⟩
 case rest =>
  clear HC2
  try clear p2
  try clear c3
  try clear c3b0
  obtain ⟨kq, x9_1, rfl, HA, HJ1, ⟨mc1, rfl⟩⟩ := hcut
  cases kq with
  | zero => exact absurd HA.out (by simp [regcertref06_half.j0])
  | succ kj1 =>
   have H := HA.out
   clear HA
   simp only [regcertref06_half.j0] at H
   by_cases c4 : x9_1 = true
   ·subst c4
    rw [if_pos rfl] at H
    obtain rfl := Option.some.inj H
    go_wp2
    go_ret
    exact ⟨by first | rfl | (simp; done) | (simp [*]; done), by repeat (first | exact Drawn0.refl _ | apply Drawn0.step)⟩
   replace c4 := Bool.eq_false_iff.mpr c4
   subst c4
   rw [if_neg (show ¬ (false = true) by decide)] at H
   obtain rfl := Option.some.inj H
   go_wp2
   go_ret
   exact ⟨by first | rfl | (simp; done) | (simp [*]; done), by repeat (first | exact Drawn0.refl _ | apply Drawn0.step)⟩

/-! ### regcertref06_truth: function 61 -/
def regcertref06_truth.f (a0 : Bool) : Option (Int) := if a0 = true then (some 1) else (some 0)
set_option maxHeartbeats 8000000 in
set_option maxRecDepth 100000 in
theorem regcertref06_truth.calls (a0 : Bool) (r : Int) (w : World) (h : regcertref06_truth.f a0 = some r) :
  Calls Try.prog 61 #[.bool a0] w fun e w' => e = .returned (.int .i64 r) ∧ Drawn0 w w' := by
 have H : (if a0 = true then (some 1) else (some 0)) = some r := h
 clear h
 by_cases c2 : a0 = true
 ·subst c2
  rw [if_pos rfl] at H
  obtain rfl := Option.some.inj H
  go_enter Try.func61, Try.ntmps61
  go_wp2
  go_ret
  exact ⟨by first | rfl | (simp; done) | (simp [*]; done), by repeat (first | exact Drawn0.refl _ | apply Drawn0.step)⟩
 replace c2 := Bool.eq_false_iff.mpr c2
 subst c2
 rw [if_neg (show ¬ (false = true) by decide)] at H
 obtain rfl := Option.some.inj H
 go_enter Try.func61, Try.ntmps61
 go_wp2
 go_ret
 exact ⟨by first | rfl | (simp; done) | (simp [*]; done), by repeat (first | exact Drawn0.refl _ | apply Drawn0.step)⟩

/-! ### regcertref06_Eval: function 21 -/
mutual
def regcertref06_Eval.j0 : Nat → Int → Int → Int → Int → Bool → Option (Int × Bool)
 | 0, _, _, _, _, _ => none
 | k + 1, x0, x1, x2, x13, x44 => if x44 = true then (if x2 = 0 then (some (0, false)) else (if x2 = (-1) then (regcertref06_Eval.j1 k x0 x1 x2 (wrap64 (-x1))) else (regcertref06_Eval.j1 k x0 x1 x2 (wrap64 (Int.tdiv x1 x2))))) else (if x13 = 10 then ((regcertref06_bits.f k x1 x2 (([false, false, false, true] : List Bool))).bind fun t124 => (some (t124, true))) else (if x13 = 11 then ((regcertref06_bits.f k x1 x2 (([false, true, true, true] : List Bool))).bind fun t128 => (some (t128, true))) else (if x13 = 12 then ((regcertref06_bits.f k x1 x2 (([false, true, true, false] : List Bool))).bind fun t132 => (some (t132, true))) else (if x13 = 13 then (regcertref06_Eval.j2 k x0 x1 x2 x13 (x13 == 13)) else (regcertref06_Eval.j2 k x0 x1 x2 x13 (x13 == 14))))))
def regcertref06_Eval.j1 : Nat → Int → Int → Int → Int → Option (Int × Bool)
 | 0, _, _, _, _ => none
 | k + 1, x0, x1, x2, x10 => if x0 = 8 then (some (x10, true)) else (some (wrap64 (x1 - (wrap64 (x2 * x10))), true))
def regcertref06_Eval.j2 : Nat → Int → Int → Int → Int → Bool → Option (Int × Bool)
 | 0, _, _, _, _, _ => none
 | k + 1, x0, x1, x2, x13, x83 => if x83 = true then (regcertref06_Eval.l0 k x0 x1 (wrap64 (Int.tmod (IntKind.u64.wrap (x2)) 64)) 0) else (if x13 = 15 then ((regcertref06_truth.f (x1 == x2)).bind fun t134 => (some (t134, true))) else (if x13 = 16 then ((regcertref06_truth.f (decide (x1 < x2))).bind fun t135 => (some (t135, true))) else (some (0, false))))
def regcertref06_Eval.l0 : Nat → Int → Int → Int → Int → Option (Int × Bool)
 | 0, _, _, _, _ => none
 | k + 1, x0, x1, x11, x12 => if x12 < x11 then (if x0 = 13 then (regcertref06_Eval.l0 k x0 (wrap64 (x1 * 2)) x11 (wrap64 (x12 + 1))) else ((regcertref06_half.f k x1).bind fun t133 => (regcertref06_Eval.l0 k x0 t133 x11 (wrap64 (x12 + 1))))) else (some (x1, true))
end
def regcertref06_Eval.f (k : Nat) (a0 : Int) (a1 : Int) (a2 : Int) (a3 : Int) : Option (Int × Bool) := if a0 = 1 then (some (a3, true)) else (if a0 = 2 then (some (a1, true)) else (if a0 = 3 then (some (wrap64 (-a1), true)) else (if a0 = 4 then (some (wrap64 ((wrap64 (-a1)) - 1), true)) else (if a0 = 5 then (some (wrap64 (a1 + a2), true)) else (if a0 = 6 then (some (wrap64 (a1 - a2), true)) else (if a0 = 7 then (some (wrap64 (a1 * a2), true)) else (if a0 = 8 then (regcertref06_Eval.j0 k a0 a1 a2 a0 (a0 == 8)) else (regcertref06_Eval.j0 k a0 a1 a2 a0 (a0 == 9)))))))))
theorem regcertref06_Eval.mono_l : ∀ k, (∀ y0 y1 y2 y3 y4, LeO (regcertref06_Eval.j0 k y0 y1 y2 y3 y4) (regcertref06_Eval.j0 (k + 1) y0 y1 y2 y3 y4)) ∧ (∀ y0 y1 y2 y3, LeO (regcertref06_Eval.j1 k y0 y1 y2 y3) (regcertref06_Eval.j1 (k + 1) y0 y1 y2 y3)) ∧ (∀ y0 y1 y2 y3 y4, LeO (regcertref06_Eval.j2 k y0 y1 y2 y3 y4) (regcertref06_Eval.j2 (k + 1) y0 y1 y2 y3 y4)) ∧ (∀ y0 y1 y2 y3, LeO (regcertref06_Eval.l0 k y0 y1 y2 y3) (regcertref06_Eval.l0 (k + 1) y0 y1 y2 y3))
 | 0 => ⟨fun _ _ _ _ _ r h => by simp [regcertref06_Eval.j0] at h, fun _ _ _ _ r h => by simp [regcertref06_Eval.j1] at h, fun _ _ _ _ _ r h => by simp [regcertref06_Eval.j2] at h, fun _ _ _ _ r h => by simp [regcertref06_Eval.l0] at h⟩
 | k + 1 => by
  obtain ⟨ih0, ih1, ih2, ih3⟩ := regcertref06_Eval.mono_l k
  refine ⟨?_, ?_, ?_, ?_⟩
  ·intro y0 y1 y2 y3 y4
   unfold regcertref06_Eval.j0
   repeat' first
   | (with_reducible exact ih0 _ _ _ _ _)
   | (with_reducible exact ih1 _ _ _ _)
   | (with_reducible exact ih2 _ _ _ _ _)
   | (with_reducible exact ih3 _ _ _ _)
   | (with_reducible exact regcertref06_bits.mono _ _ _ _)
   | (with_reducible exact regcertref06_half.mono _ _)
   | (with_reducible exact LeO.refl _)
   | (with_reducible exact LeO.none _)
   | (with_reducible refine LeO.ite ?_ ?_)
   | (with_reducible refine LeO.bind ?_ (fun _ => ?_))
   | exact ih0 _ _ _ _ _
   | exact ih1 _ _ _ _
   | exact ih2 _ _ _ _ _
   | exact ih3 _ _ _ _
   | exact regcertref06_bits.mono _ _ _ _
   | exact regcertref06_half.mono _ _
   | exact LeO.none _
   | refine LeO.ite ?_ ?_
   | refine LeO.bind ?_ (fun _ => ?_)
  ·intro y0 y1 y2 y3
   unfold regcertref06_Eval.j1
   repeat' first
   | (with_reducible exact ih0 _ _ _ _ _)
   | (with_reducible exact ih1 _ _ _ _)
   | (with_reducible exact ih2 _ _ _ _ _)
   | (with_reducible exact ih3 _ _ _ _)
   | (with_reducible exact regcertref06_bits.mono _ _ _ _)
   | (with_reducible exact regcertref06_half.mono _ _)
   | (with_reducible exact LeO.refl _)
   | (with_reducible exact LeO.none _)
   | (with_reducible refine LeO.ite ?_ ?_)
   | (with_reducible refine LeO.bind ?_ (fun _ => ?_))
   | exact ih0 _ _ _ _ _
   | exact ih1 _ _ _ _
   | exact ih2 _ _ _ _ _
   | exact ih3 _ _ _ _
   | exact regcertref06_bits.mono _ _ _ _
   | exact regcertref06_half.mono _ _
   | exact LeO.none _
   | refine LeO.ite ?_ ?_
   | refine LeO.bind ?_ (fun _ => ?_)
  ·intro y0 y1 y2 y3 y4
   unfold regcertref06_Eval.j2
   repeat' first
   | (with_reducible exact ih0 _ _ _ _ _)
   | (with_reducible exact ih1 _ _ _ _)
   | (with_reducible exact ih2 _ _ _ _ _)
   | (with_reducible exact ih3 _ _ _ _)
   | (with_reducible exact regcertref06_bits.mono _ _ _ _)
   | (with_reducible exact regcertref06_half.mono _ _)
   | (with_reducible exact LeO.refl _)
   | (with_reducible exact LeO.none _)
   | (with_reducible refine LeO.ite ?_ ?_)
   | (with_reducible refine LeO.bind ?_ (fun _ => ?_))
   | exact ih0 _ _ _ _ _
   | exact ih1 _ _ _ _
   | exact ih2 _ _ _ _ _
   | exact ih3 _ _ _ _
   | exact regcertref06_bits.mono _ _ _ _
   | exact regcertref06_half.mono _ _
   | exact LeO.none _
   | refine LeO.ite ?_ ?_
   | refine LeO.bind ?_ (fun _ => ?_)
  ·intro y0 y1 y2 y3
   unfold regcertref06_Eval.l0
   repeat' first
   | (with_reducible exact ih0 _ _ _ _ _)
   | (with_reducible exact ih1 _ _ _ _)
   | (with_reducible exact ih2 _ _ _ _ _)
   | (with_reducible exact ih3 _ _ _ _)
   | (with_reducible exact regcertref06_bits.mono _ _ _ _)
   | (with_reducible exact regcertref06_half.mono _ _)
   | (with_reducible exact LeO.refl _)
   | (with_reducible exact LeO.none _)
   | (with_reducible refine LeO.ite ?_ ?_)
   | (with_reducible refine LeO.bind ?_ (fun _ => ?_))
   | exact ih0 _ _ _ _ _
   | exact ih1 _ _ _ _
   | exact ih2 _ _ _ _ _
   | exact ih3 _ _ _ _
   | exact regcertref06_bits.mono _ _ _ _
   | exact regcertref06_half.mono _ _
   | exact LeO.none _
   | refine LeO.ite ?_ ?_
   | refine LeO.bind ?_ (fun _ => ?_)
theorem regcertref06_Eval.mono : ∀ a0 a1 a2 a3 k, LeO (regcertref06_Eval.f k a0 a1 a2 a3) (regcertref06_Eval.f (k + 1) a0 a1 a2 a3) := by
 intro a0 a1 a2 a3 k
 obtain ⟨ih0, ih1, ih2, ih3⟩ := regcertref06_Eval.mono_l k
 unfold regcertref06_Eval.f
 repeat' first
   | (with_reducible exact ih0 _ _ _ _ _)
   | (with_reducible exact ih1 _ _ _ _)
   | (with_reducible exact ih2 _ _ _ _ _)
   | (with_reducible exact ih3 _ _ _ _)
   | (with_reducible exact regcertref06_bits.mono _ _ _ _)
   | (with_reducible exact regcertref06_half.mono _ _)
   | (with_reducible exact LeO.refl _)
   | (with_reducible exact LeO.none _)
   | (with_reducible refine LeO.ite ?_ ?_)
   | (with_reducible refine LeO.bind ?_ (fun _ => ?_))
   | exact ih0 _ _ _ _ _
   | exact ih1 _ _ _ _
   | exact ih2 _ _ _ _ _
   | exact ih3 _ _ _ _
   | exact regcertref06_bits.mono _ _ _ _
   | exact regcertref06_half.mono _ _
   | exact LeO.none _
   | refine LeO.ite ?_ ?_
   | refine LeO.bind ?_ (fun _ => ?_)
set_option maxHeartbeats 8000000 in
set_option maxRecDepth 100000 in
theorem regcertref06_Eval.calls (k : Nat) (a0 : Int) (a1 : Int) (a2 : Int) (a3 : Int) (r1 : Int) (r2 : Bool) (w : World) (h : regcertref06_Eval.f k a0 a1 a2 a3 = some (r1, r2)) :
  Calls Try.prog 21 #[.int .i64 a0, .int .i64 a1, .int .i64 a2, .int .i64 a3] w fun e w' => e = .returned (.tuple #[.int .i64 r1, .bool r2]) ∧ Below w.heap.size w w' := by
 have HB := As0 (Below.refl w.heap.size w)
 have H : (if a0 = 1 then (some (a3, true)) else (if a0 = 2 then (some (a1, true)) else (if a0 = 3 then (some (wrap64 (-a1), true)) else (if a0 = 4 then (some (wrap64 ((wrap64 (-a1)) - 1), true)) else (if a0 = 5 then (some (wrap64 (a1 + a2), true)) else (if a0 = 6 then (some (wrap64 (a1 - a2), true)) else (if a0 = 7 then (some (wrap64 (a1 * a2), true)) else (if a0 = 8 then (regcertref06_Eval.j0 k a0 a1 a2 a0 (a0 == 8)) else (regcertref06_Eval.j0 k a0 a1 a2 a0 (a0 == 9)))))))))) = some (r1, r2) := h
 clear h
 by_cases c5 : a0 = 1
 ·rw [if_pos c5] at H
  have c5b0 : (a0 == 1) = true := beq_iff_eq.mpr c5
  have c5b1 : (a0 != 1) = false := bne_eq_false_iff_eq.mpr c5
  clear c5
  simp only [Option.some.injEq, Prod.mk.injEq] at H
  obtain ⟨rfl, rfl⟩ := H
  go_enter Try.func21, Try.ntmps21
  go_wp2
  go_ret2
  exact ⟨by first | rfl | (simp [errW_none, errW_some] <;> rfl) | (simp [*, errW_none, errW_some] <;> rfl), BU HB.out⟩
 rw [if_neg c5] at H
 have c5b0 : (a0 == 1) = false := beq_eq_false_iff_ne.mpr c5
 have c5b1 : (a0 != 1) = true := bne_iff_ne.mpr c5
 by_cases c6 : a0 = 2
 ·rw [if_pos c6] at H
  have c6b0 : (a0 == 2) = true := beq_iff_eq.mpr c6
  have c6b1 : (a0 != 2) = false := bne_eq_false_iff_eq.mpr c6
  clear c6
  simp only [Option.some.injEq, Prod.mk.injEq] at H
  obtain ⟨rfl, rfl⟩ := H
  go_enter Try.func21, Try.ntmps21
  go_wp2
  go_ret2
  exact ⟨by first | rfl | (simp [errW_none, errW_some] <;> rfl) | (simp [*, errW_none, errW_some] <;> rfl), BU HB.out⟩
 rw [if_neg c6] at H
 have c6b0 : (a0 == 2) = false := beq_eq_false_iff_ne.mpr c6
 have c6b1 : (a0 != 2) = true := bne_iff_ne.mpr c6
 by_cases c7 : a0 = 3
 ·rw [if_pos c7] at H
  have c7b0 : (a0 == 3) = true := beq_iff_eq.mpr c7
  have c7b1 : (a0 != 3) = false := bne_eq_false_iff_eq.mpr c7
  clear c7
  simp only [Option.some.injEq, Prod.mk.injEq] at H
  obtain ⟨rfl, rfl⟩ := H
  go_enter Try.func21, Try.ntmps21
  go_wp2
  go_ret2
  exact ⟨by first | rfl | (simp [errW_none, errW_some] <;> rfl) | (simp [*, errW_none, errW_some] <;> rfl), BU HB.out⟩
 rw [if_neg c7] at H
 have c7b0 : (a0 == 3) = false := beq_eq_false_iff_ne.mpr c7
 have c7b1 : (a0 != 3) = true := bne_iff_ne.mpr c7
 by_cases c8 : a0 = 4
 ·rw [if_pos c8] at H
  have c8b0 : (a0 == 4) = true := beq_iff_eq.mpr c8
  have c8b1 : (a0 != 4) = false := bne_eq_false_iff_eq.mpr c8
  clear c8
  simp only [Option.some.injEq, Prod.mk.injEq] at H
  obtain ⟨rfl, rfl⟩ := H
  go_enter Try.func21, Try.ntmps21
  go_wp2
  go_ret2
  exact ⟨by first | rfl | (simp [errW_none, errW_some] <;> rfl) | (simp [*, errW_none, errW_some] <;> rfl), BU HB.out⟩
 rw [if_neg c8] at H
 have c8b0 : (a0 == 4) = false := beq_eq_false_iff_ne.mpr c8
 have c8b1 : (a0 != 4) = true := bne_iff_ne.mpr c8
 by_cases c9 : a0 = 5
 ·rw [if_pos c9] at H
  have c9b0 : (a0 == 5) = true := beq_iff_eq.mpr c9
  have c9b1 : (a0 != 5) = false := bne_eq_false_iff_eq.mpr c9
  clear c9
  simp only [Option.some.injEq, Prod.mk.injEq] at H
  obtain ⟨rfl, rfl⟩ := H
  go_enter Try.func21, Try.ntmps21
  go_wp2
  go_ret2
  exact ⟨by first | rfl | (simp [errW_none, errW_some] <;> rfl) | (simp [*, errW_none, errW_some] <;> rfl), BU HB.out⟩
 rw [if_neg c9] at H
 have c9b0 : (a0 == 5) = false := beq_eq_false_iff_ne.mpr c9
 have c9b1 : (a0 != 5) = true := bne_iff_ne.mpr c9
 by_cases c10 : a0 = 6
 ·rw [if_pos c10] at H
  have c10b0 : (a0 == 6) = true := beq_iff_eq.mpr c10
  have c10b1 : (a0 != 6) = false := bne_eq_false_iff_eq.mpr c10
  clear c10
  simp only [Option.some.injEq, Prod.mk.injEq] at H
  obtain ⟨rfl, rfl⟩ := H
  go_enter Try.func21, Try.ntmps21
  go_wp2
  go_ret2
  exact ⟨by first | rfl | (simp [errW_none, errW_some] <;> rfl) | (simp [*, errW_none, errW_some] <;> rfl), BU HB.out⟩
 rw [if_neg c10] at H
 have c10b0 : (a0 == 6) = false := beq_eq_false_iff_ne.mpr c10
 have c10b1 : (a0 != 6) = true := bne_iff_ne.mpr c10
 by_cases c11 : a0 = 7
 ·rw [if_pos c11] at H
  have c11b0 : (a0 == 7) = true := beq_iff_eq.mpr c11
  have c11b1 : (a0 != 7) = false := bne_eq_false_iff_eq.mpr c11
  clear c11
  simp only [Option.some.injEq, Prod.mk.injEq] at H
  obtain ⟨rfl, rfl⟩ := H
  go_enter Try.func21, Try.ntmps21
  go_wp2
  go_ret2
  exact ⟨by first | rfl | (simp [errW_none, errW_some] <;> rfl) | (simp [*, errW_none, errW_some] <;> rfl), BU HB.out⟩
 rw [if_neg c11] at H
 have c11b0 : (a0 == 7) = false := beq_eq_false_iff_ne.mpr c11
 have c11b1 : (a0 != 7) = true := bne_iff_ne.mpr c11
 have HC12 := As0 H
 clear H
 go_enter Try.func21, Try.ntmps21
 go_upto_if 44 with (fail)
 go_cut [44] (fun v44 wc => ∃ (kq : Nat) (x44_11 : Bool), v44 = .bool x44_11 ∧ Aside0 (regcertref06_Eval.j0 kq a0 a1 a2 a0 x44_11 = some (r1, r2)) ∧ Aside0 (kq ≤ k) ∧ Aside0 (Below w.heap.size w wc))
 case first =>
  have H := HC12.out
  clear HC12
  by_cases c13 : a0 = 8
  rotate_left
  ·rw [if_neg c13] at H
   have c13b0 : (a0 == 8) = false := beq_eq_false_iff_ne.mpr c13
   have c13b1 : (a0 != 8) = true := bne_iff_ne.mpr c13
   (first | rw [c13b0] | (simp only [i64_w, i32_w]; rw [c13b0]) | skip)
   have H' := As0 H
   clear H
   go_wp2
   go_meet
   case rel => exact ⟨_, ((a0 == 9)), (by first | rfl | (simp; done) | (simp [*]; done)), H', ⟨by first | omega | exact Nat.le_refl _⟩, ⟨BU HB.out⟩⟩
  rw [if_pos c13] at H
  have c13b0 : (a0 == 8) = true := beq_iff_eq.mpr c13
  have c13b1 : (a0 != 8) = false := bne_eq_false_iff_eq.mpr c13
  clear c13
  (first | rw [c13b0] | (simp only [i64_w, i32_w]; rw [c13b0]) | skip)
  have H' := As0 H
  clear H
  go_wp2
  go_meet
  case rel => exact ⟨_, ((a0 == 8)), (by first | rfl | (simp; done) | (simp [*]; done)), H', ⟨by first | omega | exact Nat.le_refl _⟩, ⟨BU HB.out⟩⟩
 case rest =>
  clear HC12
  try clear c1
  try clear c2
  try clear p2
  try clear c5
  try clear c5b0
  try clear c5b1
  try clear c6
  try clear c6b0
  try clear c6b1
  try clear p6
  try clear c7
  try clear c7b0
  try clear c7b1
  try clear c8
  try clear c8b0
  try clear c8b1
  try clear c9
  try clear c9b0
  try clear c9b1
  try clear c10
  try clear c10b0
  try clear c10b1
  try clear c11
  try clear c11b0
  try clear c11b1
  try clear c13
  try clear c13b0
  try clear c13b1
  obtain ⟨kq, x44_11, rfl, HA, HJ11, HB⟩ := hcut
  cases kq with
  | zero => exact absurd HA.out (by simp [regcertref06_Eval.j0])
  | succ kj11 =>
   have H := HA.out
   clear HA
   simp only [regcertref06_Eval.j0] at H
   by_cases c14 : x44_11 = true
   ·subst c14
    rw [if_pos rfl] at H
    by_cases c15 : a2 = 0
    ·rw [if_pos c15] at H
     have c15b0 : (a2 == 0) = true := beq_iff_eq.mpr c15
     have c15b1 : (a2 != 0) = false := bne_eq_false_iff_eq.mpr c15
     clear c15
     simp only [Option.some.injEq, Prod.mk.injEq] at H
     obtain ⟨rfl, rfl⟩ := H
     go_wp2
     go_ret2
     exact ⟨by first | rfl | (simp [errW_none, errW_some] <;> rfl) | (simp [*, errW_none, errW_some] <;> rfl), BU HB.out⟩
    rw [if_neg c15] at H
    have c15b0 : (a2 == 0) = false := beq_eq_false_iff_ne.mpr c15
    have c15b1 : (a2 != 0) = true := bne_iff_ne.mpr c15
    have HC16 := As0 H
    clear H
    go_upto_if 51 with (fail)
    go_cut [10] (fun v10 wc => ∃ (kq : Nat) (x10_15 : Int), v10 = .int .i64 x10_15 ∧ Aside0 (regcertref06_Eval.j1 kq a0 a1 a2 x10_15 = some (r1, r2)) ∧ Aside0 (kq ≤ kj11) ∧ Aside0 (Below w.heap.size w wc))
    case first =>
     have H := HC16.out
     clear HC16
     by_cases c17 : a2 = (-1)
     rotate_left
     ·rw [if_neg c17] at H
      have c17b0 : (a2 == (-1)) = false := beq_eq_false_iff_ne.mpr c17
      have c17b1 : (a2 != (-1)) = true := bne_iff_ne.mpr c17
      (first | rw [c17b0] | (simp only [i64_w, i32_w]; rw [c17b0]) | skip)
      have H' := As0 H
      clear H
      go_wp2
      go_meet
      case rel => exact ⟨_, (wrap64 (Int.tdiv a1 a2)), (by first | rfl | (simp; done) | (simp [*]; done)), H', ⟨by have := HJ11.out; first | omega | exact Nat.le_refl _⟩, ⟨BU HB.out⟩⟩
     rw [if_pos c17] at H
     have c17b0 : (a2 == (-1)) = true := beq_iff_eq.mpr c17
     have c17b1 : (a2 != (-1)) = false := bne_eq_false_iff_eq.mpr c17
     clear c17
     (first | rw [c17b0] | (simp only [i64_w, i32_w]; rw [c17b0]) | skip)
     have H' := As0 H
     clear H
     go_wp2
     go_meet
     case rel => exact ⟨_, (wrap64 (-a1)), (by first | rfl | (simp; done) | (simp [*]; done)), H', ⟨by have := HJ11.out; first | omega | exact Nat.le_refl _⟩, ⟨BU HB.out⟩⟩
    case rest =>
     clear HC16
     try clear c1
     try clear c2
     try clear p2
     try clear c5
     try clear c5b0
     try clear c5b1
     try clear c6
     try clear c6b0
     try clear c6b1
     try clear p6
     try clear c7
     try clear c7b0
     try clear c7b1
     try clear c8
     try clear c8b0
     try clear c8b1
     try clear c9
     try clear c9b0
     try clear c9b1
     try clear c10
     try clear c10b0
     try clear c10b1
     try clear c11
     try clear c11b0
     try clear c11b1
     try clear c13
     try clear c13b0
     try clear c13b1
     try clear c14
     try clear c15
     try clear c15b0
     try clear c15b1
     try clear c17
     try clear c17b0
     try clear c17b1
     try clear p2
     try clear p6
     obtain ⟨kq, x10_15, rfl, HA, HJ15, HB⟩ := hcut
     cases kq with
     | zero => exact absurd HA.out (by simp [regcertref06_Eval.j1])
     | succ kj15 =>
      have H := HA.out
      clear HA
      simp only [regcertref06_Eval.j1] at H
      by_cases c18 : a0 = 8
      rotate_left
      ·rw [if_neg c18] at H
       have c18b0 : (a0 == 8) = false := beq_eq_false_iff_ne.mpr c18
       have c18b1 : (a0 != 8) = true := bne_iff_ne.mpr c18
       simp only [Option.some.injEq, Prod.mk.injEq] at H
       obtain ⟨rfl, rfl⟩ := H
       go_wp2
       go_ret2
       exact ⟨by first | rfl | (simp [errW_none, errW_some] <;> rfl) | (simp [*, errW_none, errW_some] <;> rfl), BU HB.out⟩
      rw [if_pos c18] at H
      have c18b0 : (a0 == 8) = true := beq_iff_eq.mpr c18
      have c18b1 : (a0 != 8) = false := bne_eq_false_iff_eq.mpr c18
      clear c18
      simp only [Option.some.injEq, Prod.mk.injEq] at H
      obtain ⟨rfl, rfl⟩ := H
      go_wp2
      go_ret2
      exact ⟨by first | rfl | (simp [errW_none, errW_some] <;> rfl) | (simp [*, errW_none, errW_some] <;> rfl), BU HB.out⟩
   replace c14 := Bool.eq_false_iff.mpr c14
   subst c14
   rw [if_neg (show ¬ (false = true) by decide)] at H
   by_cases c19 : a0 = 10
   ·rw [if_pos c19] at H
    have c19b0 : (a0 == 10) = true := beq_iff_eq.mpr c19
    have c19b1 : (a0 != 10) = false := bne_eq_false_iff_eq.mpr c19
    clear c19
    obtain ⟨y121, hy121⟩ : ∃ y_ : List Bool, y_ = (([false, false, false, true] : List Bool)) := ⟨_, rfl⟩
    replace H : ((regcertref06_bits.f kj11 a1 a2 y121).bind fun t124 => (some (t124, true))) = some (r1, r2) := by first | (rw [hy121]; with_reducible exact H) | (have H2_ := (Option.bind_some _ _).symm.trans H; rw [hy121]; with_reducible exact H2_) | (have H2_ := (Option.bind_some _ _).symm.trans H; with_reducible exact H2_) | with_reducible exact H | (rw [hy121]; exact H) | exact H
    have Ny121 := As0 hy121
    clear hy121
    replace H := Option.bind_eq_some_iff.mp H
    obtain ⟨t124, A200, H⟩ := H
    have A20 := As0 A200
    clear A200
    simp only [Option.some.injEq, Prod.mk.injEq] at H
    obtain ⟨rfl, rfl⟩ := H
    go_wp2_with (first | ((with_reducible refine gate_dst (N := 69) rfl ?_); refine Kd.R_lit Kd.bool _ 4 ?hg (N := 69) ?hd (xs := ([false, false, false, true] : List Bool)) (inner := [.bool false, .bool false, .bool false, .bool true]) (ok := fun _ => True) (okp := fun _ => True) ?hr ?hp (fun _ hk => hk) trivial (Below.refl _ _) (Nat.le_refl _) (by simp) ?_; (case hd => rfl); (case hg => rfl); (case hr => first | (go_simp; done) | (go_simp; rfl)); (case hp => exact (Reps.one (show Kd.M Kd.bool _ _ _ false [.bool false] from rfl) (Reps.one (show Kd.M Kd.bool _ _ _ false [.bool false] from rfl) (Reps.one (show Kd.M Kd.bool _ _ _ false [.bool false] from rfl) (Reps.one (show Kd.M Kd.bool _ _ _ true [.bool true] from rfl) (Reps.none _ _)))))); intro v122 w21 ho22 hb hg_ hnew_; clear hg_ hnew_; (first | rw [← Ny121.out] at ho22 | (simp only [Int.reduceToNat] at ho22; rw [← Ny121.out] at ho22)); have HO123 := As0 (Kd.R_lower ho22 (below_size (BU HB.out))); replace HB := As0 (below_step (BU HB.out) hb); clear hb ho22; obtain ⟨Ao23, co23, eo23⟩ := Kd.R_slice HO123.out; subst eo23) | ((with_reducible refine gate_callee (f := 59) rfl ?_); refine goesL_ (some 70) rfl rfl Try.func59 (by kernel_rfl) rfl #[.int .i64 a1, .int .i64 a2, .slice Ao23 y121.length co23] rfl (by (try simp only [List.map_toArray, List.map_cons, List.map_nil]); first | done | rfl | (simp only [List.length_drop, List.length_take]; rfl)) ?_; (with_reducible refine (regcertref06_bits.calls kj11 a1 a2 _ _ y121 t124 _ ?side1 ?side2 A20.out).mono ?_); (case side1 => repeat (first | exact (Kd.R_reads' HO123.out).2.2 | (with_reducible refine Kd.C_alloc ?_ _) | (with_reducible refine Kd.C_drewN ?_ _) | (with_reducible refine Kd.C_drew ?_))); (case side2 => exact (Kd.R_reads' HO123.out).2.1); rintro e w' ⟨rfl, ⟨nd, rfl⟩⟩; refine ⟨_, rfl, ?_⟩))
    go_ret2
    exact ⟨by first | rfl | (simp [errW_none, errW_some] <;> rfl) | (simp [*, errW_none, errW_some] <;> rfl), BU HB.out⟩
   rw [if_neg c19] at H
   have c19b0 : (a0 == 10) = false := beq_eq_false_iff_ne.mpr c19
   have c19b1 : (a0 != 10) = true := bne_iff_ne.mpr c19
   by_cases c24 : a0 = 11
   ·rw [if_pos c24] at H
    have c24b0 : (a0 == 11) = true := beq_iff_eq.mpr c24
    have c24b1 : (a0 != 11) = false := bne_eq_false_iff_eq.mpr c24
    clear c24
    obtain ⟨y125, hy125⟩ : ∃ y_ : List Bool, y_ = (([false, true, true, true] : List Bool)) := ⟨_, rfl⟩
    replace H : ((regcertref06_bits.f kj11 a1 a2 y125).bind fun t128 => (some (t128, true))) = some (r1, r2) := by first | (rw [hy125]; with_reducible exact H) | (have H2_ := (Option.bind_some _ _).symm.trans H; rw [hy125]; with_reducible exact H2_) | (have H2_ := (Option.bind_some _ _).symm.trans H; with_reducible exact H2_) | with_reducible exact H | (rw [hy125]; exact H) | exact H
    have Ny125 := As0 hy125
    clear hy125
    replace H := Option.bind_eq_some_iff.mp H
    obtain ⟨t128, A250, H⟩ := H
    have A25 := As0 A250
    clear A250
    simp only [Option.some.injEq, Prod.mk.injEq] at H
    obtain ⟨rfl, rfl⟩ := H
    go_wp2_with (first | ((with_reducible refine gate_dst (N := 75) rfl ?_); refine Kd.R_lit Kd.bool _ 4 ?hg (N := 75) ?hd (xs := ([false, true, true, true] : List Bool)) (inner := [.bool false, .bool true, .bool true, .bool true]) (ok := fun _ => True) (okp := fun _ => True) ?hr ?hp (fun _ hk => hk) trivial (Below.refl _ _) (Nat.le_refl _) (by simp) ?_; (case hd => rfl); (case hg => rfl); (case hr => first | (go_simp; done) | (go_simp; rfl)); (case hp => exact (Reps.one (show Kd.M Kd.bool _ _ _ false [.bool false] from rfl) (Reps.one (show Kd.M Kd.bool _ _ _ true [.bool true] from rfl) (Reps.one (show Kd.M Kd.bool _ _ _ true [.bool true] from rfl) (Reps.one (show Kd.M Kd.bool _ _ _ true [.bool true] from rfl) (Reps.none _ _)))))); intro v126 w26 ho27 hb hg_ hnew_; clear hg_ hnew_; (first | rw [← Ny125.out] at ho27 | (simp only [Int.reduceToNat] at ho27; rw [← Ny125.out] at ho27)); have HO127 := As0 (Kd.R_lower ho27 (below_size (BU HB.out))); replace HB := As0 (below_step (BU HB.out) hb); clear hb ho27; obtain ⟨Ao28, co28, eo28⟩ := Kd.R_slice HO127.out; subst eo28) | ((with_reducible refine gate_callee (f := 59) rfl ?_); refine goesL_ (some 76) rfl rfl Try.func59 (by kernel_rfl) rfl #[.int .i64 a1, .int .i64 a2, .slice Ao28 y125.length co28] rfl (by (try simp only [List.map_toArray, List.map_cons, List.map_nil]); first | done | rfl | (simp only [List.length_drop, List.length_take]; rfl)) ?_; (with_reducible refine (regcertref06_bits.calls kj11 a1 a2 _ _ y125 t128 _ ?side1 ?side2 A25.out).mono ?_); (case side1 => repeat (first | exact (Kd.R_reads' HO127.out).2.2 | (with_reducible refine Kd.C_alloc ?_ _) | (with_reducible refine Kd.C_drewN ?_ _) | (with_reducible refine Kd.C_drew ?_))); (case side2 => exact (Kd.R_reads' HO127.out).2.1); rintro e w' ⟨rfl, ⟨nd, rfl⟩⟩; refine ⟨_, rfl, ?_⟩))
    go_ret2
    exact ⟨by first | rfl | (simp [errW_none, errW_some] <;> rfl) | (simp [*, errW_none, errW_some] <;> rfl), BU HB.out⟩
   rw [if_neg c24] at H
   have c24b0 : (a0 == 11) = false := beq_eq_false_iff_ne.mpr c24
   have c24b1 : (a0 != 11) = true := bne_iff_ne.mpr c24
   by_cases c29 : a0 = 12
   ·rw [if_pos c29] at H
    have c29b0 : (a0 == 12) = true := beq_iff_eq.mpr c29
    have c29b1 : (a0 != 12) = false := bne_eq_false_iff_eq.mpr c29
    clear c29
    obtain ⟨y129, hy129⟩ : ∃ y_ : List Bool, y_ = (([false, true, true, false] : List Bool)) := ⟨_, rfl⟩
    replace H : ((regcertref06_bits.f kj11 a1 a2 y129).bind fun t132 => (some (t132, true))) = some (r1, r2) := by first | (rw [hy129]; with_reducible exact H) | (have H2_ := (Option.bind_some _ _).symm.trans H; rw [hy129]; with_reducible exact H2_) | (have H2_ := (Option.bind_some _ _).symm.trans H; with_reducible exact H2_) | with_reducible exact H | (rw [hy129]; exact H) | exact H
    have Ny129 := As0 hy129
    clear hy129
    replace H := Option.bind_eq_some_iff.mp H
    obtain ⟨t132, A300, H⟩ := H
    have A30 := As0 A300
    clear A300
    simp only [Option.some.injEq, Prod.mk.injEq] at H
    obtain ⟨rfl, rfl⟩ := H
    go_wp2_with (first | ((with_reducible refine gate_dst (N := 81) rfl ?_); refine Kd.R_lit Kd.bool _ 4 ?hg (N := 81) ?hd (xs := ([false, true, true, false] : List Bool)) (inner := [.bool false, .bool true, .bool true, .bool false]) (ok := fun _ => True) (okp := fun _ => True) ?hr ?hp (fun _ hk => hk) trivial (Below.refl _ _) (Nat.le_refl _) (by simp) ?_; (case hd => rfl); (case hg => rfl); (case hr => first | (go_simp; done) | (go_simp; rfl)); (case hp => exact (Reps.one (show Kd.M Kd.bool _ _ _ false [.bool false] from rfl) (Reps.one (show Kd.M Kd.bool _ _ _ true [.bool true] from rfl) (Reps.one (show Kd.M Kd.bool _ _ _ true [.bool true] from rfl) (Reps.one (show Kd.M Kd.bool _ _ _ false [.bool false] from rfl) (Reps.none _ _)))))); intro v130 w31 ho32 hb hg_ hnew_; clear hg_ hnew_; (first | rw [← Ny129.out] at ho32 | (simp only [Int.reduceToNat] at ho32; rw [← Ny129.out] at ho32)); have HO131 := As0 (Kd.R_lower ho32 (below_size (BU HB.out))); replace HB := As0 (below_step (BU HB.out) hb); clear hb ho32; obtain ⟨Ao33, co33, eo33⟩ := Kd.R_slice HO131.out; subst eo33) | ((with_reducible refine gate_callee (f := 59) rfl ?_); refine goesL_ (some 82) rfl rfl Try.func59 (by kernel_rfl) rfl #[.int .i64 a1, .int .i64 a2, .slice Ao33 y129.length co33] rfl (by (try simp only [List.map_toArray, List.map_cons, List.map_nil]); first | done | rfl | (simp only [List.length_drop, List.length_take]; rfl)) ?_; (with_reducible refine (regcertref06_bits.calls kj11 a1 a2 _ _ y129 t132 _ ?side1 ?side2 A30.out).mono ?_); (case side1 => repeat (first | exact (Kd.R_reads' HO131.out).2.2 | (with_reducible refine Kd.C_alloc ?_ _) | (with_reducible refine Kd.C_drewN ?_ _) | (with_reducible refine Kd.C_drew ?_))); (case side2 => exact (Kd.R_reads' HO131.out).2.1); rintro e w' ⟨rfl, ⟨nd, rfl⟩⟩; refine ⟨_, rfl, ?_⟩))
    go_ret2
    exact ⟨by first | rfl | (simp [errW_none, errW_some] <;> rfl) | (simp [*, errW_none, errW_some] <;> rfl), BU HB.out⟩
   rw [if_neg c29] at H
   have c29b0 : (a0 == 12) = false := beq_eq_false_iff_ne.mpr c29
   have c29b1 : (a0 != 12) = true := bne_iff_ne.mpr c29
   have HC34 := As0 H
   clear H
   go_upto_if 83 with (fail)
   go_cut [83] (fun v83 wc => ∃ (kq : Nat) (x83_33 : Bool), v83 = .bool x83_33 ∧ Aside0 (regcertref06_Eval.j2 kq a0 a1 a2 a0 x83_33 = some (r1, r2)) ∧ Aside0 (kq ≤ kj11) ∧ Aside0 (Below w.heap.size w wc))
   case first =>
    have H := HC34.out
    clear HC34
    by_cases c35 : a0 = 13
    rotate_left
    ·rw [if_neg c35] at H
     have c35b0 : (a0 == 13) = false := beq_eq_false_iff_ne.mpr c35
     have c35b1 : (a0 != 13) = true := bne_iff_ne.mpr c35
     (first | rw [c35b0] | (simp only [i64_w, i32_w]; rw [c35b0]) | skip)
     have H' := As0 H
     clear H
     go_wp2
     go_meet
     case rel => exact ⟨_, ((a0 == 14)), (by first | rfl | (simp; done) | (simp [*]; done)), H', ⟨by have := HJ11.out; first | omega | exact Nat.le_refl _⟩, ⟨BU HB.out⟩⟩
    rw [if_pos c35] at H
    have c35b0 : (a0 == 13) = true := beq_iff_eq.mpr c35
    have c35b1 : (a0 != 13) = false := bne_eq_false_iff_eq.mpr c35
    clear c35
    (first | rw [c35b0] | (simp only [i64_w, i32_w]; rw [c35b0]) | skip)
    have H' := As0 H
    clear H
    go_wp2
    go_meet
    case rel => exact ⟨_, ((a0 == 13)), (by first | rfl | (simp; done) | (simp [*]; done)), H', ⟨by have := HJ11.out; first | omega | exact Nat.le_refl _⟩, ⟨BU HB.out⟩⟩
   case rest =>
    clear HC34
    try clear c1
    try clear c2
    try clear p2
    try clear c3
    try clear c5
    try clear c5b0
    try clear c5b1
    try clear c6
    try clear c6b0
    try clear c6b1
    try clear p6
    try clear c7
    try clear c7b0
    try clear c7b1
    try clear c8
    try clear c8b0
    try clear c8b1
    try clear c9
    try clear c9b0
    try clear c9b1
    try clear c10
    try clear c10b0
    try clear c10b1
    try clear c11
    try clear c11b0
    try clear c11b1
    try clear c13
    try clear c13b0
    try clear c13b1
    try clear c14
    try clear c15
    try clear c15b0
    try clear c15b1
    try clear c17
    try clear c17b0
    try clear c17b1
    try clear c18
    try clear c18b0
    try clear c18b1
    try clear c19
    try clear c19b0
    try clear c19b1
    try clear c21
    try clear c24
    try clear c24b0
    try clear c24b1
    try clear c29
    try clear c29b0
    try clear c29b1
    try clear c35
    try clear c35b0
    try clear c35b1
    try clear p2
    try clear p6
    obtain ⟨kq, x83_33, rfl, HA, HJ33, HB⟩ := hcut
    cases kq with
    | zero => exact absurd HA.out (by simp [regcertref06_Eval.j2])
    | succ kj33 =>
     have H := HA.out
     clear HA
     simp only [regcertref06_Eval.j2] at H
     by_cases c36 : x83_33 = true
     rotate_left
     ·replace c36 := Bool.eq_false_iff.mpr c36
      subst c36
      rw [if_neg (show ¬ (false = true) by decide)] at H
      by_cases c40 : a0 = 15
      ·rw [if_pos c40] at H
       have c40b0 : (a0 == 15) = true := beq_iff_eq.mpr c40
       have c40b1 : (a0 != 15) = false := bne_eq_false_iff_eq.mpr c40
       clear c40
       replace H := Option.bind_eq_some_iff.mp H
       obtain ⟨t134, A410, H⟩ := H
       have A41 := As0 A410
       clear A410
       simp only [Option.some.injEq, Prod.mk.injEq] at H
       obtain ⟨rfl, rfl⟩ := H
       go_wp2_with (first | ((with_reducible refine gate_callee (f := 61) rfl ?_); refine goesL_ (some 107) rfl rfl Try.func61 (by kernel_rfl) rfl #[.bool (a1 == a2)] rfl (by (try simp only [List.map_toArray, List.map_cons, List.map_nil]); first | done | rfl | (simp only [List.length_drop, List.length_take]; rfl)) ?_; (with_reducible refine (regcertref06_truth.calls (a1 == a2) t134 _ A41.out).mono ?_); rintro e w' ⟨rfl, ⟨nd, rfl⟩⟩; refine ⟨_, rfl, ?_⟩))
       go_ret2
       exact ⟨by first | rfl | (simp [errW_none, errW_some] <;> rfl) | (simp [*, errW_none, errW_some] <;> rfl), BU HB.out⟩
      rw [if_neg c40] at H
      have c40b0 : (a0 == 15) = false := beq_eq_false_iff_ne.mpr c40
      have c40b1 : (a0 != 15) = true := bne_iff_ne.mpr c40
      by_cases c42 : a0 = 16
      rotate_left
      ·rw [if_neg c42] at H
       have c42b0 : (a0 == 16) = false := beq_eq_false_iff_ne.mpr c42
       have c42b1 : (a0 != 16) = true := bne_iff_ne.mpr c42
       simp only [Option.some.injEq, Prod.mk.injEq] at H
       obtain ⟨rfl, rfl⟩ := H
       go_wp2
       go_ret2
       exact ⟨by first | rfl | (simp [errW_none, errW_some] <;> rfl) | (simp [*, errW_none, errW_some] <;> rfl), BU HB.out⟩
      rw [if_pos c42] at H
      have c42b0 : (a0 == 16) = true := beq_iff_eq.mpr c42
      have c42b1 : (a0 != 16) = false := bne_eq_false_iff_eq.mpr c42
      clear c42
      replace H := Option.bind_eq_some_iff.mp H
      obtain ⟨t135, A430, H⟩ := H
      have A43 := As0 A430
      clear A430
      simp only [Option.some.injEq, Prod.mk.injEq] at H
      obtain ⟨rfl, rfl⟩ := H
      go_wp2_with (first | ((with_reducible refine gate_callee (f := 61) rfl ?_); refine goesL_ (some 113) rfl rfl Try.func61 (by kernel_rfl) rfl #[.bool (decide (a1 < a2))] rfl (by (try simp only [List.map_toArray, List.map_cons, List.map_nil]); first | done | rfl | (simp only [List.length_drop, List.length_take]; rfl)) ?_; (with_reducible refine (regcertref06_truth.calls (decide (a1 < a2)) t135 _ A43.out).mono ?_); rintro e w' ⟨rfl, ⟨nd, rfl⟩⟩; refine ⟨_, rfl, ?_⟩))
      go_ret2
      exact ⟨by first | rfl | (simp [errW_none, errW_some] <;> rfl) | (simp [*, errW_none, errW_some] <;> rfl), BU HB.out⟩
     subst c36
     rw [if_pos rfl] at H
     have H' := As0 H
     clear H
     go_wp2
     go_loopg [1, 12] kj33 (fun kq v1 v12 w' => ∃ (x1_3 : Int) (x12_3 : Int), v1 = .int .i64 x1_3 ∧ v12 = .int .i64 x12_3 ∧ Aside0 (regcertref06_Eval.l0 kq a0 x1_3 (wrap64 (Int.tmod (IntKind.u64.wrap (a2)) 64)) x12_3 = some (r1, r2)) ∧ Aside0 (kq ≤ kj33) ∧ Aside0 (Below w.heap.size w w'))
     case atStart => exact ⟨(a1), (0), (by first | rfl | (simp; done) | (simp [*]; done)), (by first | rfl | (simp; done) | (simp [*]; done)), H', ⟨Nat.le_refl _⟩, ⟨BU HB.out⟩⟩
     case round =>
      clear H'
      try clear c1
      try clear c2
      try clear p2
      try clear c3
      try clear c5
      try clear c5b0
      try clear c5b1
      try clear c6
      try clear c6b0
      try clear c6b1
      try clear p6
      try clear c7
      try clear c7b0
      try clear c7b1
      try clear c8
      try clear c8b0
      try clear c8b1
      try clear c9
      try clear c9b0
      try clear c9b1
      try clear c10
      try clear c10b0
      try clear c10b1
      try clear c11
      try clear c11b0
      try clear c11b1
      try clear c13
      try clear c13b0
      try clear c13b1
      try clear c14
      try clear c15
      try clear c15b0
      try clear c15b1
      try clear c17
      try clear c17b0
      try clear c17b1
      try clear c18
      try clear c18b0
      try clear c18b1
      try clear c19
      try clear c19b0
      try clear c19b1
      try clear c21
      try clear c24
      try clear c24b0
      try clear c24b1
      try clear c29
      try clear c29b0
      try clear c29b1
      try clear c35
      try clear c35b0
      try clear c35b1
      try clear c36
      try clear p2
      try clear p6
      obtain ⟨x1_3, x12_3, rfl, rfl, HA, HK3, HB⟩ := hrel
      cases gk with
      | zero => exact absurd HA.out (by simp [regcertref06_Eval.l0])
      | succ k3 =>
       have H := HA.out
       clear HA
       simp only [regcertref06_Eval.l0] at H
       by_cases c37 : x12_3 < (wrap64 (Int.tmod (IntKind.u64.wrap (a2)) 64))
       rotate_left
       ·rw [if_neg c37] at H
        have c37b0 : decide (x12_3 < (wrap64 (Int.tmod (IntKind.u64.wrap (a2)) 64))) = false := decide_eq_false c37
        clear c37
        simp only [Option.some.injEq, Prod.mk.injEq] at H
        obtain ⟨rfl, rfl⟩ := H
        go_wp2
        go_ret2
        exact ⟨by first | rfl | (simp [errW_none, errW_some] <;> rfl) | (simp [*, errW_none, errW_some] <;> rfl), BU HB.out⟩
       rw [if_pos c37] at H
       have c37b0 : decide (x12_3 < (wrap64 (Int.tmod (IntKind.u64.wrap (a2)) 64))) = true := decide_eq_true c37
       clear c37
       by_cases c38 : a0 = 13
       ·rw [if_pos c38] at H
        have c38b0 : (a0 == 13) = true := beq_iff_eq.mpr c38
        have c38b1 : (a0 != 13) = false := bne_eq_false_iff_eq.mpr c38
        clear c38
        have H' := As0 H
        clear H
        go_wp2
        go_roundg k3
        case measure => have := HJ11.out; have := HJ33.out; have := HK3.out; omega
        case rel => exact ⟨(wrap64 (x1_3 * 2)), (wrap64 (x12_3 + 1)), (by first | rfl | (simp; done) | (simp [*]; done)), (by first | rfl | (simp; done) | (simp [*]; done)), H', ⟨by have := HJ11.out; have := HJ33.out; have := HK3.out; omega⟩, ⟨BU HB.out⟩⟩
       rw [if_neg c38] at H
       have c38b0 : (a0 == 13) = false := beq_eq_false_iff_ne.mpr c38
       have c38b1 : (a0 != 13) = true := bne_iff_ne.mpr c38
       replace H := Option.bind_eq_some_iff.mp H
       obtain ⟨t133, A390, H⟩ := H
       have A39 := As0 A390
       clear A390
       have H' := As0 H
       clear H
       go_wp2_with (first | ((with_reducible refine gate_callee (f := 60) rfl ?_); refine goesL_ (some 100) rfl rfl Try.func60 (by kernel_rfl) rfl #[.int .i64 x1_3] rfl (by (try simp only [List.map_toArray, List.map_cons, List.map_nil]); first | done | rfl | (simp only [List.length_drop, List.length_take]; rfl)) ?_; (with_reducible refine (regcertref06_half.calls k3 x1_3 t133 _ A39.out).mono ?_); rintro e w' ⟨rfl, ⟨nd, rfl⟩⟩; refine ⟨_, rfl, ?_⟩))
       go_roundg k3
       case measure => have := HJ11.out; have := HJ33.out; have := HK3.out; omega
       case rel => exact ⟨(t133), (wrap64 (x12_3 + 1)), (by first | rfl | (simp; done) | (simp [*]; done)), (by first | rfl | (simp; done) | (simp [*]; done)), H', ⟨by have := HJ11.out; have := HJ33.out; have := HK3.out; omega⟩, ⟨BU HB.out⟩⟩

end Go.Proofs.Ytgkmagfajalnhaa.X
