-- Written by a program of this session (xprint), out of the translation. Not trusted: Lean checks it.
import Derived.Test.YtchlilkhgagdeaaX0
import Derived.Test.YtchlilkhgagdeaaX1
import Derived.Test.YtchlilkhgagdeaaX5
import Derived.Test.YtchlilkhgagdeaaX6
namespace Go.Proofs.Ytchlilkhgagdeaa.X
open Go.RowKit Go.Proofs.YtchlilkhgagdeaaW.PrintWords Go.Proofs.YtchlilkhgagdeaaW.PrintLast Go.Proofs.YtchlilkhgagdeaaW.PrintMore
attribute [local go_sem] max2_int min2_int max_two min_two max_three min_three max_four min_four   -- for this text's walks alone
set_option linter.unusedVariables false
set_option linter.unusedSimpArgs false

attribute [local go_sem high] eqA28
/-! ### regcertlaw13_AlignExactly: function 6 -/
mutual
def regcertlaw13_AlignExactly.j0 : Nat → List (S25) → Int → Int → Int → Bool → Option (Bool)
 | 0, _, _, _, _, _ => none
 | k + 1, x0, x1, x2, x3, x25 => if x25 = true then ((regcertlaw13_awake.f k).bind fun t309 => (some t309)) else (regcertlaw13_AlignExactly.l0 k x0 x1 x2 x3 ([] : List (S28)) 0)
def regcertlaw13_AlignExactly.l0 : Nat → List (S25) → Int → Int → Int → List (S28) → Int → Option (Bool)
 | 0, _, _, _, _, _, _ => none
 | k + 1, x0, x1, x2, x3, x9, x10 => if x10 < (x0.length : Int) then (if 0 ≤ x10 then (if ((rd_T25 x0 x10).f0) = 18 then (some true) else (if ((rd_T25 x0 x10).f0) = 2 then (regcertlaw13_AlignExactly.l0 k x0 x1 x2 x3 x9 (wrap64 (x10 + 1))) else (if x9.length < 2513169434916 then (regcertlaw13_AlignExactly.l0 k x0 x1 x2 x3 (x9 ++ [(⟨(rd_T25 x0 x10).f0, 0, 0, 0, (rd_T25 x0 x10).f4, 0, 0⟩ : S28)]) (wrap64 (x10 + 1))) else (none)))) else (none)) else ((align_Code.f k x0 x9).bind fun bt317 => (if bt317.2.2 = 0 then (regcertlaw13_AlignExactly.j2 k x0 x1 x2 x3 x9 bt317.2.2 ((x9.length : Int) == 0)) else (regcertlaw13_AlignExactly.j2 k x0 x1 x2 x3 x9 bt317.2.2 true)))
def regcertlaw13_AlignExactly.j2 : Nat → List (S25) → Int → Int → Int → List (S28) → Int → Bool → Option (Bool)
 | 0, _, _, _, _, _, _, _ => none
 | k + 1, x0, x1, x2, x3, x9, x13, x72 => if x72 = true then (some (x13 == 0)) else (if (x9.length : Int) = 0 then (none) else (if 0 ≤ (Int.tmod (wrap64 (x1)) (x9.length : Int)) then (if (Int.tmod (wrap64 (x1)) (x9.length : Int)) < (x9.length : Int) then ((some (x9.set ((Int.tmod (wrap64 (x1)) (x9.length : Int)) : Int).toNat (⟨x2, (rd_T28 x9 (Int.tmod (wrap64 (x1)) (x9.length : Int))).f1, (rd_T28 x9 (Int.tmod (wrap64 (x1)) (x9.length : Int))).f2, (rd_T28 x9 (Int.tmod (wrap64 (x1)) (x9.length : Int))).f3, (rd_T28 x9 (Int.tmod (wrap64 (x1)) (x9.length : Int))).f4, (rd_T28 x9 (Int.tmod (wrap64 (x1)) (x9.length : Int))).f5, (rd_T28 x9 (Int.tmod (wrap64 (x1)) (x9.length : Int))).f6⟩ : S28) : List (S28))).bind fun y324 => ((some (y324.set ((Int.tmod (wrap64 (x1)) (x9.length : Int)) : Int).toNat (⟨(rd_T28 y324 (Int.tmod (wrap64 (x1)) (x9.length : Int))).f0, (rd_T28 y324 (Int.tmod (wrap64 (x1)) (x9.length : Int))).f1, (rd_T28 y324 (Int.tmod (wrap64 (x1)) (x9.length : Int))).f2, (rd_T28 y324 (Int.tmod (wrap64 (x1)) (x9.length : Int))).f3, x3, (rd_T28 y324 (Int.tmod (wrap64 (x1)) (x9.length : Int))).f5, (rd_T28 y324 (Int.tmod (wrap64 (x1)) (x9.length : Int))).f6⟩ : S28) : List (S28))).bind fun y325 => ((align_Code.f k x0 y325).bind fun bt326 => (if (((rd_T28 y325 (Int.tmod (wrap64 (x1)) (x9.length : Int))).f0) == ((rd_T28 x9 (Int.tmod (wrap64 (x1)) (x9.length : Int))).f0) && (((rd_T28 y325 (Int.tmod (wrap64 (x1)) (x9.length : Int))).f1) == ((rd_T28 x9 (Int.tmod (wrap64 (x1)) (x9.length : Int))).f1) && (((rd_T28 y325 (Int.tmod (wrap64 (x1)) (x9.length : Int))).f2) == ((rd_T28 x9 (Int.tmod (wrap64 (x1)) (x9.length : Int))).f2) && (((rd_T28 y325 (Int.tmod (wrap64 (x1)) (x9.length : Int))).f3) == ((rd_T28 x9 (Int.tmod (wrap64 (x1)) (x9.length : Int))).f3) && (((rd_T28 y325 (Int.tmod (wrap64 (x1)) (x9.length : Int))).f4) == ((rd_T28 x9 (Int.tmod (wrap64 (x1)) (x9.length : Int))).f4) && (((rd_T28 y325 (Int.tmod (wrap64 (x1)) (x9.length : Int))).f5) == ((rd_T28 x9 (Int.tmod (wrap64 (x1)) (x9.length : Int))).f5) && (((rd_T28 y325 (Int.tmod (wrap64 (x1)) (x9.length : Int))).f6) == ((rd_T28 x9 (Int.tmod (wrap64 (x1)) (x9.length : Int))).f6)))))))) = true then (some (bt326.2.2 == 0)) else (if bt326.2.2 = 20 then (if bt326.2.1 = (Int.tmod (wrap64 (x1)) (x9.length : Int)) then (some true) else (if x2 = 18 then (some (decide (bt326.2.1 ≥ (Int.tmod (wrap64 (x1)) (x9.length : Int))))) else (some false))) else (some false)))))) else (none)) else (none)))
end
def regcertlaw13_AlignExactly.f (k : Nat) (l0 : List (S25)) (a1 : Int) (a2 : Int) (a3 : Int) : Option (Bool) := (regcertlaw13_awake.f k).bind fun t308 => (if t308 = true then (regcertlaw13_AlignExactly.j0 k l0 a1 a2 a3 (decide ((l0.length : Int) > 300))) else (regcertlaw13_AlignExactly.j0 k l0 a1 a2 a3 true))
theorem regcertlaw13_AlignExactly.mono_l : ∀ k, (∀ y0 y1 y2 y3 y4, LeO (regcertlaw13_AlignExactly.j0 k y0 y1 y2 y3 y4) (regcertlaw13_AlignExactly.j0 (k + 1) y0 y1 y2 y3 y4)) ∧ (∀ y0 y1 y2 y3 y4 y5, LeO (regcertlaw13_AlignExactly.l0 k y0 y1 y2 y3 y4 y5) (regcertlaw13_AlignExactly.l0 (k + 1) y0 y1 y2 y3 y4 y5)) ∧ (∀ y0 y1 y2 y3 y4 y5 y6, LeO (regcertlaw13_AlignExactly.j2 k y0 y1 y2 y3 y4 y5 y6) (regcertlaw13_AlignExactly.j2 (k + 1) y0 y1 y2 y3 y4 y5 y6))
 | 0 => ⟨fun _ _ _ _ _ r h => by simp [regcertlaw13_AlignExactly.j0] at h, fun _ _ _ _ _ _ r h => by simp [regcertlaw13_AlignExactly.l0] at h, fun _ _ _ _ _ _ _ r h => by simp [regcertlaw13_AlignExactly.j2] at h⟩
 | k + 1 => by
  obtain ⟨ih0, ih1, ih2⟩ := regcertlaw13_AlignExactly.mono_l k
  refine ⟨?_, ?_, ?_⟩
  ·intro y0 y1 y2 y3 y4
   unfold regcertlaw13_AlignExactly.j0
   repeat' first
   | (with_reducible exact ih0 _ _ _ _ _)
   | (with_reducible exact ih1 _ _ _ _ _ _)
   | (with_reducible exact ih2 _ _ _ _ _ _ _)
   | (with_reducible exact align_Code.mono _ _ _)
   | (with_reducible exact regcertlaw13_awake.mono _)
   | (with_reducible exact LeO.refl _)
   | (with_reducible exact LeO.none _)
   | (with_reducible refine LeO.ite ?_ ?_)
   | (with_reducible refine LeO.bind ?_ (fun _ => ?_))
   | exact ih0 _ _ _ _ _
   | exact ih1 _ _ _ _ _ _
   | exact ih2 _ _ _ _ _ _ _
   | exact align_Code.mono _ _ _
   | exact regcertlaw13_awake.mono _
   | exact LeO.none _
   | refine LeO.ite ?_ ?_
   | refine LeO.bind ?_ (fun _ => ?_)
  ·intro y0 y1 y2 y3 y4 y5
   unfold regcertlaw13_AlignExactly.l0
   repeat' first
   | (with_reducible exact ih0 _ _ _ _ _)
   | (with_reducible exact ih1 _ _ _ _ _ _)
   | (with_reducible exact ih2 _ _ _ _ _ _ _)
   | (with_reducible exact align_Code.mono _ _ _)
   | (with_reducible exact regcertlaw13_awake.mono _)
   | (with_reducible exact LeO.refl _)
   | (with_reducible exact LeO.none _)
   | (with_reducible refine LeO.ite ?_ ?_)
   | (with_reducible refine LeO.bind ?_ (fun _ => ?_))
   | exact ih0 _ _ _ _ _
   | exact ih1 _ _ _ _ _ _
   | exact ih2 _ _ _ _ _ _ _
   | exact align_Code.mono _ _ _
   | exact regcertlaw13_awake.mono _
   | exact LeO.none _
   | refine LeO.ite ?_ ?_
   | refine LeO.bind ?_ (fun _ => ?_)
  ·intro y0 y1 y2 y3 y4 y5 y6
   unfold regcertlaw13_AlignExactly.j2
   repeat' first
   | (with_reducible exact ih0 _ _ _ _ _)
   | (with_reducible exact ih1 _ _ _ _ _ _)
   | (with_reducible exact ih2 _ _ _ _ _ _ _)
   | (with_reducible exact align_Code.mono _ _ _)
   | (with_reducible exact regcertlaw13_awake.mono _)
   | (with_reducible exact LeO.refl _)
   | (with_reducible exact LeO.none _)
   | (with_reducible refine LeO.ite ?_ ?_)
   | (with_reducible refine LeO.bind ?_ (fun _ => ?_))
   | exact ih0 _ _ _ _ _
   | exact ih1 _ _ _ _ _ _
   | exact ih2 _ _ _ _ _ _ _
   | exact align_Code.mono _ _ _
   | exact regcertlaw13_awake.mono _
   | exact LeO.none _
   | refine LeO.ite ?_ ?_
   | refine LeO.bind ?_ (fun _ => ?_)
theorem regcertlaw13_AlignExactly.mono : ∀ a0 a1 a2 a3 k, LeO (regcertlaw13_AlignExactly.f k a0 a1 a2 a3) (regcertlaw13_AlignExactly.f (k + 1) a0 a1 a2 a3) := by
 intro a0 a1 a2 a3 k
 obtain ⟨ih0, ih1, ih2⟩ := regcertlaw13_AlignExactly.mono_l k
 unfold regcertlaw13_AlignExactly.f
 repeat' first
   | (with_reducible exact ih0 _ _ _ _ _)
   | (with_reducible exact ih1 _ _ _ _ _ _)
   | (with_reducible exact ih2 _ _ _ _ _ _ _)
   | (with_reducible exact align_Code.mono _ _ _)
   | (with_reducible exact regcertlaw13_awake.mono _)
   | (with_reducible exact LeO.refl _)
   | (with_reducible exact LeO.none _)
   | (with_reducible refine LeO.ite ?_ ?_)
   | (with_reducible refine LeO.bind ?_ (fun _ => ?_))
   | exact ih0 _ _ _ _ _
   | exact ih1 _ _ _ _ _ _
   | exact ih2 _ _ _ _ _ _ _
   | exact align_Code.mono _ _ _
   | exact regcertlaw13_awake.mono _
   | exact LeO.none _
   | refine LeO.ite ?_ ?_
   | refine LeO.bind ?_ (fun _ => ?_)
def regcertlaw13_AlignExactly.T10 : Bool × List (List Nat × List Nat) := (true, [([], []), ([], []), ([], []), ([1, 2], [1, 2]), ([3], [3]), ([4], [4]), ([], []), ([], []), ([6, 7], [6, 7]), ([8], [8]), ([9], [9]), ([5, 10], [5, 10]), ([11], [11]), ([0, 12], [0, 12]), ([13, 13, 0, 1, 2, 3, 4, 5, 6, 7, 8, 9, 10, 11, 12, 13], [0, 13])])
def regcertlaw13_AlignExactly.B10 : List Nat := [0, 0, 0, 6, 14, 30, 0, 0, 192, 448, 960, 2046, 4094, 8191, 16383]
theorem regcertlaw13_AlignExactly.tab10 : rtab .any (opsOf Try.f6 10) = regcertlaw13_AlignExactly.T10 := by kernel_rfl
theorem regcertlaw13_AlignExactly.bits10 : waitsOk regcertlaw13_AlignExactly.T10.2 regcertlaw13_AlignExactly.B10 = true := by kernel_rfl
set_option maxHeartbeats 8000000 in
set_option maxRecDepth 100000 in
theorem regcertlaw13_AlignExactly.calls (k : Nat) (A0 : Option Addr) (c0 : Nat) (l0 : List (S25)) (a1 : Int) (a2 : Int) (a3 : Int) (r : Bool) (w : World) (hr0 : Kd.C k25 w A0 l0.length l0) (hc0 : l0.length ≤ c0) (h : regcertlaw13_AlignExactly.f k l0 a1 a2 a3 = some r) :
  Calls Try.prog 6 #[.slice A0 l0.length c0, .int .u16 a1, .int .i64 a2, .int .i64 a3] w fun e w' => e = .returned (.bool r) ∧ Below w.heap.size w w' := by
 have hu28 := Try.underlying28
 have HR0 := As0 hr0
 have HC0 := As0 hc0
 clear hr0 hc0
 have HB := As0 (Below.refl w.heap.size w)
 have H : ((regcertlaw13_awake.f k).bind fun t308 => (if t308 = true then (regcertlaw13_AlignExactly.j0 k l0 a1 a2 a3 (decide ((l0.length : Int) > 300))) else (regcertlaw13_AlignExactly.j0 k l0 a1 a2 a3 true))) = some r := h
 clear h
 have HC5 := As0 H
 clear H
 go_enter Try.func6, Try.ntmps6
 go_upto_region 1 with (fail)
 go_cut [25] (fun v25 wc => ∃ (kq : Nat) (x25_4 : Bool), v25 = .bool x25_4 ∧ Aside0 (regcertlaw13_AlignExactly.j0 kq l0 a1 a2 a3 x25_4 = some r) ∧ Aside0 (kq ≤ k) ∧ Aside0 (Below w.heap.size w wc))
 case first =>
  have H := HC5.out
  clear HC5
  replace H := Option.bind_eq_some_iff.mp H
  obtain ⟨t308, A60, H⟩ := H
  replace H : (if t308 = true then (regcertlaw13_AlignExactly.j0 k l0 a1 a2 a3 (decide ((l0.length : Int) > 300))) else (regcertlaw13_AlignExactly.j0 k l0 a1 a2 a3 true)) = some r := H
  have A6 := As0 A60
  clear A60
  by_cases c7 : t308 = true
  ·subst c7
   have H1 : (regcertlaw13_AlignExactly.j0 k l0 a1 a2 a3 (decide ((l0.length : Int) > 300))) = some r := by rw [if_pos rfl] at H; exact H
   clear H
   have H := H1
   clear H1
   have H' := As0 H
   clear H
   go_wp2_with (first | ((with_reducible refine gate_callee (f := 8) rfl ?_); refine goesL_ (some 19) rfl rfl Try.func8 (by kernel_rfl) rfl #[] rfl (by (try simp only [List.map_toArray, List.map_cons, List.map_nil]); first | done | rfl | (simp only [List.length_drop, List.length_take]; rfl)) ?_; (with_reducible refine (regcertlaw13_awake.calls k  true _ A6.out).mono ?_); rintro e w8 ⟨rfl, hb⟩; refine ⟨_, rfl, ?_⟩; have n0_ := As0 (below_step (by repeat (first | (with_reducible first | exact HB.out | apply below_alloc | apply bdN | apply bd1) | exact HB.out)) hb); clear HB; have HB := n0_; clear n0_; (try clear hb); (try clear hb2); (try clear hk); (try clear hi)))
   go_meet
   case rel => exact ⟨_, (decide ((l0.length : Int) > 300)), (by first | rfl | (simp; done) | (simp [*]; done)), H', ⟨by first | omega | exact Nat.le_refl _⟩, ⟨by repeat (first | (with_reducible first | exact HB.out | apply below_alloc | apply bdN | apply bd1) | exact HB.out)⟩⟩
  ·replace c7 := Bool.eq_false_iff.mpr c7
   subst c7
   have H1 : (regcertlaw13_AlignExactly.j0 k l0 a1 a2 a3 true) = some r := by rw [if_neg (show ¬ (false = true) by decide)] at H; exact H
   clear H
   have H := H1
   clear H1
   have H' := As0 H
   clear H
   go_wp2_with (first | ((with_reducible refine gate_callee (f := 8) rfl ?_); refine goesL_ (some 19) rfl rfl Try.func8 (by kernel_rfl) rfl #[] rfl (by (try simp only [List.map_toArray, List.map_cons, List.map_nil]); first | done | rfl | (simp only [List.length_drop, List.length_take]; rfl)) ?_; (with_reducible refine (regcertlaw13_awake.calls k  false _ A6.out).mono ?_); rintro e w9 ⟨rfl, hb⟩; refine ⟨_, rfl, ?_⟩; have n0_ := As0 (below_step (by repeat (first | (with_reducible first | exact HB.out | apply below_alloc | apply bdN | apply bd1) | exact HB.out)) hb); clear HB; have HB := n0_; clear n0_; (try clear hb); (try clear hb2); (try clear hk); (try clear hi)))
   go_meet
   case rel => exact ⟨_, (true), (by first | rfl | (simp; done) | (simp [*]; done)), H', ⟨by first | omega | exact Nat.le_refl _⟩, ⟨by repeat (first | (with_reducible first | exact HB.out | apply below_alloc | apply bdN | apply bd1) | exact HB.out)⟩⟩
 case rest =>
  clear HC5
  try clear p2
  try clear c6
  try clear c7
  try clear c8
  obtain ⟨kq, x25_4, rfl, HA, HJ4, HB⟩ := hcut
  cases kq with
  | zero => exact absurd HA.out (by simp [regcertlaw13_AlignExactly.j0])
  | succ kj4 =>
   have H := HA.out
   clear HA
   simp only [regcertlaw13_AlignExactly.j0] at H
   by_cases c10 : x25_4 = true
   ·subst c10
    have H1 : ((regcertlaw13_awake.f kj4).bind fun t309 => (some t309)) = some r := by rw [if_pos rfl] at H; exact H
    clear H
    have H := H1
    clear H1
    replace H := Option.bind_eq_some_iff.mp H
    obtain ⟨t309, A110, H⟩ := H
    replace H : (some t309) = some r := H
    have A11 := As0 A110
    clear A110
    obtain rfl := Option.some.inj H
    go_wp2_with (first | ((with_reducible refine gate_callee (f := 8) rfl ?_); refine goesL_ (some 26) rfl rfl Try.func8 (by kernel_rfl) rfl #[] rfl (by (try simp only [List.map_toArray, List.map_cons, List.map_nil]); first | done | rfl | (simp only [List.length_drop, List.length_take]; rfl)) ?_; (with_reducible refine (regcertlaw13_awake.calls kj4  t309 _ A11.out).mono ?_); rintro e w12 ⟨rfl, hb⟩; refine ⟨_, rfl, ?_⟩; have n0_ := As0 (below_step (by repeat (first | (with_reducible first | exact HB.out | apply below_alloc | apply bdN | apply bd1) | exact HB.out)) hb); clear HB; have HB := n0_; clear n0_; (try clear hb); (try clear hb2); (try clear hk); (try clear hi)))
    go_ret
    exact ⟨by first | rfl | (simp [errW_none, errW_some] <;> rfl) | (simp [*, errW_none, errW_some] <;> rfl), by repeat (first | (with_reducible first | exact HB.out | apply below_alloc | apply bdN | apply bd1) | exact HB.out)⟩
   ·replace c10 := Bool.eq_false_iff.mpr c10
    subst c10
    have H1 : (regcertlaw13_AlignExactly.l0 kj4 l0 a1 a2 a3 ([] : List (S28)) 0) = some r := by rw [if_neg (show ¬ (false = true) by decide)] at H; exact H
    clear H
    have H := H1
    clear H1
    have H' := As0 H
    clear H
    go_wp2
    go_loopg [9, 10] kj4 (fun kq v9 v10 w' => ∃ (x9_2 : List (S28)) (x10_2 : Int), v10 = .int .i64 x10_2 ∧ Aside0 (regcertlaw13_AlignExactly.l0 kq l0 a1 a2 a3 x9_2 x10_2 = some r) ∧ Aside0 (kq ≤ kj4) ∧ Aside0 (Kd.R k28 28 w' w.heap.size (fun _ => True) v9 x9_2) ∧ Aside0 (Below w.heap.size w w'))
    case atStart => exact ⟨(([] : List (S28))), (0), (by first | rfl | (simp; done) | (simp [*]; done)), H', ⟨Nat.le_refl _⟩, ⟨by first | exact Kd.R_nil _ _ _ _ _ | exact Kd.N_nil _ _ _ _ _ | exact Kd.V_nil _ _ _ _ _ | exact Kd.Q_nil _ _ _ _ _ | exact Kd.S_nil _ _ _ _ _⟩, ⟨by repeat (first | (with_reducible first | exact HB.out | apply below_alloc | apply bdN | apply bd1) | exact HB.out)⟩⟩
    case round =>
     clear H'
     try clear c1
     try clear p2
     try clear c6
     try clear c7
     try clear c8
     try clear c10
     try clear p2
     obtain ⟨x9_2, x10_2, rfl, HA, HK2, HO_9, HB⟩ := hrel
     cases gk with
     | zero => exact absurd HA.out (by simp [regcertlaw13_AlignExactly.l0])
     | succ k2 =>
      have H := HA.out
      clear HA
      simp only [regcertlaw13_AlignExactly.l0] at H
      by_cases c13 : x10_2 < (l0.length : Int)
      ·rw [if_pos c13] at H
       have c13b0 : decide (x10_2 < (l0.length : Int)) = true := decide_eq_true c13
       clear c13
       by_cases c14 : 0 ≤ x10_2
       ·rw [if_pos c14] at H
        have c14b0 : decide (0 ≤ x10_2) = true := decide_eq_true c14
        clear c14
        by_cases c15 : ((rd_T25 l0 x10_2).f0) = 18
        ·rw [if_pos c15] at H
         have c15b0 : (((rd_T25 l0 x10_2).f0) == 18) = true := beq_iff_eq.mpr c15
         have c15b1 : (((rd_T25 l0 x10_2).f0) != 18) = false := bne_eq_false_iff_eq.mpr c15
         clear c15
         obtain rfl := Option.some.inj H
         have p310 : 0 ≤ (x10_2 : Int) := of_decide_eq_true (by first | (with_reducible assumption) | assumption)
         have q310 : x10_2 < (l0.length : Int) := of_decide_eq_true (by first | (with_reducible assumption) | assumption)
         obtain ⟨ad310, e310, hx310_0, hx310_1, hx310_2, hx310_3, hx310_4⟩ := at_T25 HR0.out x10_2 p310 q310
         cases e310
         replace hx310_0 := (HB.out.cell (wblt w hx310_0)).trans hx310_0
         replace hx310_1 := (HB.out.cell (wblt w hx310_1)).trans hx310_1
         replace hx310_2 := (HB.out.cell (wblt w hx310_2)).trans hx310_2
         replace hx310_3 := (HB.out.cell (wblt w hx310_3)).trans hx310_3
         replace hx310_4 := (HB.out.cell (wblt w hx310_4)).trans hx310_4
         replace p310 := eq_true p310
         replace q310 := eq_true q310
         go_wp2
         go_ret
         exact ⟨by first | rfl | (simp [errW_none, errW_some] <;> rfl) | (simp [*, errW_none, errW_some] <;> rfl), by repeat (first | (with_reducible first | exact HB.out | apply below_alloc | apply bdN | apply bd1) | exact HB.out)⟩
        ·rw [if_neg c15] at H
         have c15b0 : (((rd_T25 l0 x10_2).f0) == 18) = false := beq_eq_false_iff_ne.mpr c15
         have c15b1 : (((rd_T25 l0 x10_2).f0) != 18) = true := bne_iff_ne.mpr c15
         by_cases c16 : ((rd_T25 l0 x10_2).f0) = 2
         ·rw [if_pos c16] at H
          have c16b0 : (((rd_T25 l0 x10_2).f0) == 2) = true := beq_iff_eq.mpr c16
          have c16b1 : (((rd_T25 l0 x10_2).f0) != 2) = false := bne_eq_false_iff_eq.mpr c16
          clear c16
          have H' := As0 H
          clear H
          have p310 : 0 ≤ (x10_2 : Int) := of_decide_eq_true (by first | (with_reducible assumption) | assumption)
          have q310 : x10_2 < (l0.length : Int) := of_decide_eq_true (by first | (with_reducible assumption) | assumption)
          obtain ⟨ad310, e310, hx310_0, hx310_1, hx310_2, hx310_3, hx310_4⟩ := at_T25 HR0.out x10_2 p310 q310
          cases e310
          replace hx310_0 := (HB.out.cell (wblt w hx310_0)).trans hx310_0
          replace hx310_1 := (HB.out.cell (wblt w hx310_1)).trans hx310_1
          replace hx310_2 := (HB.out.cell (wblt w hx310_2)).trans hx310_2
          replace hx310_3 := (HB.out.cell (wblt w hx310_3)).trans hx310_3
          replace hx310_4 := (HB.out.cell (wblt w hx310_4)).trans hx310_4
          replace p310 := eq_true p310
          replace q310 := eq_true q310
          have p311 : 0 ≤ (x10_2 : Int) := of_decide_eq_true (by first | (with_reducible assumption) | assumption)
          have q311 : x10_2 < (l0.length : Int) := of_decide_eq_true (by first | (with_reducible assumption) | assumption)
          obtain ⟨ad311, e311, hx311_0, hx311_1, hx311_2, hx311_3, hx311_4⟩ := at_T25 HR0.out x10_2 p311 q311
          obtain rfl : ad310 = ad311 := (by injection e311)
          replace hx311_0 := (HB.out.cell (wblt w hx311_0)).trans hx311_0
          replace hx311_1 := (HB.out.cell (wblt w hx311_1)).trans hx311_1
          replace hx311_2 := (HB.out.cell (wblt w hx311_2)).trans hx311_2
          replace hx311_3 := (HB.out.cell (wblt w hx311_3)).trans hx311_3
          replace hx311_4 := (HB.out.cell (wblt w hx311_4)).trans hx311_4
          replace p311 := eq_true p311
          replace q311 := eq_true q311
          go_wp2
          go_roundg k2
          case measure => have := HJ4.out; have := HK2.out; omega
          case rel => exact ⟨(x9_2), (wrap64 (x10_2 + 1)), (by first | rfl | (simp; done) | (simp [*]; done)), H', ⟨by have := HJ4.out; have := HK2.out; omega⟩, ⟨by (with_reducible repeat (first | apply Kd.R_alloc | apply Kd.R_drewN | apply Kd.R_drew)); exact HO_9.out⟩, ⟨by repeat (first | (with_reducible first | exact HB.out | apply below_alloc | apply bdN | apply bd1) | exact HB.out)⟩⟩
         ·rw [if_neg c16] at H
          have c16b0 : (((rd_T25 l0 x10_2).f0) == 2) = false := beq_eq_false_iff_ne.mpr c16
          have c16b1 : (((rd_T25 l0 x10_2).f0) != 2) = true := bne_iff_ne.mpr c16
          by_cases c17 : x9_2.length < 2513169434916
          ·rw [if_pos c17] at H
           have LMc17 := As0 c17
           clear c17
           obtain ⟨y314, hy314⟩ : ∃ y_ : List (S28), y_ = (x9_2 ++ [(⟨(rd_T25 l0 x10_2).f0, 0, 0, 0, (rd_T25 l0 x10_2).f4, 0, 0⟩ : S28)]) := ⟨_, rfl⟩
           replace H : (regcertlaw13_AlignExactly.l0 k2 l0 a1 a2 a3 y314 (wrap64 (x10_2 + 1))) = some r := by first | (rw [hy314]; with_reducible exact H) | (have H2_ := (Option.bind_some _ _).symm.trans H; rw [hy314]; with_reducible exact H2_) | (have H2_ := (Option.bind_some _ _).symm.trans H; with_reducible exact H2_) | with_reducible exact H | (rw [hy314]; exact H) | exact H
           have Ny314 := As0 hy314
           clear hy314
           have H' := As0 H
           clear H
           have p310 : 0 ≤ (x10_2 : Int) := of_decide_eq_true (by first | (with_reducible assumption) | assumption)
           have q310 : x10_2 < (l0.length : Int) := of_decide_eq_true (by first | (with_reducible assumption) | assumption)
           obtain ⟨ad310, e310, hx310_0, hx310_1, hx310_2, hx310_3, hx310_4⟩ := at_T25 HR0.out x10_2 p310 q310
           cases e310
           replace hx310_0 := (HB.out.cell (wblt w hx310_0)).trans hx310_0
           replace hx310_1 := (HB.out.cell (wblt w hx310_1)).trans hx310_1
           replace hx310_2 := (HB.out.cell (wblt w hx310_2)).trans hx310_2
           replace hx310_3 := (HB.out.cell (wblt w hx310_3)).trans hx310_3
           replace hx310_4 := (HB.out.cell (wblt w hx310_4)).trans hx310_4
           replace p310 := eq_true p310
           replace q310 := eq_true q310
           have p311 : 0 ≤ (x10_2 : Int) := of_decide_eq_true (by first | (with_reducible assumption) | assumption)
           have q311 : x10_2 < (l0.length : Int) := of_decide_eq_true (by first | (with_reducible assumption) | assumption)
           obtain ⟨ad311, e311, hx311_0, hx311_1, hx311_2, hx311_3, hx311_4⟩ := at_T25 HR0.out x10_2 p311 q311
           obtain rfl : ad310 = ad311 := (by injection e311)
           replace hx311_0 := (HB.out.cell (wblt w hx311_0)).trans hx311_0
           replace hx311_1 := (HB.out.cell (wblt w hx311_1)).trans hx311_1
           replace hx311_2 := (HB.out.cell (wblt w hx311_2)).trans hx311_2
           replace hx311_3 := (HB.out.cell (wblt w hx311_3)).trans hx311_3
           replace hx311_4 := (HB.out.cell (wblt w hx311_4)).trans hx311_4
           replace p311 := eq_true p311
           replace q311 := eq_true q311
           try go_wp2
           have n0_ := As0 (Kd.R_drew HO_9.out)
           have n1_ := As0 (bd1 HB.out)
           clear HO_9
           clear HB
           have HO_9 := n0_
           have HB := n1_
           clear n0_ n1_
           have p312 : 0 ≤ (x10_2 : Int) := of_decide_eq_true (by first | (with_reducible assumption) | assumption)
           have q312 : x10_2 < (l0.length : Int) := of_decide_eq_true (by first | (with_reducible assumption) | assumption)
           obtain ⟨ad312, e312, hx312_0, hx312_1, hx312_2, hx312_3, hx312_4⟩ := at_T25 HR0.out x10_2 p312 q312
           have hw312_4 := hx312_4
           have hw312_3 := hx312_3
           have hw312_2 := hx312_2
           have hw312_1 := hx312_1
           have hw312_0 := hx312_0
           obtain rfl : ad310 = ad312 := (by injection e312)
           replace hx312_0 := (HB.out.cell (wblt w hx312_0)).trans hx312_0
           replace hx312_1 := (HB.out.cell (wblt w hx312_1)).trans hx312_1
           replace hx312_2 := (HB.out.cell (wblt w hx312_2)).trans hx312_2
           replace hx312_3 := (HB.out.cell (wblt w hx312_3)).trans hx312_3
           replace hx312_4 := (HB.out.cell (wblt w hx312_4)).trans hx312_4
           replace p312 := eq_true p312
           replace q312 := eq_true q312
           have p313 : 0 ≤ (x10_2 : Int) := of_decide_eq_true (by first | (with_reducible assumption) | assumption)
           have q313 : x10_2 < (l0.length : Int) := of_decide_eq_true (by first | (with_reducible assumption) | assumption)
           obtain ⟨ad313, e313, hx313_0, hx313_1, hx313_2, hx313_3, hx313_4⟩ := at_T25 HR0.out x10_2 p313 q313
           have hw313_4 := hx313_4
           have hw313_3 := hx313_3
           have hw313_2 := hx313_2
           have hw313_1 := hx313_1
           have hw313_0 := hx313_0
           obtain rfl : ad310 = ad313 := (by injection e313)
           replace hx313_0 := (HB.out.cell (wblt w hx313_0)).trans hx313_0
           replace hx313_1 := (HB.out.cell (wblt w hx313_1)).trans hx313_1
           replace hx313_2 := (HB.out.cell (wblt w hx313_2)).trans hx313_2
           replace hx313_3 := (HB.out.cell (wblt w hx313_3)).trans hx313_3
           replace hx313_4 := (HB.out.cell (wblt w hx313_4)).trans hx313_4
           replace p313 := eq_true p313
           replace q313 := eq_true q313
           refine start_ (n := 15) (S := fun w' => w'.cell? (ad310.add ((x10_2).toNat * 5)) = some (.int .i64 ((rd_T25 l0 x10_2).f0)) ∧ w'.cell? ⟨(ad310.add ((x10_2).toNat * 5)).block, (ad310.add ((x10_2).toNat * 5)).off + 1, none⟩ = some (.int .i64 ((rd_T25 l0 x10_2).f1)) ∧ w'.cell? ⟨(ad310.add ((x10_2).toNat * 5)).block, (ad310.add ((x10_2).toNat * 5)).off + 2, none⟩ = some (.int .i64 ((rd_T25 l0 x10_2).f2)) ∧ w'.cell? ⟨(ad310.add ((x10_2).toNat * 5)).block, (ad310.add ((x10_2).toNat * 5)).off + 3, none⟩ = some (.int .i64 ((rd_T25 l0 x10_2).f3)) ∧ w'.cell? ⟨(ad310.add ((x10_2).toNat * 5)).block, (ad310.add ((x10_2).toNat * 5)).off + 4, none⟩ = some (.int .i64 ((rd_T25 l0 x10_2).f4)) ∧ w'.cell? (ad310.add ((x10_2).toNat * 5)) = some (.int .i64 ((rd_T25 l0 x10_2).f0)) ∧ w'.cell? ⟨(ad310.add ((x10_2).toNat * 5)).block, (ad310.add ((x10_2).toNat * 5)).off + 1, none⟩ = some (.int .i64 ((rd_T25 l0 x10_2).f1)) ∧ w'.cell? ⟨(ad310.add ((x10_2).toNat * 5)).block, (ad310.add ((x10_2).toNat * 5)).off + 2, none⟩ = some (.int .i64 ((rd_T25 l0 x10_2).f2)) ∧ w'.cell? ⟨(ad310.add ((x10_2).toNat * 5)).block, (ad310.add ((x10_2).toNat * 5)).off + 3, none⟩ = some (.int .i64 ((rd_T25 l0 x10_2).f3)) ∧ w'.cell? ⟨(ad310.add ((x10_2).toNat * 5)).block, (ad310.add ((x10_2).toNat * 5)).off + 4, none⟩ = some (.int .i64 ((rd_T25 l0 x10_2).f4))) (ds := []) #[false, false, false, false, false, false, false, false, false, false, false, false, false, false, false] (by kernel_rfl) rfl rfl ⟨((HB.out.cell (wblt w hw312_0)).trans hw312_0), ((HB.out.cell (wblt w hw312_1)).trans hw312_1), ((HB.out.cell (wblt w hw312_2)).trans hw312_2), ((HB.out.cell (wblt w hw312_3)).trans hw312_3), ((HB.out.cell (wblt w hw312_4)).trans hw312_4), ((HB.out.cell (wblt w hw313_0)).trans hw313_0), ((HB.out.cell (wblt w hw313_1)).trans hw313_1), ((HB.out.cell (wblt w hw313_2)).trans hw313_2), ((HB.out.cell (wblt w hw313_3)).trans hw313_3), ((HB.out.cell (wblt w hw313_4)).trans hw313_4)⟩ (fun hHeld => ?_); refine with_tabW regcertlaw13_AlignExactly.tab10 regcertlaw13_AlignExactly.bits10 (fun HT_ HW_ => ?_)
           generalize wr.drew = w18 at HO_9 HB hx312_0 hx312_1 hx312_2 hx312_3 hx312_4 hx313_0 hx313_1 hx313_2 hx313_3 hx313_4 hHeld ⊢
           refine pure_ (i := 0) (N := some 45) (v := ?_) (a' := ?_) #[true, false, false, false, false, false, false, false, false, false, false, false, false, false, false] rfl rfl (any_of HT_.out (by kernel_rfl)) (fun _ _ _ h => h) (Or.inl ⟨by rfl, ?_⟩) ?_ ?_
           rotate_left
           ·intro w'
            go_simp
            with_reducible rfl
           rotate_left
           ·simp only [Act.put, sL1, sL2, sL3, i64_w, i32_w]
            rfl
           refine pure_ (i := 1) (N := some 46) (v := ?_) (a' := ?_) #[true, true, false, false, false, false, false, false, false, false, false, false, false, false, false] rfl rfl (any_of HT_.out (by kernel_rfl)) (fun _ _ _ h => h) (Or.inl ⟨by rfl, ?_⟩) ?_ ?_
           rotate_left
           ·intro w'
            go_simp
            with_reducible rfl
           rotate_left
           ·simp only [Act.put, sL1, sL2, sL3, i64_w, i32_w]
            rfl
           refine pure_ (i := 2) (N := some 47) (v := ?_) (a' := ?_) #[true, true, true, false, false, false, false, false, false, false, false, false, false, false, false] rfl rfl (any_of HT_.out (by kernel_rfl)) (fun _ _ _ h => h) (Or.inl ⟨by rfl, ?_⟩) ?_ ?_
           rotate_left
           ·intro w'
            go_simp
            with_reducible rfl
           rotate_left
           ·simp only [Act.put, sL1, sL2, sL3, i64_w, i32_w]
            rfl
           refine pure_ (i := 3) (N := some 48) (v := ?_) (a' := ?_) #[true, true, true, true, false, false, false, false, false, false, false, false, false, false, false] rfl rfl (any_of HT_.out (by kernel_rfl)) (fun _ _ _ h => h) (Or.inl ⟨by rfl, ?_⟩) ?_ ?_
           rotate_left
           ·intro w'
            go_simp
            with_reducible rfl
           rotate_left
           ·simp only [Act.put, sL1, sL2, sL3, i64_w, i32_w]
            rfl
           refine pure_ (i := 4) (N := some 49) (v := ?_) (a' := ?_) #[true, true, true, true, true, false, false, false, false, false, false, false, false, false, false] rfl rfl (any_of HT_.out (by kernel_rfl)) (fun _ _ _ h => h) (Or.inl ⟨by rfl, ?_⟩) ?_ ?_
           rotate_left
           ·intro w'
            go_simp
            with_reducible rfl
           rotate_left
           ·simp only [Act.put, sL1, sL2, sL3, i64_w, i32_w]
            rfl
           refine pure_ (i := 6) (N := some 51) (v := ?_) (a' := ?_) #[true, true, true, true, true, false, true, false, false, false, false, false, false, false, false] rfl rfl (any_of HT_.out (by kernel_rfl)) (fun _ _ _ h => h) (Or.inl ⟨by rfl, ?_⟩) ?_ ?_
           rotate_left
           ·intro w'
            go_simp
            with_reducible rfl
           rotate_left
           ·simp only [Act.put, sL1, sL2, sL3, i64_w, i32_w]
            rfl
           refine pure_ (i := 7) (N := some 52) (v := ?_) (a' := ?_) #[true, true, true, true, true, false, true, true, false, false, false, false, false, false, false] rfl rfl (any_of HT_.out (by kernel_rfl)) (fun _ _ _ h => h) (Or.inl ⟨by rfl, ?_⟩) ?_ ?_
           rotate_left
           ·intro w'
            go_simp
            with_reducible rfl
           rotate_left
           ·simp only [Act.put, sL1, sL2, sL3, i64_w, i32_w]
            rfl
           refine pure_ (i := 8) (N := some 53) (v := ?_) (a' := ?_) #[true, true, true, true, true, false, true, true, true, false, false, false, false, false, false] rfl rfl (any_of HT_.out (by kernel_rfl)) (fun _ _ _ h => h) (Or.inl ⟨by rfl, ?_⟩) ?_ ?_
           rotate_left
           ·intro w'
            go_simp
            with_reducible rfl
           rotate_left
           ·simp only [Act.put, sL1, sL2, sL3, i64_w, i32_w]
            rfl
           refine pure_ (i := 9) (N := some 54) (v := ?_) (a' := ?_) #[true, true, true, true, true, false, true, true, true, true, false, false, false, false, false] rfl rfl (any_of HT_.out (by kernel_rfl)) (fun _ _ _ h => h) (Or.inl ⟨by rfl, ?_⟩) ?_ ?_
           rotate_left
           ·intro w'
            go_simp
            with_reducible rfl
           rotate_left
           ·simp only [Act.put, sL1, sL2, sL3, i64_w, i32_w]
            rfl
           refine take_ (i := 5) (N := some 50) (v := ?_) (a' := ?_) #[true, true, true, true, true, true, true, true, true, true, false, false, false, false, false] rfl rfl (take_ofW HT_.out HW_.out (by kernel_rfl)) (fun _ _ _ h => h) (Or.inl ⟨by rfl, ?_⟩) hHeld ?_ ?_
           rotate_left
           ·rintro w' ⟨s0, s1, s2, s3, s4, s5, s6, s7, s8, s9⟩
            go_simp
            with_reducible rfl
           rotate_left
           ·simp only [Act.put, sL1, sL2, sL3, i64_w, i32_w]
            rfl
           refine take_ (i := 10) (N := some 55) (v := ?_) (a' := ?_) #[true, true, true, true, true, true, true, true, true, true, true, false, false, false, false] rfl rfl (take_ofW HT_.out HW_.out (by kernel_rfl)) (fun _ _ _ h => h) (Or.inl ⟨by rfl, ?_⟩) hHeld ?_ ?_
           rotate_left
           ·rintro w' ⟨s0, s1, s2, s3, s4, s5, s6, s7, s8, s9⟩
            go_simp
            with_reducible rfl
           rotate_left
           ·simp only [Act.put, sL1, sL2, sL3, i64_w, i32_w]
            rfl
           refine pure_ (i := 11) (N := some 56) (v := ?_) (a' := ?_) #[true, true, true, true, true, true, true, true, true, true, true, true, false, false, false] rfl rfl (any_of HT_.out (by kernel_rfl)) (fun _ _ _ h => h) (Or.inl ⟨by rfl, ?_⟩) ?_ ?_
           rotate_left
           ·intro w'
            go_simp
            with_reducible rfl
           rotate_left
           ·simp only [Act.put, sL1, sL2, sL3, i64_w, i32_w]
            rfl
           refine one_ (i := 12) (N := some 57) #[true, true, true, true, true, true, true, true, true, true, true, true, true, false, false] rfl rfl (one_of HT_.out (by kernel_rfl)) (by decide) (fun K hK => ?_)
           refine value_ (w1 := ?_) (v := ?_) (by rfl) rfl ?_ ?_
           rotate_left 2
           ·go_simp
            constructor
            ·rfl
            ·rfl
           refine hK.out _ _ ⟨(World.cell?_alloc_lt _ _ _ (World.block_lt_of_cell? _ _ (((HB.out.cell (wblt w hw312_0)).trans hw312_0)))).trans (((HB.out.cell (wblt w hw312_0)).trans hw312_0)), (World.cell?_alloc_lt _ _ _ (World.block_lt_of_cell? _ _ (((HB.out.cell (wblt w hw312_1)).trans hw312_1)))).trans (((HB.out.cell (wblt w hw312_1)).trans hw312_1)), (World.cell?_alloc_lt _ _ _ (World.block_lt_of_cell? _ _ (((HB.out.cell (wblt w hw312_2)).trans hw312_2)))).trans (((HB.out.cell (wblt w hw312_2)).trans hw312_2)), (World.cell?_alloc_lt _ _ _ (World.block_lt_of_cell? _ _ (((HB.out.cell (wblt w hw312_3)).trans hw312_3)))).trans (((HB.out.cell (wblt w hw312_3)).trans hw312_3)), (World.cell?_alloc_lt _ _ _ (World.block_lt_of_cell? _ _ (((HB.out.cell (wblt w hw312_4)).trans hw312_4)))).trans (((HB.out.cell (wblt w hw312_4)).trans hw312_4)), (World.cell?_alloc_lt _ _ _ (World.block_lt_of_cell? _ _ (((HB.out.cell (wblt w hw313_0)).trans hw313_0)))).trans (((HB.out.cell (wblt w hw313_0)).trans hw313_0)), (World.cell?_alloc_lt _ _ _ (World.block_lt_of_cell? _ _ (((HB.out.cell (wblt w hw313_1)).trans hw313_1)))).trans (((HB.out.cell (wblt w hw313_1)).trans hw313_1)), (World.cell?_alloc_lt _ _ _ (World.block_lt_of_cell? _ _ (((HB.out.cell (wblt w hw313_2)).trans hw313_2)))).trans (((HB.out.cell (wblt w hw313_2)).trans hw313_2)), (World.cell?_alloc_lt _ _ _ (World.block_lt_of_cell? _ _ (((HB.out.cell (wblt w hw313_3)).trans hw313_3)))).trans (((HB.out.cell (wblt w hw313_3)).trans hw313_3)), (World.cell?_alloc_lt _ _ _ (World.block_lt_of_cell? _ _ (((HB.out.cell (wblt w hw313_4)).trans hw313_4)))).trans (((HB.out.cell (wblt w hw313_4)).trans hw313_4))⟩ (fun hHeld => ?_)
           clear hK K
           refine norm_ (a' := ?_) ?_ ?_
           rotate_left
           ·show Act.put _ (some 57) _ = _
            simp only [Act.put, sL1, sL2, sL3, i64_w, i32_w]
            rfl
           refine one_ (i := 13) (N := some 58) #[true, true, true, true, true, true, true, true, true, true, true, true, true, true, false] rfl rfl (one_of HT_.out (by kernel_rfl)) (by decide) (fun K hK => ?_)
           refine Kd.R_append_step k28 (w0 := w) w.heap.size (by rfl) (.tmp 45) (.tmp 57) 23 28 (.agg #[(.int .i64 0), (.int .i64 0), (.int .i64 0), (.int .i64 0), (.int .i64 0), (.int .i64 0), (.int .i64 0)]) 56 rfl Try.underlying23 info28 rfl (by decide) (by omega) u9 x9_2 (⟨(rd_T25 l0 x10_2).f0, 0, 0, 0, (rd_T25 l0 x10_2).f4, 0, 0⟩ : S28) [.int .i64 ((rd_T25 l0 x10_2).f0), .int .i64 0, .int .i64 0, .int .i64 0, .int .i64 ((rd_T25 l0 x10_2).f4), .int .i64 0, .int .i64 0] (fun _ => True) (fun _ => False) rfl rfl ?aP (fun _ hk => hk.elim) ?aF ?aO ?aB ?aS ?aL ?_
           (case aP => exact k28_mkM _ _ _ (⟨(rd_T25 l0 x10_2).f0, 0, 0, 0, (rd_T25 l0 x10_2).f4, 0, 0⟩ : S28))
           (case aB => exact (by repeat (first | (with_reducible first | exact HB.out | apply below_alloc | apply bdN | apply bd1) | exact HB.out)))
           (case aF => exact (fun _ _ => trivial))
           (case aO => exact (by (with_reducible repeat (first | apply Kd.R_alloc | apply Kd.R_drewN | apply Kd.R_drew)); exact HO_9.out))
           (case aS => exact (below_size (by repeat (first | (with_reducible first | exact HB.out | apply below_alloc | apply bdN | apply bd1) | exact HB.out))))
           (case aL => have := LMc17.out; omega)
           intro v315 w19 ho hb hg hat
           rw [← Ny314.out] at ho
           have n0_ := As0 (hb)
           have n1_ := As0 (ho)
           clear HB
           clear HO_9
           have HB := n0_
           have HO316 := n1_
           clear n0_ n1_
           clear ho hb hg hat
           refine hK.out _ _ ⟨((HB.out.cell (wblt w hw312_0)).trans hw312_0), ((HB.out.cell (wblt w hw312_1)).trans hw312_1), ((HB.out.cell (wblt w hw312_2)).trans hw312_2), ((HB.out.cell (wblt w hw312_3)).trans hw312_3), ((HB.out.cell (wblt w hw312_4)).trans hw312_4), ((HB.out.cell (wblt w hw313_0)).trans hw313_0), ((HB.out.cell (wblt w hw313_1)).trans hw313_1), ((HB.out.cell (wblt w hw313_2)).trans hw313_2), ((HB.out.cell (wblt w hw313_3)).trans hw313_3), ((HB.out.cell (wblt w hw313_4)).trans hw313_4)⟩ (fun hHeld => ?_)
           clear hK K
           refine norm_ (a' := ?_) ?_ ?_
           rotate_left
           ·show Act.put _ (some 58) _ = _
            simp only [Act.put, sL1, sL2, sL3, i64_w, i32_w]
            rfl
           refine pure_ (i := 14) (N := some 9) (v := ?_) (a' := ?_) #[true, true, true, true, true, true, true, true, true, true, true, true, true, true, true] rfl rfl (any_of HT_.out (by kernel_rfl)) (fun _ _ _ h => h) (Or.inl ⟨by rfl, ?_⟩) ?_ ?_
           rotate_left
           ·intro w'
            go_simp
            with_reducible rfl
           rotate_left
           ·simp only [Act.put, sL1, sL2, sL3, i64_w, i32_w]
            rfl
           refine done_ (done_of HT_.out (by kernel_rfl)) ?_
           try go_wp2
           go_roundg k2
           case measure => have := HJ4.out; have := HK2.out; omega
           case rel => exact ⟨(y314), (wrap64 (x10_2 + 1)), (by first | rfl | (simp; done) | (simp [*]; done)), H', ⟨by have := HJ4.out; have := HK2.out; omega⟩, ⟨by (with_reducible repeat (first | apply Kd.R_alloc | apply Kd.R_drewN | apply Kd.R_drew)); exact HO316.out⟩, ⟨by repeat (first | (with_reducible first | exact HB.out | apply below_alloc | apply bdN | apply bd1) | exact HB.out)⟩⟩
          ·rw [if_neg c17] at H
           exact absurd H (by simp)
       ·rw [if_neg c14] at H
        exact absurd H (by simp)
      ·rw [if_neg c13] at H
       have c13b0 : decide (x10_2 < (l0.length : Int)) = false := decide_eq_false c13
       clear c13
       replace H := Option.bind_eq_some_iff.mp H
       obtain ⟨⟨t317, t318, t319⟩, A200, H⟩ := H
       replace H : (if t319 = 0 then (regcertlaw13_AlignExactly.j2 k2 l0 a1 a2 a3 x9_2 t319 ((x9_2.length : Int) == 0)) else (regcertlaw13_AlignExactly.j2 k2 l0 a1 a2 a3 x9_2 t319 true)) = some r := H
       have A20 := As0 A200
       clear A200
       have HC21 := As0 H
       clear H
       obtain ⟨Ao22, co22, eo22⟩ := Kd.R_slice HO_9.out
       subst eo22
       go_upto_region 12 with (first | ((with_reducible refine gate_callee (f := 9) rfl ?_); refine goesL_ (some 62) rfl rfl Try.func9 (by kernel_rfl) rfl #[.slice A0 l0.length c0, .slice Ao22 x9_2.length co22] rfl (by (try simp only [List.map_toArray, List.map_cons, List.map_nil]); first | done | rfl | (simp only [List.length_drop, List.length_take]; rfl)) ?_; (with_reducible refine (align_Code.calls k2 _ _ l0 _ _ x9_2 t317 t318 t319 _ ?side1 ?side2 ?side3 ?side4 A20.out).mono ?_); (case side1 => repeat (first | exact (Kd.C_below HR0.out HB.out) | (with_reducible refine Kd.C_alloc ?_ _) | (with_reducible refine Kd.C_drewN ?_ _) | (with_reducible refine Kd.C_drew ?_))); (case side2 => exact HC0.out); (case side3 => repeat (first | exact (Kd.R_reads' HO_9.out).2.2 | (with_reducible refine Kd.C_alloc ?_ _) | (with_reducible refine Kd.C_drewN ?_ _) | (with_reducible refine Kd.C_drew ?_))); (case side4 => exact (Kd.R_reads' HO_9.out).2.1); rintro e w23 ⟨v320, rfl, ho0, hb⟩; refine ⟨_, rfl, ?_⟩; have n0_ := As0 (Kd.R_below (by (with_reducible repeat (first | apply Kd.R_alloc | apply Kd.R_drewN | apply Kd.R_drew)); exact HO_9.out) hb); have n1_ := As0 (Kd.R_lower ho0 (below_size (by repeat (first | (with_reducible first | exact HB.out | apply below_alloc | apply bdN | apply bd1) | exact HB.out)))); have n2_ := As0 (below_step (by repeat (first | (with_reducible first | exact HB.out | apply below_alloc | apply bdN | apply bd1) | exact HB.out)) hb); clear HO_9; clear HB; have HO_9 := n0_; have HO321 := n1_; have HB := n2_; clear n0_ n1_ n2_; (try clear hb); (try clear hb2); (try clear hk); (try clear hi); (try clear ho0)))
       (try simp only [Act.put, sL1, sL2, sL3])
       go_cut [72] (fun v72 wc => ∃ (kq : Nat) (x72_20 : Bool), v72 = .bool x72_20 ∧ Aside0 (regcertlaw13_AlignExactly.j2 kq l0 a1 a2 a3 x9_2 t319 x72_20 = some r) ∧ Aside0 (kq ≤ k2) ∧ Aside0 (Kd.R k28 28 wc w.heap.size (fun _ => True) (.slice Ao22 x9_2.length co22) x9_2) ∧ Aside0 (Below w.heap.size w wc))
       case first =>
        have H := HC21.out
        clear HC21
        by_cases c24 : t319 = 0
        ·rw [if_pos c24] at H
         have c24b0 : (t319 == 0) = true := beq_iff_eq.mpr c24
         have c24b1 : (t319 != 0) = false := bne_eq_false_iff_eq.mpr c24
         clear c24
         (first | rw [c24b0] | (simp only [i64_w, i32_w]; rw [c24b0]) | skip)
         have H' := As0 H
         clear H
         go_wp2
         go_meet
         case rel => exact ⟨_, (((x9_2.length : Int) == 0)), (by first | rfl | (simp; done) | (simp [*]; done)), H', ⟨by have := HJ4.out; have := HK2.out; first | omega | exact Nat.le_refl _⟩, ⟨by (with_reducible repeat (first | apply Kd.R_alloc | apply Kd.R_drewN | apply Kd.R_drew)); exact HO_9.out⟩, ⟨by repeat (first | (with_reducible first | exact HB.out | apply below_alloc | apply bdN | apply bd1) | exact HB.out)⟩⟩
        ·rw [if_neg c24] at H
         have c24b0 : (t319 == 0) = false := beq_eq_false_iff_ne.mpr c24
         have c24b1 : (t319 != 0) = true := bne_iff_ne.mpr c24
         (first | rw [c24b0] | (simp only [i64_w, i32_w]; rw [c24b0]) | skip)
         have H' := As0 H
         clear H
         go_wp2
         go_meet
         case rel => exact ⟨_, (true), (by first | rfl | (simp; done) | (simp [*]; done)), H', ⟨by have := HJ4.out; have := HK2.out; first | omega | exact Nat.le_refl _⟩, ⟨by (with_reducible repeat (first | apply Kd.R_alloc | apply Kd.R_drewN | apply Kd.R_drew)); exact HO_9.out⟩, ⟨by repeat (first | (with_reducible first | exact HB.out | apply below_alloc | apply bdN | apply bd1) | exact HB.out)⟩⟩
       case rest =>
        clear HC21
        try clear c1
        try clear c2
        try clear p2
        try clear p3
        try clear q3
        try clear hx3
        try clear c6
        try clear p6
        try clear c7
        try clear c8
        try clear c9
        try clear c10
        try clear c13
        try clear c13b0
        try clear c14
        try clear c14b0
        try clear c15
        try clear c15b0
        try clear c15b1
        try clear c16
        try clear c16b0
        try clear c16b1
        try clear c17
        try clear c24
        try clear c24b0
        try clear c24b1
        try clear hx310_0
        try clear hx310_1
        try clear hx310_2
        try clear hx310_3
        try clear hx310_4
        try clear hx311_0
        try clear hx311_1
        try clear hx311_2
        try clear hx311_3
        try clear hx311_4
        try clear hx312_0
        try clear hx312_1
        try clear hx312_2
        try clear hx312_3
        try clear hx312_4
        try clear hx313_0
        try clear hx313_1
        try clear hx313_2
        try clear hx313_3
        try clear hx313_4
        try clear p2
        try clear p310
        try clear p311
        try clear p312
        try clear p313
        try clear q310
        try clear q311
        try clear q312
        try clear q313
        obtain ⟨kq, x72_20, rfl, HA, HJ20, HO_9, HB⟩ := hcut
        cases kq with
        | zero => exact absurd HA.out (by simp [regcertlaw13_AlignExactly.j2])
        | succ kj20 =>
         have H := HA.out
         clear HA
         simp only [regcertlaw13_AlignExactly.j2] at H
         by_cases c25 : x72_20 = true
         ·subst c25
          have H1 : (some (t319 == 0)) = some r := by rw [if_pos rfl] at H; exact H
          clear H
          have H := H1
          clear H1
          obtain rfl := Option.some.inj H
          go_wp2
          go_ret
          exact ⟨by first | rfl | (simp [errW_none, errW_some] <;> rfl) | (simp [*, errW_none, errW_some] <;> rfl), by repeat (first | (with_reducible first | exact HB.out | apply below_alloc | apply bdN | apply bd1) | exact HB.out)⟩
         ·replace c25 := Bool.eq_false_iff.mpr c25
          subst c25
          have H1 : (if (x9_2.length : Int) = 0 then (none) else (if 0 ≤ (Int.tmod (wrap64 (a1)) (x9_2.length : Int)) then (if (Int.tmod (wrap64 (a1)) (x9_2.length : Int)) < (x9_2.length : Int) then ((some (x9_2.set ((Int.tmod (wrap64 (a1)) (x9_2.length : Int)) : Int).toNat (⟨a2, (rd_T28 x9_2 (Int.tmod (wrap64 (a1)) (x9_2.length : Int))).f1, (rd_T28 x9_2 (Int.tmod (wrap64 (a1)) (x9_2.length : Int))).f2, (rd_T28 x9_2 (Int.tmod (wrap64 (a1)) (x9_2.length : Int))).f3, (rd_T28 x9_2 (Int.tmod (wrap64 (a1)) (x9_2.length : Int))).f4, (rd_T28 x9_2 (Int.tmod (wrap64 (a1)) (x9_2.length : Int))).f5, (rd_T28 x9_2 (Int.tmod (wrap64 (a1)) (x9_2.length : Int))).f6⟩ : S28) : List (S28))).bind fun y324 => ((some (y324.set ((Int.tmod (wrap64 (a1)) (x9_2.length : Int)) : Int).toNat (⟨(rd_T28 y324 (Int.tmod (wrap64 (a1)) (x9_2.length : Int))).f0, (rd_T28 y324 (Int.tmod (wrap64 (a1)) (x9_2.length : Int))).f1, (rd_T28 y324 (Int.tmod (wrap64 (a1)) (x9_2.length : Int))).f2, (rd_T28 y324 (Int.tmod (wrap64 (a1)) (x9_2.length : Int))).f3, a3, (rd_T28 y324 (Int.tmod (wrap64 (a1)) (x9_2.length : Int))).f5, (rd_T28 y324 (Int.tmod (wrap64 (a1)) (x9_2.length : Int))).f6⟩ : S28) : List (S28))).bind fun y325 => ((align_Code.f kj20 l0 y325).bind fun bt326 => (if (((rd_T28 y325 (Int.tmod (wrap64 (a1)) (x9_2.length : Int))).f0) == ((rd_T28 x9_2 (Int.tmod (wrap64 (a1)) (x9_2.length : Int))).f0) && (((rd_T28 y325 (Int.tmod (wrap64 (a1)) (x9_2.length : Int))).f1) == ((rd_T28 x9_2 (Int.tmod (wrap64 (a1)) (x9_2.length : Int))).f1) && (((rd_T28 y325 (Int.tmod (wrap64 (a1)) (x9_2.length : Int))).f2) == ((rd_T28 x9_2 (Int.tmod (wrap64 (a1)) (x9_2.length : Int))).f2) && (((rd_T28 y325 (Int.tmod (wrap64 (a1)) (x9_2.length : Int))).f3) == ((rd_T28 x9_2 (Int.tmod (wrap64 (a1)) (x9_2.length : Int))).f3) && (((rd_T28 y325 (Int.tmod (wrap64 (a1)) (x9_2.length : Int))).f4) == ((rd_T28 x9_2 (Int.tmod (wrap64 (a1)) (x9_2.length : Int))).f4) && (((rd_T28 y325 (Int.tmod (wrap64 (a1)) (x9_2.length : Int))).f5) == ((rd_T28 x9_2 (Int.tmod (wrap64 (a1)) (x9_2.length : Int))).f5) && (((rd_T28 y325 (Int.tmod (wrap64 (a1)) (x9_2.length : Int))).f6) == ((rd_T28 x9_2 (Int.tmod (wrap64 (a1)) (x9_2.length : Int))).f6)))))))) = true then (some (bt326.2.2 == 0)) else (if bt326.2.2 = 20 then (if bt326.2.1 = (Int.tmod (wrap64 (a1)) (x9_2.length : Int)) then (some true) else (if a2 = 18 then (some (decide (bt326.2.1 ≥ (Int.tmod (wrap64 (a1)) (x9_2.length : Int))))) else (some false))) else (some false)))))) else (none)) else (none))) = some r := by rw [if_neg (show ¬ (false = true) by decide)] at H; exact H
          clear H
          have H := H1
          clear H1
          by_cases c26 : (x9_2.length : Int) = 0
          ·rw [if_pos c26] at H
           exact absurd H (by simp)
          ·rw [if_neg c26] at H
           have c26b0 : ((x9_2.length : Int) == 0) = false := beq_eq_false_iff_ne.mpr c26
           have c26b1 : ((x9_2.length : Int) != 0) = true := bne_iff_ne.mpr c26
           have c26b2 : ¬ (x9_2 = []) := fun h_ => c26 (by rw [h_]; rfl)
           obtain ⟨ji27, hji27⟩ : ∃ j_ : Int, (Int.tmod (wrap64 (a1)) (x9_2.length : Int)) = j_ := ⟨_, rfl⟩
           replace H : (if 0 ≤ (ji27) then (if (ji27) < (x9_2.length : Int) then ((some (x9_2.set ((ji27) : Int).toNat (⟨a2, (rd_T28 x9_2 (ji27)).f1, (rd_T28 x9_2 (ji27)).f2, (rd_T28 x9_2 (ji27)).f3, (rd_T28 x9_2 (ji27)).f4, (rd_T28 x9_2 (ji27)).f5, (rd_T28 x9_2 (ji27)).f6⟩ : S28) : List (S28))).bind fun y324 => ((some (y324.set ((ji27) : Int).toNat (⟨(rd_T28 y324 (ji27)).f0, (rd_T28 y324 (ji27)).f1, (rd_T28 y324 (ji27)).f2, (rd_T28 y324 (ji27)).f3, a3, (rd_T28 y324 (ji27)).f5, (rd_T28 y324 (ji27)).f6⟩ : S28) : List (S28))).bind fun y325 => ((align_Code.f kj20 l0 y325).bind fun bt326 => (if (((rd_T28 y325 (ji27)).f0) == ((rd_T28 x9_2 (ji27)).f0) && (((rd_T28 y325 (ji27)).f1) == ((rd_T28 x9_2 (ji27)).f1) && (((rd_T28 y325 (ji27)).f2) == ((rd_T28 x9_2 (ji27)).f2) && (((rd_T28 y325 (ji27)).f3) == ((rd_T28 x9_2 (ji27)).f3) && (((rd_T28 y325 (ji27)).f4) == ((rd_T28 x9_2 (ji27)).f4) && (((rd_T28 y325 (ji27)).f5) == ((rd_T28 x9_2 (ji27)).f5) && (((rd_T28 y325 (ji27)).f6) == ((rd_T28 x9_2 (ji27)).f6)))))))) = true then (some (bt326.2.2 == 0)) else (if bt326.2.2 = 20 then (if bt326.2.1 = (ji27) then (some true) else (if a2 = 18 then (some (decide (bt326.2.1 ≥ (ji27)))) else (some false))) else (some false)))))) else (none)) else (none)) = some r := by first | (rw [hji27] at H; exact H) | (simp only [hji27] at H ⊢; exact H)
           by_cases c28 : 0 ≤ (ji27)
           ·rw [if_pos c28] at H
            have c28b0 : decide (0 ≤ (ji27)) = true := decide_eq_true c28
            clear c28
            by_cases c29 : (ji27) < (x9_2.length : Int)
            ·rw [if_pos c29] at H
             have c29b0 : decide ((ji27) < (x9_2.length : Int)) = true := decide_eq_true c29
             clear c29
             obtain ⟨y324, hy324⟩ : ∃ y_ : List (S28), y_ = (x9_2.set ((ji27) : Int).toNat (⟨a2, (rd_T28 x9_2 (ji27)).f1, (rd_T28 x9_2 (ji27)).f2, (rd_T28 x9_2 (ji27)).f3, (rd_T28 x9_2 (ji27)).f4, (rd_T28 x9_2 (ji27)).f5, (rd_T28 x9_2 (ji27)).f6⟩ : S28)) := ⟨_, rfl⟩
             replace H : ((some (y324.set ((ji27) : Int).toNat (⟨(rd_T28 y324 (ji27)).f0, (rd_T28 y324 (ji27)).f1, (rd_T28 y324 (ji27)).f2, (rd_T28 y324 (ji27)).f3, a3, (rd_T28 y324 (ji27)).f5, (rd_T28 y324 (ji27)).f6⟩ : S28) : List (S28))).bind fun y325 => ((align_Code.f kj20 l0 y325).bind fun bt326 => (if (((rd_T28 y325 (ji27)).f0) == ((rd_T28 x9_2 (ji27)).f0) && (((rd_T28 y325 (ji27)).f1) == ((rd_T28 x9_2 (ji27)).f1) && (((rd_T28 y325 (ji27)).f2) == ((rd_T28 x9_2 (ji27)).f2) && (((rd_T28 y325 (ji27)).f3) == ((rd_T28 x9_2 (ji27)).f3) && (((rd_T28 y325 (ji27)).f4) == ((rd_T28 x9_2 (ji27)).f4) && (((rd_T28 y325 (ji27)).f5) == ((rd_T28 x9_2 (ji27)).f5) && (((rd_T28 y325 (ji27)).f6) == ((rd_T28 x9_2 (ji27)).f6)))))))) = true then (some (bt326.2.2 == 0)) else (if bt326.2.2 = 20 then (if bt326.2.1 = (ji27) then (some true) else (if a2 = 18 then (some (decide (bt326.2.1 ≥ (ji27)))) else (some false))) else (some false))))) = some r := by first | (rw [hy324]; with_reducible exact H) | (have H2_ := (Option.bind_some _ _).symm.trans H; rw [hy324]; with_reducible exact H2_) | (have H2_ := (Option.bind_some _ _).symm.trans H; with_reducible exact H2_) | with_reducible exact H | (rw [hy324]; exact H) | exact H
             have Ny324 := As0 hy324
             clear hy324
             obtain ⟨y325, hy325⟩ : ∃ y_ : List (S28), y_ = (y324.set ((ji27) : Int).toNat (⟨(rd_T28 y324 (ji27)).f0, (rd_T28 y324 (ji27)).f1, (rd_T28 y324 (ji27)).f2, (rd_T28 y324 (ji27)).f3, a3, (rd_T28 y324 (ji27)).f5, (rd_T28 y324 (ji27)).f6⟩ : S28)) := ⟨_, rfl⟩
             replace H : ((align_Code.f kj20 l0 y325).bind fun bt326 => (if (((rd_T28 y325 (ji27)).f0) == ((rd_T28 x9_2 (ji27)).f0) && (((rd_T28 y325 (ji27)).f1) == ((rd_T28 x9_2 (ji27)).f1) && (((rd_T28 y325 (ji27)).f2) == ((rd_T28 x9_2 (ji27)).f2) && (((rd_T28 y325 (ji27)).f3) == ((rd_T28 x9_2 (ji27)).f3) && (((rd_T28 y325 (ji27)).f4) == ((rd_T28 x9_2 (ji27)).f4) && (((rd_T28 y325 (ji27)).f5) == ((rd_T28 x9_2 (ji27)).f5) && (((rd_T28 y325 (ji27)).f6) == ((rd_T28 x9_2 (ji27)).f6)))))))) = true then (some (bt326.2.2 == 0)) else (if bt326.2.2 = 20 then (if bt326.2.1 = (ji27) then (some true) else (if a2 = 18 then (some (decide (bt326.2.1 ≥ (ji27)))) else (some false))) else (some false)))) = some r := by first | (rw [hy325]; with_reducible exact H) | (have H2_ := (Option.bind_some _ _).symm.trans H; rw [hy325]; with_reducible exact H2_) | (have H2_ := (Option.bind_some _ _).symm.trans H; with_reducible exact H2_) | with_reducible exact H | (rw [hy325]; exact H) | exact H
             have Ny325 := As0 hy325
             clear hy325
             replace H := Option.bind_eq_some_iff.mp H
             obtain ⟨⟨t326, t327, t328⟩, A320, H⟩ := H
             replace H : (if (((rd_T28 y325 (ji27)).f0) == ((rd_T28 x9_2 (ji27)).f0) && (((rd_T28 y325 (ji27)).f1) == ((rd_T28 x9_2 (ji27)).f1) && (((rd_T28 y325 (ji27)).f2) == ((rd_T28 x9_2 (ji27)).f2) && (((rd_T28 y325 (ji27)).f3) == ((rd_T28 x9_2 (ji27)).f3) && (((rd_T28 y325 (ji27)).f4) == ((rd_T28 x9_2 (ji27)).f4) && (((rd_T28 y325 (ji27)).f5) == ((rd_T28 x9_2 (ji27)).f5) && (((rd_T28 y325 (ji27)).f6) == ((rd_T28 x9_2 (ji27)).f6)))))))) = true then (some (t328 == 0)) else (if t328 = 20 then (if t327 = (ji27) then (some true) else (if a2 = 18 then (some (decide (t327 ≥ (ji27)))) else (some false))) else (some false))) = some r := H
             have A32 := As0 A320
             clear A320
             by_cases c33 : (((rd_T28 y325 (ji27)).f0) == ((rd_T28 x9_2 (ji27)).f0) && (((rd_T28 y325 (ji27)).f1) == ((rd_T28 x9_2 (ji27)).f1) && (((rd_T28 y325 (ji27)).f2) == ((rd_T28 x9_2 (ji27)).f2) && (((rd_T28 y325 (ji27)).f3) == ((rd_T28 x9_2 (ji27)).f3) && (((rd_T28 y325 (ji27)).f4) == ((rd_T28 x9_2 (ji27)).f4) && (((rd_T28 y325 (ji27)).f5) == ((rd_T28 x9_2 (ji27)).f5) && (((rd_T28 y325 (ji27)).f6) == ((rd_T28 x9_2 (ji27)).f6)))))))) = true
             ·rw [if_pos c33] at H
              have c33b0 : (((rd_T28 y325 (ji27)).f0) == ((rd_T28 x9_2 (ji27)).f0) && (((rd_T28 y325 (ji27)).f1) == ((rd_T28 x9_2 (ji27)).f1) && (((rd_T28 y325 (ji27)).f2) == ((rd_T28 x9_2 (ji27)).f2) && (((rd_T28 y325 (ji27)).f3) == ((rd_T28 x9_2 (ji27)).f3) && (((rd_T28 y325 (ji27)).f4) == ((rd_T28 x9_2 (ji27)).f4) && (((rd_T28 y325 (ji27)).f5) == ((rd_T28 x9_2 (ji27)).f5) && (((rd_T28 y325 (ji27)).f6) == ((rd_T28 x9_2 (ji27)).f6)))))))) = true := c33
              (try (have c33b1 : decide (((rd_T28 y325 (ji27)).f0) = ((rd_T28 x9_2 (ji27)).f0) && (((rd_T28 y325 (ji27)).f1) == ((rd_T28 x9_2 (ji27)).f1) && (((rd_T28 y325 (ji27)).f2) == ((rd_T28 x9_2 (ji27)).f2) && (((rd_T28 y325 (ji27)).f3) == ((rd_T28 x9_2 (ji27)).f3) && (((rd_T28 y325 (ji27)).f4) == ((rd_T28 x9_2 (ji27)).f4) && (((rd_T28 y325 (ji27)).f5) == ((rd_T28 x9_2 (ji27)).f5) && (((rd_T28 y325 (ji27)).f6) == ((rd_T28 x9_2 (ji27)).f6)))))))) = true := by simpa using c33))
              (try (have c33b2 : (((rd_T28 y325 (ji27)).f0) == ((rd_T28 x9_2 (ji27)).f0) && (((rd_T28 y325 (ji27)).f1) == ((rd_T28 x9_2 (ji27)).f1) && (((rd_T28 y325 (ji27)).f2) == ((rd_T28 x9_2 (ji27)).f2) && (((rd_T28 y325 (ji27)).f3) == ((rd_T28 x9_2 (ji27)).f3) && (((rd_T28 y325 (ji27)).f4) == ((rd_T28 x9_2 (ji27)).f4) && (((rd_T28 y325 (ji27)).f5) == ((rd_T28 x9_2 (ji27)).f5) && (((rd_T28 y325 (ji27)).f6) == ((rd_T28 x9_2 (ji27)).f6)))))))) = true := by simpa using c33))
              clear c33
              obtain rfl := Option.some.inj H
              have p322 : 0 ≤ ((ji27) : Int) := of_decide_eq_true (by first | (with_reducible assumption) | assumption)
              have q322 : (ji27) < (x9_2.length : Int) := of_decide_eq_true (by first | (with_reducible assumption) | assumption)
              obtain ⟨ad322, e322, hx322_0, hx322_1, hx322_2, hx322_3, hx322_4, hx322_5, hx322_6⟩ := at_T28 (Kd.R_reads' HO_9.out).2.2 (ji27) p322 q322
              cases e322
              replace p322 := eq_true p322
              replace q322 := eq_true q322
              try go_wp2_with (first | ((with_reducible refine gate_dst (N := 15) rfl ?_); (try (refine gate_guard (by rfl) ?_; dsimp only)); refine box_event ?hg (N := 15) ?hd (cs := #[.int .i64 0, .int .i64 0, .int .i64 0, .int .i64 0, .int .i64 0, .int .i64 0, .int .i64 0]) (t := 28) ?hr ?_; (case hd => rfl); (case hg => rfl); (case hr => first | (go_simp; done) | (go_simp; rfl)); intro gb323 hg w34 hbox hb; have n0_ := As0 (Kd.R_below (Kd.R_elderB (by (with_reducible repeat (first | apply Kd.R_alloc | apply Kd.R_drewN | apply Kd.R_drew)); exact HO_9.out) gb323 (Nat.le_of_eq hg.symm)) hb); have n1_ := As0 (below_step (by repeat (first | (with_reducible first | exact HB.out | apply below_alloc | apply bdN | apply bd1) | exact HB.out)) hb); have n2_ := As0 (hbox); have n3_ := As0 ((by rw [hg]; exact (below_size (by repeat (first | (with_reducible first | exact HB.out | apply below_alloc | apply bdN | apply bd1) | exact HB.out))) : w.heap.size ≤ gb323)); have n4_ := As0 ((by rw [hg]; exact (below_size (by repeat (first | (with_reducible first | exact HB.out | apply below_alloc | apply bdN | apply bd1) | exact HB.out))) : w.heap.size ≤ gb323)); clear HO_9; clear HB; have HO_9 := n0_; have HB := n1_; have BK323 := n2_; have GW323 := n3_; have GE323 := n4_; clear n0_ n1_ n2_ n3_ n4_; clear hb hbox hg; have hcz35_0 : w34.cell? ⟨gb323, 0, none⟩ = some (.int .i64 0) := (blk_cell BK323.out 0).trans rfl; have hcz35_1 : w34.cell? ⟨gb323, 1, none⟩ = some (.int .i64 0) := (blk_cell BK323.out 1).trans rfl; have hcz35_2 : w34.cell? ⟨gb323, 2, none⟩ = some (.int .i64 0) := (blk_cell BK323.out 2).trans rfl; have hcz35_3 : w34.cell? ⟨gb323, 3, none⟩ = some (.int .i64 0) := (blk_cell BK323.out 3).trans rfl; have hcz35_4 : w34.cell? ⟨gb323, 4, none⟩ = some (.int .i64 0) := (blk_cell BK323.out 4).trans rfl; have hcz35_5 : w34.cell? ⟨gb323, 5, none⟩ = some (.int .i64 0) := (blk_cell BK323.out 5).trans rfl; have hcz35_6 : w34.cell? ⟨gb323, 6, none⟩ = some (.int .i64 0) := (blk_cell BK323.out 6).trans rfl; have hfz35_0 := blk_frozen BK323.out 0; have hfz35_1 := blk_frozen BK323.out 1; have hfz35_2 := blk_frozen BK323.out 2; have hfz35_3 := blk_frozen BK323.out 3; have hfz35_4 := blk_frozen BK323.out 4; have hfz35_5 := blk_frozen BK323.out 5; have hfz35_6 := blk_frozen BK323.out 6) | ((with_reducible refine gate_store (t := 28) (p := 15) rfl ?_); refine store_event (t := 28) (p := 15) (v := ?vo_w36) (w1 := (((((((w34.setCell ⟨gb323, 0, none⟩ (.int .i64 ((rd_T28 x9_2 (ji27)).f0))).setCell ⟨gb323, 1, none⟩ (.int .i64 ((rd_T28 x9_2 (ji27)).f1))).setCell ⟨gb323, 2, none⟩ (.int .i64 ((rd_T28 x9_2 (ji27)).f2))).setCell ⟨gb323, 3, none⟩ (.int .i64 ((rd_T28 x9_2 (ji27)).f3))).setCell ⟨gb323, 4, none⟩ (.int .i64 ((rd_T28 x9_2 (ji27)).f4))).setCell ⟨gb323, 5, none⟩ (.int .i64 ((rd_T28 x9_2 (ji27)).f5))).setCell ⟨gb323, 6, none⟩ (.int .i64 ((rd_T28 x9_2 (ji27)).f6)))) ?hg ?ho ?hn ?hr ?_; (case ho => rfl); (case hg => rfl); (case hn => rfl); (case hr => first | (go_simp; done) | (go_simp; rfl)); intro w36 hw; have n0_ : Aside0 (Kd.R k28 28 w36 w.heap.size (fun k_ => k_ ≠ gb323) (.slice (some ad322) x9_2.length co22) x9_2) := ⟨(by rw [hw]; exact (by (with_reducible repeat (first | apply Kd.R_alloc | apply Kd.R_drewN | apply Kd.R_drew)); exact Kd.R_mono (Kd.R_far (p := ⟨gb323, 6, none⟩) (Kd.R_far (p := ⟨gb323, 5, none⟩) (Kd.R_far (p := ⟨gb323, 4, none⟩) (Kd.R_far (p := ⟨gb323, 3, none⟩) (Kd.R_far (p := ⟨gb323, 2, none⟩) (Kd.R_far (p := ⟨gb323, 1, none⟩) (Kd.R_far (p := ⟨gb323, 0, none⟩) (Kd.R_mono HO_9.out (fun k_ hk => (⟨hk, hk.2⟩ : _ ∧ k_ ≠ gb323))) (fun _ hk => hk.2) (.int .i64 ((rd_T28 x9_2 (ji27)).f0))) (fun _ hk => hk.2) (.int .i64 ((rd_T28 x9_2 (ji27)).f1))) (fun _ hk => hk.2) (.int .i64 ((rd_T28 x9_2 (ji27)).f2))) (fun _ hk => hk.2) (.int .i64 ((rd_T28 x9_2 (ji27)).f3))) (fun _ hk => hk.2) (.int .i64 ((rd_T28 x9_2 (ji27)).f4))) (fun _ hk => hk.2) (.int .i64 ((rd_T28 x9_2 (ji27)).f5))) (fun _ hk => hk.2) (.int .i64 ((rd_T28 x9_2 (ji27)).f6))) (fun _ hk => hk.1.2)))⟩; have n1_ : Aside0 (w36.heap[gb323]? = some (.cells #[.int .i64 ((rd_T28 x9_2 (ji27)).f0), .int .i64 ((rd_T28 x9_2 (ji27)).f1), .int .i64 ((rd_T28 x9_2 (ji27)).f2), .int .i64 ((rd_T28 x9_2 (ji27)).f3), .int .i64 ((rd_T28 x9_2 (ji27)).f4), .int .i64 ((rd_T28 x9_2 (ji27)).f5), .int .i64 ((rd_T28 x9_2 (ji27)).f6)] 28 (0, 0))) := ⟨(by rw [hw]; exact (by (with_reducible repeat (first | refine blk_drewN ?_ _ | refine blk_drew ?_ | refine blk_alloc ?_ _)); refine blk_put (cs := #[.int .i64 ((rd_T28 x9_2 (ji27)).f0), .int .i64 ((rd_T28 x9_2 (ji27)).f1), .int .i64 ((rd_T28 x9_2 (ji27)).f2), .int .i64 ((rd_T28 x9_2 (ji27)).f3), .int .i64 ((rd_T28 x9_2 (ji27)).f4), .int .i64 ((rd_T28 x9_2 (ji27)).f5), .int .i64 0]) ?_ 6 _ rfl; (with_reducible repeat (first | refine blk_drewN ?_ _ | refine blk_drew ?_ | refine blk_alloc ?_ _)); refine blk_put (cs := #[.int .i64 ((rd_T28 x9_2 (ji27)).f0), .int .i64 ((rd_T28 x9_2 (ji27)).f1), .int .i64 ((rd_T28 x9_2 (ji27)).f2), .int .i64 ((rd_T28 x9_2 (ji27)).f3), .int .i64 ((rd_T28 x9_2 (ji27)).f4), .int .i64 0, .int .i64 0]) ?_ 5 _ rfl; (with_reducible repeat (first | refine blk_drewN ?_ _ | refine blk_drew ?_ | refine blk_alloc ?_ _)); refine blk_put (cs := #[.int .i64 ((rd_T28 x9_2 (ji27)).f0), .int .i64 ((rd_T28 x9_2 (ji27)).f1), .int .i64 ((rd_T28 x9_2 (ji27)).f2), .int .i64 ((rd_T28 x9_2 (ji27)).f3), .int .i64 0, .int .i64 0, .int .i64 0]) ?_ 4 _ rfl; (with_reducible repeat (first | refine blk_drewN ?_ _ | refine blk_drew ?_ | refine blk_alloc ?_ _)); refine blk_put (cs := #[.int .i64 ((rd_T28 x9_2 (ji27)).f0), .int .i64 ((rd_T28 x9_2 (ji27)).f1), .int .i64 ((rd_T28 x9_2 (ji27)).f2), .int .i64 0, .int .i64 0, .int .i64 0, .int .i64 0]) ?_ 3 _ rfl; (with_reducible repeat (first | refine blk_drewN ?_ _ | refine blk_drew ?_ | refine blk_alloc ?_ _)); refine blk_put (cs := #[.int .i64 ((rd_T28 x9_2 (ji27)).f0), .int .i64 ((rd_T28 x9_2 (ji27)).f1), .int .i64 0, .int .i64 0, .int .i64 0, .int .i64 0, .int .i64 0]) ?_ 2 _ rfl; (with_reducible repeat (first | refine blk_drewN ?_ _ | refine blk_drew ?_ | refine blk_alloc ?_ _)); refine blk_put (cs := #[.int .i64 ((rd_T28 x9_2 (ji27)).f0), .int .i64 0, .int .i64 0, .int .i64 0, .int .i64 0, .int .i64 0, .int .i64 0]) ?_ 1 _ rfl; (with_reducible repeat (first | refine blk_drewN ?_ _ | refine blk_drew ?_ | refine blk_alloc ?_ _)); refine blk_put (cs := #[.int .i64 0, .int .i64 0, .int .i64 0, .int .i64 0, .int .i64 0, .int .i64 0, .int .i64 0]) ?_ 0 _ rfl; (with_reducible repeat (first | refine blk_drewN ?_ _ | refine blk_drew ?_ | refine blk_alloc ?_ _)); exact BK323.out))⟩; have n2_ : Aside0 (Below w.heap.size w w36) := ⟨(by rw [hw]; exact (by repeat (first | (with_reducible first | exact HB.out | apply below_alloc | apply bdN | apply bd1 | refine below_set ?_ GE323.out) | exact HB.out)))⟩; clear hw; clear HO_9; clear BK323; clear HB; have HO_9 := n0_; have BK323 := n1_; have HB := n2_; clear n0_ n1_ n2_; have p30 : 0 ≤ ((ji27) : Int) := of_decide_eq_true (by first | (with_reducible assumption) | assumption); have q30 : ((ji27) : Int) < ((x9_2.length : Int) : Int) := of_decide_eq_true (by first | (with_reducible assumption) | assumption); obtain ⟨go30, co30, eo30, gb30, gl30, cl30, HG30⟩ := Kd.R_form HO_9.out (by omega); (first | cases eo30 | (injection eo30 with ea_ en_ ec_; (first | subst ea_ | (injection ea_ with ea_; subst ea_)); subst ec_; clear en_)); have GB30 := As0 gb30; have GG30 := As0 HG30; clear gb30 gl30 HG30; (first | simp only [add_plain] at hx322_0 | skip); (first | simp only [add_plain] at hx322_1 | skip); (first | simp only [add_plain] at hx322_2 | skip); (first | simp only [add_plain] at hx322_3 | skip); (first | simp only [add_plain] at hx322_4 | skip); (first | simp only [add_plain] at hx322_5 | skip); (first | simp only [add_plain] at hx322_6 | skip); obtain ⟨ce30, hcl30, hM30, hcc30, hfr30⟩ := Kd.R_elem HO_9.out z28 ((ji27) : Int) p30 q30; obtain rfl := k28_openM hM30; have hx30_0 : w36.cell? ⟨go30, ((ji27) : Int).toNat * 7, none⟩ = some (.int .i64 ((rd_T28 x9_2 (ji27)).f0)) := hcc30 0 _ rfl; have hx30_1 : w36.cell? ⟨go30, ((ji27) : Int).toNat * 7 + 1, none⟩ = some (.int .i64 ((rd_T28 x9_2 (ji27)).f1)) := hcc30 1 _ rfl; have hx30_2 : w36.cell? ⟨go30, ((ji27) : Int).toNat * 7 + 2, none⟩ = some (.int .i64 ((rd_T28 x9_2 (ji27)).f2)) := hcc30 2 _ rfl; have hx30_3 : w36.cell? ⟨go30, ((ji27) : Int).toNat * 7 + 3, none⟩ = some (.int .i64 ((rd_T28 x9_2 (ji27)).f3)) := hcc30 3 _ rfl; have hx30_4 : w36.cell? ⟨go30, ((ji27) : Int).toNat * 7 + 4, none⟩ = some (.int .i64 ((rd_T28 x9_2 (ji27)).f4)) := hcc30 4 _ rfl; have hx30_5 : w36.cell? ⟨go30, ((ji27) : Int).toNat * 7 + 5, none⟩ = some (.int .i64 ((rd_T28 x9_2 (ji27)).f5)) := hcc30 5 _ rfl; have hx30_6 : w36.cell? ⟨go30, ((ji27) : Int).toNat * 7 + 6, none⟩ = some (.int .i64 ((rd_T28 x9_2 (ji27)).f6)) := hcc30 6 _ rfl; have hf30_0 : w36.frozen? ⟨go30, ((ji27) : Int).toNat * 7, none⟩ = false := hfr30 0; have hf30_1 : w36.frozen? ⟨go30, ((ji27) : Int).toNat * 7 + 1, none⟩ = false := hfr30 1; have hf30_2 : w36.frozen? ⟨go30, ((ji27) : Int).toNat * 7 + 2, none⟩ = false := hfr30 2; have hf30_3 : w36.frozen? ⟨go30, ((ji27) : Int).toNat * 7 + 3, none⟩ = false := hfr30 3; have hf30_4 : w36.frozen? ⟨go30, ((ji27) : Int).toNat * 7 + 4, none⟩ = false := hfr30 4; have hf30_5 : w36.frozen? ⟨go30, ((ji27) : Int).toNat * 7 + 5, none⟩ = false := hfr30 5; have hf30_6 : w36.frozen? ⟨go30, ((ji27) : Int).toNat * 7 + 6, none⟩ = false := hfr30 6; clear hcl30 hcc30 hfr30 hM30; replace p30 := eq_true p30; replace q30 := eq_true q30; have HX37 := As0 (show Kd.R k28 28 w36 w.heap.size (fun k_ => k_ ≠ gb323) (.slice (some ⟨go30, 0, none⟩) x9_2.length co22) x9_2 from (by (with_reducible repeat (first | apply Kd.R_alloc | apply Kd.R_drewN | apply Kd.R_drew)); exact HO_9.out)); obtain ⟨ce37, hcl37, hM37, hcc37, hfr37⟩ := Kd.R_elem HX37.out z28 ((ji27) : Int) (of_decide_eq_true (by first | (with_reducible assumption) | assumption)) (by have h_ : ((ji27) : Int) < ((x9_2.length : Int) : Int) := of_decide_eq_true (by first | (with_reducible assumption) | assumption); first | exact h_ | (have e_ := (Kd.R_reads' HO_9.out).1; omega) | simpa using h_); obtain rfl := k28_openM hM37; have HP37 := Kd.R_seg HX37.out ((ji27) : Int) (of_decide_eq_true (by first | (with_reducible assumption) | assumption)) (by have h_ : ((ji27) : Int) < ((x9_2.length : Int) : Int) := of_decide_eq_true (by first | (with_reducible assumption) | assumption); first | exact h_ | (have e_ := (Kd.R_reads' HO_9.out).1; omega) | simpa using h_) (seg := [.int .i64 a2]) (j := 0) hcl37 hcc37 (show 1 ≤ 7 from by decide) (x' := (⟨a2, (rd_T28 x9_2 (ji27)).f1, (rd_T28 x9_2 (ji27)).f2, (rd_T28 x9_2 (ji27)).f3, (rd_T28 x9_2 (ji27)).f4, (rd_T28 x9_2 (ji27)).f5, (rd_T28 x9_2 (ji27)).f6⟩ : S28)) (k28_mkM _ _ _ (⟨a2, (rd_T28 x9_2 (ji27)).f1, (rd_T28 x9_2 (ji27)).f2, (rd_T28 x9_2 (ji27)).f3, (rd_T28 x9_2 (ji27)).f4, (rd_T28 x9_2 (ji27)).f5, (rd_T28 x9_2 (ji27)).f6⟩ : S28) ) (fun _ hk => hk); have hx37_0 := hcc37 0 _ rfl; (try simp only [show (k28).sz = 7 from rfl, Nat.mul_one, Nat.add_zero] at hx37_0); have hf37_0 := hfr37 0; (try simp only [show (k28).sz = 7 from rfl, Nat.mul_one, Nat.add_zero] at hf37_0); clear hcl37 hcc37 hfr37 hM37) | ((with_reducible refine gate_store (t := 3) (p := 88) rfl ?_); refine store_event (t := 3) (p := 88) (v := ?vo_w38) (w1 := (w36.setCell ⟨go30, ((ji27) : Int).toNat * 7, none⟩ (.int .i64 a2))) ?hg ?ho ?hn ?hr ?_; (case ho => rfl); (case hg => rfl); (case hn => rfl); (case hr => first | (go_simp; done) | (go_simp; rfl)); intro w38 hw; have hg : w36.grownBy w38 (some go30) := (by rw [hw]; exact HP37.2); have hp_ : Kd.R k28 28 w38 w.heap.size (fun k_ => k_ ≠ gb323) (.slice (some ⟨go30, 0, none⟩) x9_2.length co22) y324 := (by rw [hw, Ny324.out]; exact HP37.1); clear HP37; have n0_ := As0 (hp_); have n1_ := As0 (blk_grown (g := gb323) (o := .cells #[.int .i64 ((rd_T28 x9_2 (ji27)).f0), .int .i64 ((rd_T28 x9_2 (ji27)).f1), .int .i64 ((rd_T28 x9_2 (ji27)).f2), .int .i64 ((rd_T28 x9_2 (ji27)).f3), .int .i64 ((rd_T28 x9_2 (ji27)).f4), .int .i64 ((rd_T28 x9_2 (ji27)).f5), .int .i64 ((rd_T28 x9_2 (ji27)).f6)] 28 (0, 0)) (by (with_reducible repeat (first | refine blk_drewN ?_ _ | refine blk_drew ?_ | refine blk_alloc ?_ _)); exact BK323.out) hg (Kd.R_away HO_9.out (fun _ hk => hk))); have n2_ := As0 ((by rw [hw]; exact below_set (HB.out) GB30.out : Below w.heap.size w w38)); clear HO_9; clear BK323; clear HB; have HO_9 := n0_; have BK323 := n1_; have HB := n2_; clear n0_ n1_ n2_; clear hg hw hp_; have p31 : 0 ≤ ((ji27) : Int) := of_decide_eq_true (by first | (with_reducible assumption) | assumption); have q31 : ((ji27) : Int) < ((x9_2.length : Int) : Int) := of_decide_eq_true (by first | (with_reducible assumption) | assumption); obtain ⟨ce31, hcl31, hM31, hcc31, hfr31⟩ := Kd.R_elem HO_9.out z28 ((ji27) : Int) p31 q31; obtain rfl := k28_openM hM31; have hx31_0 : w38.cell? ⟨go30, ((ji27) : Int).toNat * 7, none⟩ = some (.int .i64 ((rd_T28 y324 (ji27)).f0)) := hcc31 0 _ rfl; have hx31_1 : w38.cell? ⟨go30, ((ji27) : Int).toNat * 7 + 1, none⟩ = some (.int .i64 ((rd_T28 y324 (ji27)).f1)) := hcc31 1 _ rfl; have hx31_2 : w38.cell? ⟨go30, ((ji27) : Int).toNat * 7 + 2, none⟩ = some (.int .i64 ((rd_T28 y324 (ji27)).f2)) := hcc31 2 _ rfl; have hx31_3 : w38.cell? ⟨go30, ((ji27) : Int).toNat * 7 + 3, none⟩ = some (.int .i64 ((rd_T28 y324 (ji27)).f3)) := hcc31 3 _ rfl; have hx31_4 : w38.cell? ⟨go30, ((ji27) : Int).toNat * 7 + 4, none⟩ = some (.int .i64 ((rd_T28 y324 (ji27)).f4)) := hcc31 4 _ rfl; have hx31_5 : w38.cell? ⟨go30, ((ji27) : Int).toNat * 7 + 5, none⟩ = some (.int .i64 ((rd_T28 y324 (ji27)).f5)) := hcc31 5 _ rfl; have hx31_6 : w38.cell? ⟨go30, ((ji27) : Int).toNat * 7 + 6, none⟩ = some (.int .i64 ((rd_T28 y324 (ji27)).f6)) := hcc31 6 _ rfl; have hf31_0 : w38.frozen? ⟨go30, ((ji27) : Int).toNat * 7, none⟩ = false := hfr31 0; have hf31_1 : w38.frozen? ⟨go30, ((ji27) : Int).toNat * 7 + 1, none⟩ = false := hfr31 1; have hf31_2 : w38.frozen? ⟨go30, ((ji27) : Int).toNat * 7 + 2, none⟩ = false := hfr31 2; have hf31_3 : w38.frozen? ⟨go30, ((ji27) : Int).toNat * 7 + 3, none⟩ = false := hfr31 3; have hf31_4 : w38.frozen? ⟨go30, ((ji27) : Int).toNat * 7 + 4, none⟩ = false := hfr31 4; have hf31_5 : w38.frozen? ⟨go30, ((ji27) : Int).toNat * 7 + 5, none⟩ = false := hfr31 5; have hf31_6 : w38.frozen? ⟨go30, ((ji27) : Int).toNat * 7 + 6, none⟩ = false := hfr31 6; clear hcl31 hcc31 hfr31 hM31; replace p31 := eq_true p31; replace q31 := eq_true q31; have HX39 := As0 (show Kd.R k28 28 w38 w.heap.size (fun k_ => k_ ≠ gb323) (.slice (some ⟨go30, 0, none⟩) x9_2.length co22) y324 from (by (with_reducible repeat (first | apply Kd.R_alloc | apply Kd.R_drewN | apply Kd.R_drew)); exact HO_9.out)); obtain ⟨ce39, hcl39, hM39, hcc39, hfr39⟩ := Kd.R_elem HX39.out z28 ((ji27) : Int) (of_decide_eq_true (by first | (with_reducible assumption) | assumption)) (by have h_ : ((ji27) : Int) < ((x9_2.length : Int) : Int) := of_decide_eq_true (by first | (with_reducible assumption) | assumption); first | exact h_ | (have e_ := (Kd.R_reads' HO_9.out).1; omega) | simpa using h_); obtain rfl := k28_openM hM39; have HP39 := Kd.R_seg HX39.out ((ji27) : Int) (of_decide_eq_true (by first | (with_reducible assumption) | assumption)) (by have h_ : ((ji27) : Int) < ((x9_2.length : Int) : Int) := of_decide_eq_true (by first | (with_reducible assumption) | assumption); first | exact h_ | (have e_ := (Kd.R_reads' HO_9.out).1; omega) | simpa using h_) (seg := [.int .i64 a3]) (j := 4) hcl39 hcc39 (show 5 ≤ 7 from by decide) (x' := (⟨(rd_T28 y324 (ji27)).f0, (rd_T28 y324 (ji27)).f1, (rd_T28 y324 (ji27)).f2, (rd_T28 y324 (ji27)).f3, a3, (rd_T28 y324 (ji27)).f5, (rd_T28 y324 (ji27)).f6⟩ : S28)) (k28_mkM _ _ _ (⟨(rd_T28 y324 (ji27)).f0, (rd_T28 y324 (ji27)).f1, (rd_T28 y324 (ji27)).f2, (rd_T28 y324 (ji27)).f3, a3, (rd_T28 y324 (ji27)).f5, (rd_T28 y324 (ji27)).f6⟩ : S28) ) (fun _ hk => hk); have hx39_4 := hcc39 4 _ rfl; (try simp only [show (k28).sz = 7 from rfl, Nat.mul_one, Nat.add_zero] at hx39_4); have hf39_4 := hfr39 4; (try simp only [show (k28).sz = 7 from rfl, Nat.mul_one, Nat.add_zero] at hf39_4); clear hcl39 hcc39 hfr39 hM39) | ((with_reducible refine gate_store (t := 2) (p := 93) rfl ?_); refine store_event (t := 2) (p := 93) (v := ?vo_w40) (w1 := (w38.setCell ⟨go30, ((ji27) : Int).toNat * 7 + 4, none⟩ (.int .i64 a3))) ?hg ?ho ?hn ?hr ?_; (case ho => rfl); (case hg => rfl); (case hn => rfl); (case hr => first | (go_simp; done) | (go_simp; rfl)); intro w40 hw; have hg : w38.grownBy w40 (some go30) := (by rw [hw]; exact HP39.2); have hp_ : Kd.R k28 28 w40 w.heap.size (fun k_ => k_ ≠ gb323) (.slice (some ⟨go30, 0, none⟩) x9_2.length co22) y325 := (by rw [hw, Ny325.out]; exact HP39.1); clear HP39; have n0_ := As0 (hp_); have n1_ := As0 (blk_grown (g := gb323) (o := .cells #[.int .i64 ((rd_T28 x9_2 (ji27)).f0), .int .i64 ((rd_T28 x9_2 (ji27)).f1), .int .i64 ((rd_T28 x9_2 (ji27)).f2), .int .i64 ((rd_T28 x9_2 (ji27)).f3), .int .i64 ((rd_T28 x9_2 (ji27)).f4), .int .i64 ((rd_T28 x9_2 (ji27)).f5), .int .i64 ((rd_T28 x9_2 (ji27)).f6)] 28 (0, 0)) (by (with_reducible repeat (first | refine blk_drewN ?_ _ | refine blk_drew ?_ | refine blk_alloc ?_ _)); exact BK323.out) hg (Kd.R_away HO_9.out (fun _ hk => hk))); have n2_ := As0 ((by rw [hw]; exact below_set (HB.out) GB30.out : Below w.heap.size w w40)); clear HO_9; clear BK323; clear HB; have HO_9 := n0_; have BK323 := n1_; have HB := n2_; clear n0_ n1_ n2_; clear hg hw hp_) | ((with_reducible refine gate_callee (f := 9) rfl ?_); refine goesL_ (some 97) rfl rfl Try.func9 (by kernel_rfl) rfl #[.slice A0 l0.length c0, .slice (some ⟨go30, 0, none⟩) y325.length co22] rfl (by (try simp only [List.map_toArray, List.map_cons, List.map_nil]); first | done | (rw [show y325.length = x9_2.length from (Kd.R_reads' HO_9.out).1.symm] <;> rfl) | rfl | (simp only [List.length_drop, List.length_take]; rfl)) ?_; (with_reducible refine (align_Code.calls kj20 _ _ l0 _ _ y325 t326 t327 t328 _ ?side1 ?side2 ?side3 ?side4 A32.out).mono ?_); (case side1 => repeat (first | exact (Kd.C_below HR0.out HB.out) | (with_reducible refine Kd.C_alloc ?_ _) | (with_reducible refine Kd.C_drewN ?_ _) | (with_reducible refine Kd.C_drew ?_))); (case side2 => exact HC0.out); (case side3 => repeat (first | exact (Kd.R_reads' HO_9.out).2.2 | (with_reducible refine Kd.C_alloc ?_ _) | (with_reducible refine Kd.C_drewN ?_ _) | (with_reducible refine Kd.C_drew ?_))); (case side4 => rw [show y325.length = x9_2.length from (Kd.R_reads' HO_9.out).1.symm]; exact (Kd.R_reads' HO_9.out).2.1); rintro e w41 ⟨v329, rfl, ho0, hb⟩; refine ⟨_, rfl, ?_⟩; have n0_ := As0 (Kd.R_below (by (with_reducible repeat (first | apply Kd.R_alloc | apply Kd.R_drewN | apply Kd.R_drew)); exact HO_9.out) hb); have n1_ := As0 (Kd.R_lower ho0 (below_size (by repeat (first | (with_reducible first | exact HB.out | apply below_alloc | apply bdN | apply bd1 | refine below_set ?_ GE323.out) | exact HB.out)))); have n2_ := As0 (blk_below (g := gb323) (o := .cells #[.int .i64 ((rd_T28 x9_2 (ji27)).f0), .int .i64 ((rd_T28 x9_2 (ji27)).f1), .int .i64 ((rd_T28 x9_2 (ji27)).f2), .int .i64 ((rd_T28 x9_2 (ji27)).f3), .int .i64 ((rd_T28 x9_2 (ji27)).f4), .int .i64 ((rd_T28 x9_2 (ji27)).f5), .int .i64 ((rd_T28 x9_2 (ji27)).f6)] 28 (0, 0)) (by (with_reducible repeat (first | refine blk_drewN ?_ _ | refine blk_drew ?_ | refine blk_alloc ?_ _)); exact BK323.out) hb); have n3_ := As0 (below_step (by repeat (first | (with_reducible first | exact HB.out | apply below_alloc | apply bdN | apply bd1 | refine below_set ?_ GE323.out) | exact HB.out)) hb); clear HO_9; clear BK323; clear HB; have HO_9 := n0_; have HO330 := n1_; have BK323 := n2_; have HB := n3_; clear n0_ n1_ n2_ n3_; (try clear hb); (try clear hb2); (try clear hk); (try clear hi); (try clear ho0)))
              have n0_ := As0 (Kd.R_drew HO_9.out)
              have n1_ := As0 (Kd.R_drew HO330.out)
              have n2_ := As0 (blk_drew BK323.out)
              have n3_ := As0 (bd1 HB.out)
              clear HO_9
              clear HO330
              clear BK323
              clear HB
              have HO_9 := n0_
              have HO330 := n1_
              have BK323 := n2_
              have HB := n3_
              clear n0_ n1_ n2_ n3_
              have p331 : 0 ≤ ((ji27) : Int) := of_decide_eq_true (by first | (with_reducible assumption) | assumption)
              have q331 : (ji27) < (y325.length : Int) := (by have h_ : ((ji27) : Int) < ((x9_2.length : Int) : Int) := of_decide_eq_true (by first | (with_reducible assumption) | assumption); first | (have e_ := (Kd.R_reads' HO_9.out).1; omega) | simpa only [Ny324.out, Ny325.out, List.length_set] using h_)
              have ql331 : (((ji27) : Int) < ((x9_2.length : Int) : Int)) = True := eq_true (of_decide_eq_true (by first | (with_reducible assumption) | assumption))
              obtain ⟨ad331, e331, hx331_0, hx331_1, hx331_2, hx331_3, hx331_4, hx331_5, hx331_6⟩ := at_T28 (Kd.R_reads' HO_9.out).2.2 (ji27) p331 q331
              obtain rfl : (⟨go30, 0, none⟩ : Addr) = ad331 := (by injection e331)
              (first | simp only [add_plain] at hx331_0 | simp only [add_at] at hx331_0 | simp only [Addr.add, Nat.zero_add] at hx331_0 | skip)
              (first | simp only [add_plain] at hx331_1 | simp only [add_at] at hx331_1 | simp only [Addr.add, Nat.zero_add] at hx331_1 | skip)
              (first | simp only [add_plain] at hx331_2 | simp only [add_at] at hx331_2 | simp only [Addr.add, Nat.zero_add] at hx331_2 | skip)
              (first | simp only [add_plain] at hx331_3 | simp only [add_at] at hx331_3 | simp only [Addr.add, Nat.zero_add] at hx331_3 | skip)
              (first | simp only [add_plain] at hx331_4 | simp only [add_at] at hx331_4 | simp only [Addr.add, Nat.zero_add] at hx331_4 | skip)
              (first | simp only [add_plain] at hx331_5 | simp only [add_at] at hx331_5 | simp only [Addr.add, Nat.zero_add] at hx331_5 | skip)
              (first | simp only [add_plain] at hx331_6 | simp only [add_at] at hx331_6 | simp only [Addr.add, Nat.zero_add] at hx331_6 | skip)
              replace p331 := eq_true p331
              replace q331 := eq_true q331
              refine start_ (n := 6) (S := fun w' => w'.cell? ⟨gb323, 0, none⟩ = some (.int .i64 ((rd_T28 x9_2 (ji27)).f0)) ∧ w'.cell? ⟨gb323, 1, none⟩ = some (.int .i64 ((rd_T28 x9_2 (ji27)).f1)) ∧ w'.cell? ⟨gb323, 2, none⟩ = some (.int .i64 ((rd_T28 x9_2 (ji27)).f2)) ∧ w'.cell? ⟨gb323, 3, none⟩ = some (.int .i64 ((rd_T28 x9_2 (ji27)).f3)) ∧ w'.cell? ⟨gb323, 4, none⟩ = some (.int .i64 ((rd_T28 x9_2 (ji27)).f4)) ∧ w'.cell? ⟨gb323, 5, none⟩ = some (.int .i64 ((rd_T28 x9_2 (ji27)).f5)) ∧ w'.cell? ⟨gb323, 6, none⟩ = some (.int .i64 ((rd_T28 x9_2 (ji27)).f6)) ∧ w'.cell? ⟨go30, ((ji27)).toNat * 7, none⟩ = some (.int .i64 ((rd_T28 y325 (ji27)).f0)) ∧ w'.cell? ⟨go30, ((ji27)).toNat * 7 + 1, none⟩ = some (.int .i64 ((rd_T28 y325 (ji27)).f1)) ∧ w'.cell? ⟨go30, ((ji27)).toNat * 7 + 2, none⟩ = some (.int .i64 ((rd_T28 y325 (ji27)).f2)) ∧ w'.cell? ⟨go30, ((ji27)).toNat * 7 + 3, none⟩ = some (.int .i64 ((rd_T28 y325 (ji27)).f3)) ∧ w'.cell? ⟨go30, ((ji27)).toNat * 7 + 4, none⟩ = some (.int .i64 ((rd_T28 y325 (ji27)).f4)) ∧ w'.cell? ⟨go30, ((ji27)).toNat * 7 + 5, none⟩ = some (.int .i64 ((rd_T28 y325 (ji27)).f5)) ∧ w'.cell? ⟨go30, ((ji27)).toNat * 7 + 6, none⟩ = some (.int .i64 ((rd_T28 y325 (ji27)).f6))) (ds := []) #[false, false, false, false, false, false] (by kernel_rfl) rfl rfl ⟨(blk_cell BK323.out 0).trans rfl, (blk_cell BK323.out 1).trans rfl, (blk_cell BK323.out 2).trans rfl, (blk_cell BK323.out 3).trans rfl, (blk_cell BK323.out 4).trans rfl, (blk_cell BK323.out 5).trans rfl, (blk_cell BK323.out 6).trans rfl, hx331_0, hx331_1, hx331_2, hx331_3, hx331_4, hx331_5, hx331_6⟩ (fun hHeld => ?_)
              generalize w41.drew = w42 at HO_9 HO330 BK323 HB hx331_0 hx331_1 hx331_2 hx331_3 hx331_4 hx331_5 hx331_6 hHeld ⊢
              refine pure_ (i := 0) (N := some 101) (v := ?_) (a' := ?_) #[true, false, false, false, false, false] rfl rfl (by kernel_rfl) (fun _ _ _ h => h) (Or.inl ⟨by rfl, ?_⟩) ?_ ?_
              rotate_left
              ·intro w'
               go_simp
               with_reducible rfl
              rotate_left
              ·simp only [Act.put, sL1, sL2, sL3, i64_w, i32_w]
               rfl
              refine pure_ (i := 1) (N := some 102) (v := ?_) (a' := ?_) #[true, true, false, false, false, false] rfl rfl (by kernel_rfl) (fun _ _ _ h => h) (Or.inl ⟨by rfl, ?_⟩) ?_ ?_
              rotate_left
              ·intro w'
               go_simp
               with_reducible rfl
              rotate_left
              ·simp only [Act.put, sL1, sL2, sL3, i64_w, i32_w]
               rfl
              refine pure_ (i := 2) (N := some 103) (v := ?_) (a' := ?_) #[true, true, true, false, false, false] rfl rfl (by kernel_rfl) (fun _ _ _ h => h) (Or.inl ⟨by rfl, ?_⟩) ?_ ?_
              rotate_left
              ·intro w'
               go_simp
               with_reducible rfl
              rotate_left
              ·simp only [Act.put, sL1, sL2, sL3, i64_w, i32_w]
               rfl
              refine take_ (i := 3) (N := some 104) (v := ?_) (a' := ?_) #[true, true, true, true, false, false] rfl rfl (by kernel_rfl) (fun _ _ _ h => h) (Or.inl ⟨by rfl, ?_⟩) hHeld ?_ ?_
              rotate_left
              ·rintro w' ⟨s0, s1, s2, s3, s4, s5, s6, s7, s8, s9, s10, s11, s12, s13⟩
               go_simp
               with_reducible rfl
              rotate_left
              ·simp only [Act.put, sL1, sL2, sL3, i64_w, i32_w]
               rfl
              refine take_ (i := 4) (N := some 105) (v := ?_) (a' := ?_) #[true, true, true, true, true, false] rfl rfl (by kernel_rfl) (fun _ _ _ h => h) (Or.inl ⟨by rfl, ?_⟩) hHeld ?_ ?_
              rotate_left
              ·rintro w' ⟨s0, s1, s2, s3, s4, s5, s6, s7, s8, s9, s10, s11, s12, s13⟩
               go_simp
               with_reducible rfl
              rotate_left
              ·simp only [Act.put, sL1, sL2, sL3, i64_w, i32_w]
               rfl
              refine pure_ (i := 5) (N := some 106) (v := ?_) (a' := ?_) #[true, true, true, true, true, true] rfl rfl (by kernel_rfl) (fun _ _ _ h => h) (Or.inl ⟨by rfl, ?_⟩) ?_ ?_
              rotate_left
              ·intro w'
               go_simp
               with_reducible rfl
              rotate_left
              ·simp only [Act.put, sL1, sL2, sL3, i64_w, i32_w]
               rfl
              refine done_ (by kernel_rfl) ?_
              try go_wp2
              go_ret
              exact ⟨by first | rfl | (simp [errW_none, errW_some] <;> rfl) | (simp only [← hji27]; first | rfl | (simp [errW_none, errW_some] <;> rfl)) | (simp [*, errW_none, errW_some] <;> rfl), by repeat (first | (with_reducible first | exact HB.out | apply below_alloc | apply bdN | apply bd1 | refine below_set ?_ GE323.out) | exact HB.out)⟩
             ·rw [if_neg c33] at H
              have c33b0 : (((rd_T28 y325 (ji27)).f0) == ((rd_T28 x9_2 (ji27)).f0) && (((rd_T28 y325 (ji27)).f1) == ((rd_T28 x9_2 (ji27)).f1) && (((rd_T28 y325 (ji27)).f2) == ((rd_T28 x9_2 (ji27)).f2) && (((rd_T28 y325 (ji27)).f3) == ((rd_T28 x9_2 (ji27)).f3) && (((rd_T28 y325 (ji27)).f4) == ((rd_T28 x9_2 (ji27)).f4) && (((rd_T28 y325 (ji27)).f5) == ((rd_T28 x9_2 (ji27)).f5) && (((rd_T28 y325 (ji27)).f6) == ((rd_T28 x9_2 (ji27)).f6)))))))) = false := by simpa using c33
              (try (have c33b1 : decide (((rd_T28 y325 (ji27)).f0) = ((rd_T28 x9_2 (ji27)).f0) && (((rd_T28 y325 (ji27)).f1) == ((rd_T28 x9_2 (ji27)).f1) && (((rd_T28 y325 (ji27)).f2) == ((rd_T28 x9_2 (ji27)).f2) && (((rd_T28 y325 (ji27)).f3) == ((rd_T28 x9_2 (ji27)).f3) && (((rd_T28 y325 (ji27)).f4) == ((rd_T28 x9_2 (ji27)).f4) && (((rd_T28 y325 (ji27)).f5) == ((rd_T28 x9_2 (ji27)).f5) && (((rd_T28 y325 (ji27)).f6) == ((rd_T28 x9_2 (ji27)).f6)))))))) = false := by simpa using c33))
              (try (have c33b2 : (((rd_T28 y325 (ji27)).f0) == ((rd_T28 x9_2 (ji27)).f0) && (((rd_T28 y325 (ji27)).f1) == ((rd_T28 x9_2 (ji27)).f1) && (((rd_T28 y325 (ji27)).f2) == ((rd_T28 x9_2 (ji27)).f2) && (((rd_T28 y325 (ji27)).f3) == ((rd_T28 x9_2 (ji27)).f3) && (((rd_T28 y325 (ji27)).f4) == ((rd_T28 x9_2 (ji27)).f4) && (((rd_T28 y325 (ji27)).f5) == ((rd_T28 x9_2 (ji27)).f5) && (((rd_T28 y325 (ji27)).f6) == ((rd_T28 x9_2 (ji27)).f6)))))))) = false := by simpa using c33))
              (try (have c33b3 : ¬ (((rd_T28 y325 (ji27)).f0) = ((rd_T28 x9_2 (ji27)).f0) && (((rd_T28 y325 (ji27)).f1) == ((rd_T28 x9_2 (ji27)).f1) && (((rd_T28 y325 (ji27)).f2) == ((rd_T28 x9_2 (ji27)).f2) && (((rd_T28 y325 (ji27)).f3) == ((rd_T28 x9_2 (ji27)).f3) && (((rd_T28 y325 (ji27)).f4) == ((rd_T28 x9_2 (ji27)).f4) && (((rd_T28 y325 (ji27)).f5) == ((rd_T28 x9_2 (ji27)).f5) && (((rd_T28 y325 (ji27)).f6) == ((rd_T28 x9_2 (ji27)).f6)))))))) := by simpa using c33))
              clear c33
              by_cases c43 : t328 = 20
              ·rw [if_pos c43] at H
               have c43b0 : (t328 == 20) = true := beq_iff_eq.mpr c43
               have c43b1 : (t328 != 20) = false := bne_eq_false_iff_eq.mpr c43
               clear c43
               by_cases c44 : t327 = (ji27)
               ·rw [if_pos c44] at H
                have c44b0 : (t327 == (ji27)) = true := beq_iff_eq.mpr c44
                have c44b1 : (t327 != (ji27)) = false := bne_eq_false_iff_eq.mpr c44
                clear c44
                obtain rfl := Option.some.inj H
                have p322 : 0 ≤ ((ji27) : Int) := of_decide_eq_true (by first | (with_reducible assumption) | assumption)
                have q322 : (ji27) < (x9_2.length : Int) := of_decide_eq_true (by first | (with_reducible assumption) | assumption)
                obtain ⟨ad322, e322, hx322_0, hx322_1, hx322_2, hx322_3, hx322_4, hx322_5, hx322_6⟩ := at_T28 (Kd.R_reads' HO_9.out).2.2 (ji27) p322 q322
                cases e322
                replace p322 := eq_true p322
                replace q322 := eq_true q322
                try go_wp2_with (first | ((with_reducible refine gate_dst (N := 15) rfl ?_); (try (refine gate_guard (by rfl) ?_; dsimp only)); refine box_event ?hg (N := 15) ?hd (cs := #[.int .i64 0, .int .i64 0, .int .i64 0, .int .i64 0, .int .i64 0, .int .i64 0, .int .i64 0]) (t := 28) ?hr ?_; (case hd => rfl); (case hg => rfl); (case hr => first | (go_simp; done) | (go_simp; rfl)); intro gb323 hg w45 hbox hb; have n0_ := As0 (Kd.R_below (Kd.R_elderB (by (with_reducible repeat (first | apply Kd.R_alloc | apply Kd.R_drewN | apply Kd.R_drew)); exact HO_9.out) gb323 (Nat.le_of_eq hg.symm)) hb); have n1_ := As0 (below_step (by repeat (first | (with_reducible first | exact HB.out | apply below_alloc | apply bdN | apply bd1) | exact HB.out)) hb); have n2_ := As0 (hbox); have n3_ := As0 ((by rw [hg]; exact (below_size (by repeat (first | (with_reducible first | exact HB.out | apply below_alloc | apply bdN | apply bd1) | exact HB.out))) : w.heap.size ≤ gb323)); have n4_ := As0 ((by rw [hg]; exact (below_size (by repeat (first | (with_reducible first | exact HB.out | apply below_alloc | apply bdN | apply bd1) | exact HB.out))) : w.heap.size ≤ gb323)); clear HO_9; clear HB; have HO_9 := n0_; have HB := n1_; have BK323 := n2_; have GW323 := n3_; have GE323 := n4_; clear n0_ n1_ n2_ n3_ n4_; clear hb hbox hg; have hcz46_0 : w45.cell? ⟨gb323, 0, none⟩ = some (.int .i64 0) := (blk_cell BK323.out 0).trans rfl; have hcz46_1 : w45.cell? ⟨gb323, 1, none⟩ = some (.int .i64 0) := (blk_cell BK323.out 1).trans rfl; have hcz46_2 : w45.cell? ⟨gb323, 2, none⟩ = some (.int .i64 0) := (blk_cell BK323.out 2).trans rfl; have hcz46_3 : w45.cell? ⟨gb323, 3, none⟩ = some (.int .i64 0) := (blk_cell BK323.out 3).trans rfl; have hcz46_4 : w45.cell? ⟨gb323, 4, none⟩ = some (.int .i64 0) := (blk_cell BK323.out 4).trans rfl; have hcz46_5 : w45.cell? ⟨gb323, 5, none⟩ = some (.int .i64 0) := (blk_cell BK323.out 5).trans rfl; have hcz46_6 : w45.cell? ⟨gb323, 6, none⟩ = some (.int .i64 0) := (blk_cell BK323.out 6).trans rfl; have hfz46_0 := blk_frozen BK323.out 0; have hfz46_1 := blk_frozen BK323.out 1; have hfz46_2 := blk_frozen BK323.out 2; have hfz46_3 := blk_frozen BK323.out 3; have hfz46_4 := blk_frozen BK323.out 4; have hfz46_5 := blk_frozen BK323.out 5; have hfz46_6 := blk_frozen BK323.out 6) | ((with_reducible refine gate_store (t := 28) (p := 15) rfl ?_); refine store_event (t := 28) (p := 15) (v := ?vo_w47) (w1 := (((((((w45.setCell ⟨gb323, 0, none⟩ (.int .i64 ((rd_T28 x9_2 (ji27)).f0))).setCell ⟨gb323, 1, none⟩ (.int .i64 ((rd_T28 x9_2 (ji27)).f1))).setCell ⟨gb323, 2, none⟩ (.int .i64 ((rd_T28 x9_2 (ji27)).f2))).setCell ⟨gb323, 3, none⟩ (.int .i64 ((rd_T28 x9_2 (ji27)).f3))).setCell ⟨gb323, 4, none⟩ (.int .i64 ((rd_T28 x9_2 (ji27)).f4))).setCell ⟨gb323, 5, none⟩ (.int .i64 ((rd_T28 x9_2 (ji27)).f5))).setCell ⟨gb323, 6, none⟩ (.int .i64 ((rd_T28 x9_2 (ji27)).f6)))) ?hg ?ho ?hn ?hr ?_; (case ho => rfl); (case hg => rfl); (case hn => rfl); (case hr => first | (go_simp; done) | (go_simp; rfl)); intro w47 hw; have n0_ : Aside0 (Kd.R k28 28 w47 w.heap.size (fun k_ => k_ ≠ gb323) (.slice (some ad322) x9_2.length co22) x9_2) := ⟨(by rw [hw]; exact (by (with_reducible repeat (first | apply Kd.R_alloc | apply Kd.R_drewN | apply Kd.R_drew)); exact Kd.R_mono (Kd.R_far (p := ⟨gb323, 6, none⟩) (Kd.R_far (p := ⟨gb323, 5, none⟩) (Kd.R_far (p := ⟨gb323, 4, none⟩) (Kd.R_far (p := ⟨gb323, 3, none⟩) (Kd.R_far (p := ⟨gb323, 2, none⟩) (Kd.R_far (p := ⟨gb323, 1, none⟩) (Kd.R_far (p := ⟨gb323, 0, none⟩) (Kd.R_mono HO_9.out (fun k_ hk => (⟨hk, hk.2⟩ : _ ∧ k_ ≠ gb323))) (fun _ hk => hk.2) (.int .i64 ((rd_T28 x9_2 (ji27)).f0))) (fun _ hk => hk.2) (.int .i64 ((rd_T28 x9_2 (ji27)).f1))) (fun _ hk => hk.2) (.int .i64 ((rd_T28 x9_2 (ji27)).f2))) (fun _ hk => hk.2) (.int .i64 ((rd_T28 x9_2 (ji27)).f3))) (fun _ hk => hk.2) (.int .i64 ((rd_T28 x9_2 (ji27)).f4))) (fun _ hk => hk.2) (.int .i64 ((rd_T28 x9_2 (ji27)).f5))) (fun _ hk => hk.2) (.int .i64 ((rd_T28 x9_2 (ji27)).f6))) (fun _ hk => hk.1.2)))⟩; have n1_ : Aside0 (w47.heap[gb323]? = some (.cells #[.int .i64 ((rd_T28 x9_2 (ji27)).f0), .int .i64 ((rd_T28 x9_2 (ji27)).f1), .int .i64 ((rd_T28 x9_2 (ji27)).f2), .int .i64 ((rd_T28 x9_2 (ji27)).f3), .int .i64 ((rd_T28 x9_2 (ji27)).f4), .int .i64 ((rd_T28 x9_2 (ji27)).f5), .int .i64 ((rd_T28 x9_2 (ji27)).f6)] 28 (0, 0))) := ⟨(by rw [hw]; exact (by (with_reducible repeat (first | refine blk_drewN ?_ _ | refine blk_drew ?_ | refine blk_alloc ?_ _)); refine blk_put (cs := #[.int .i64 ((rd_T28 x9_2 (ji27)).f0), .int .i64 ((rd_T28 x9_2 (ji27)).f1), .int .i64 ((rd_T28 x9_2 (ji27)).f2), .int .i64 ((rd_T28 x9_2 (ji27)).f3), .int .i64 ((rd_T28 x9_2 (ji27)).f4), .int .i64 ((rd_T28 x9_2 (ji27)).f5), .int .i64 0]) ?_ 6 _ rfl; (with_reducible repeat (first | refine blk_drewN ?_ _ | refine blk_drew ?_ | refine blk_alloc ?_ _)); refine blk_put (cs := #[.int .i64 ((rd_T28 x9_2 (ji27)).f0), .int .i64 ((rd_T28 x9_2 (ji27)).f1), .int .i64 ((rd_T28 x9_2 (ji27)).f2), .int .i64 ((rd_T28 x9_2 (ji27)).f3), .int .i64 ((rd_T28 x9_2 (ji27)).f4), .int .i64 0, .int .i64 0]) ?_ 5 _ rfl; (with_reducible repeat (first | refine blk_drewN ?_ _ | refine blk_drew ?_ | refine blk_alloc ?_ _)); refine blk_put (cs := #[.int .i64 ((rd_T28 x9_2 (ji27)).f0), .int .i64 ((rd_T28 x9_2 (ji27)).f1), .int .i64 ((rd_T28 x9_2 (ji27)).f2), .int .i64 ((rd_T28 x9_2 (ji27)).f3), .int .i64 0, .int .i64 0, .int .i64 0]) ?_ 4 _ rfl; (with_reducible repeat (first | refine blk_drewN ?_ _ | refine blk_drew ?_ | refine blk_alloc ?_ _)); refine blk_put (cs := #[.int .i64 ((rd_T28 x9_2 (ji27)).f0), .int .i64 ((rd_T28 x9_2 (ji27)).f1), .int .i64 ((rd_T28 x9_2 (ji27)).f2), .int .i64 0, .int .i64 0, .int .i64 0, .int .i64 0]) ?_ 3 _ rfl; (with_reducible repeat (first | refine blk_drewN ?_ _ | refine blk_drew ?_ | refine blk_alloc ?_ _)); refine blk_put (cs := #[.int .i64 ((rd_T28 x9_2 (ji27)).f0), .int .i64 ((rd_T28 x9_2 (ji27)).f1), .int .i64 0, .int .i64 0, .int .i64 0, .int .i64 0, .int .i64 0]) ?_ 2 _ rfl; (with_reducible repeat (first | refine blk_drewN ?_ _ | refine blk_drew ?_ | refine blk_alloc ?_ _)); refine blk_put (cs := #[.int .i64 ((rd_T28 x9_2 (ji27)).f0), .int .i64 0, .int .i64 0, .int .i64 0, .int .i64 0, .int .i64 0, .int .i64 0]) ?_ 1 _ rfl; (with_reducible repeat (first | refine blk_drewN ?_ _ | refine blk_drew ?_ | refine blk_alloc ?_ _)); refine blk_put (cs := #[.int .i64 0, .int .i64 0, .int .i64 0, .int .i64 0, .int .i64 0, .int .i64 0, .int .i64 0]) ?_ 0 _ rfl; (with_reducible repeat (first | refine blk_drewN ?_ _ | refine blk_drew ?_ | refine blk_alloc ?_ _)); exact BK323.out))⟩; have n2_ : Aside0 (Below w.heap.size w w47) := ⟨(by rw [hw]; exact (by repeat (first | (with_reducible first | exact HB.out | apply below_alloc | apply bdN | apply bd1 | refine below_set ?_ GE323.out) | exact HB.out)))⟩; clear hw; clear HO_9; clear BK323; clear HB; have HO_9 := n0_; have BK323 := n1_; have HB := n2_; clear n0_ n1_ n2_; have p30 : 0 ≤ ((ji27) : Int) := of_decide_eq_true (by first | (with_reducible assumption) | assumption); have q30 : ((ji27) : Int) < ((x9_2.length : Int) : Int) := of_decide_eq_true (by first | (with_reducible assumption) | assumption); obtain ⟨go30, co30, eo30, gb30, gl30, cl30, HG30⟩ := Kd.R_form HO_9.out (by omega); (first | cases eo30 | (injection eo30 with ea_ en_ ec_; (first | subst ea_ | (injection ea_ with ea_; subst ea_)); subst ec_; clear en_)); have GB30 := As0 gb30; have GG30 := As0 HG30; clear gb30 gl30 HG30; (first | simp only [add_plain] at hx322_0 | skip); (first | simp only [add_plain] at hx322_1 | skip); (first | simp only [add_plain] at hx322_2 | skip); (first | simp only [add_plain] at hx322_3 | skip); (first | simp only [add_plain] at hx322_4 | skip); (first | simp only [add_plain] at hx322_5 | skip); (first | simp only [add_plain] at hx322_6 | skip); obtain ⟨ce30, hcl30, hM30, hcc30, hfr30⟩ := Kd.R_elem HO_9.out z28 ((ji27) : Int) p30 q30; obtain rfl := k28_openM hM30; have hx30_0 : w47.cell? ⟨go30, ((ji27) : Int).toNat * 7, none⟩ = some (.int .i64 ((rd_T28 x9_2 (ji27)).f0)) := hcc30 0 _ rfl; have hx30_1 : w47.cell? ⟨go30, ((ji27) : Int).toNat * 7 + 1, none⟩ = some (.int .i64 ((rd_T28 x9_2 (ji27)).f1)) := hcc30 1 _ rfl; have hx30_2 : w47.cell? ⟨go30, ((ji27) : Int).toNat * 7 + 2, none⟩ = some (.int .i64 ((rd_T28 x9_2 (ji27)).f2)) := hcc30 2 _ rfl; have hx30_3 : w47.cell? ⟨go30, ((ji27) : Int).toNat * 7 + 3, none⟩ = some (.int .i64 ((rd_T28 x9_2 (ji27)).f3)) := hcc30 3 _ rfl; have hx30_4 : w47.cell? ⟨go30, ((ji27) : Int).toNat * 7 + 4, none⟩ = some (.int .i64 ((rd_T28 x9_2 (ji27)).f4)) := hcc30 4 _ rfl; have hx30_5 : w47.cell? ⟨go30, ((ji27) : Int).toNat * 7 + 5, none⟩ = some (.int .i64 ((rd_T28 x9_2 (ji27)).f5)) := hcc30 5 _ rfl; have hx30_6 : w47.cell? ⟨go30, ((ji27) : Int).toNat * 7 + 6, none⟩ = some (.int .i64 ((rd_T28 x9_2 (ji27)).f6)) := hcc30 6 _ rfl; have hf30_0 : w47.frozen? ⟨go30, ((ji27) : Int).toNat * 7, none⟩ = false := hfr30 0; have hf30_1 : w47.frozen? ⟨go30, ((ji27) : Int).toNat * 7 + 1, none⟩ = false := hfr30 1; have hf30_2 : w47.frozen? ⟨go30, ((ji27) : Int).toNat * 7 + 2, none⟩ = false := hfr30 2; have hf30_3 : w47.frozen? ⟨go30, ((ji27) : Int).toNat * 7 + 3, none⟩ = false := hfr30 3; have hf30_4 : w47.frozen? ⟨go30, ((ji27) : Int).toNat * 7 + 4, none⟩ = false := hfr30 4; have hf30_5 : w47.frozen? ⟨go30, ((ji27) : Int).toNat * 7 + 5, none⟩ = false := hfr30 5; have hf30_6 : w47.frozen? ⟨go30, ((ji27) : Int).toNat * 7 + 6, none⟩ = false := hfr30 6; clear hcl30 hcc30 hfr30 hM30; replace p30 := eq_true p30; replace q30 := eq_true q30; have HX48 := As0 (show Kd.R k28 28 w47 w.heap.size (fun k_ => k_ ≠ gb323) (.slice (some ⟨go30, 0, none⟩) x9_2.length co22) x9_2 from (by (with_reducible repeat (first | apply Kd.R_alloc | apply Kd.R_drewN | apply Kd.R_drew)); exact HO_9.out)); obtain ⟨ce48, hcl48, hM48, hcc48, hfr48⟩ := Kd.R_elem HX48.out z28 ((ji27) : Int) (of_decide_eq_true (by first | (with_reducible assumption) | assumption)) (by have h_ : ((ji27) : Int) < ((x9_2.length : Int) : Int) := of_decide_eq_true (by first | (with_reducible assumption) | assumption); first | exact h_ | (have e_ := (Kd.R_reads' HO_9.out).1; omega) | simpa using h_); obtain rfl := k28_openM hM48; have HP48 := Kd.R_seg HX48.out ((ji27) : Int) (of_decide_eq_true (by first | (with_reducible assumption) | assumption)) (by have h_ : ((ji27) : Int) < ((x9_2.length : Int) : Int) := of_decide_eq_true (by first | (with_reducible assumption) | assumption); first | exact h_ | (have e_ := (Kd.R_reads' HO_9.out).1; omega) | simpa using h_) (seg := [.int .i64 a2]) (j := 0) hcl48 hcc48 (show 1 ≤ 7 from by decide) (x' := (⟨a2, (rd_T28 x9_2 (ji27)).f1, (rd_T28 x9_2 (ji27)).f2, (rd_T28 x9_2 (ji27)).f3, (rd_T28 x9_2 (ji27)).f4, (rd_T28 x9_2 (ji27)).f5, (rd_T28 x9_2 (ji27)).f6⟩ : S28)) (k28_mkM _ _ _ (⟨a2, (rd_T28 x9_2 (ji27)).f1, (rd_T28 x9_2 (ji27)).f2, (rd_T28 x9_2 (ji27)).f3, (rd_T28 x9_2 (ji27)).f4, (rd_T28 x9_2 (ji27)).f5, (rd_T28 x9_2 (ji27)).f6⟩ : S28) ) (fun _ hk => hk); have hx48_0 := hcc48 0 _ rfl; (try simp only [show (k28).sz = 7 from rfl, Nat.mul_one, Nat.add_zero] at hx48_0); have hf48_0 := hfr48 0; (try simp only [show (k28).sz = 7 from rfl, Nat.mul_one, Nat.add_zero] at hf48_0); clear hcl48 hcc48 hfr48 hM48) | ((with_reducible refine gate_store (t := 3) (p := 88) rfl ?_); refine store_event (t := 3) (p := 88) (v := ?vo_w49) (w1 := (w47.setCell ⟨go30, ((ji27) : Int).toNat * 7, none⟩ (.int .i64 a2))) ?hg ?ho ?hn ?hr ?_; (case ho => rfl); (case hg => rfl); (case hn => rfl); (case hr => first | (go_simp; done) | (go_simp; rfl)); intro w49 hw; have hg : w47.grownBy w49 (some go30) := (by rw [hw]; exact HP48.2); have hp_ : Kd.R k28 28 w49 w.heap.size (fun k_ => k_ ≠ gb323) (.slice (some ⟨go30, 0, none⟩) x9_2.length co22) y324 := (by rw [hw, Ny324.out]; exact HP48.1); clear HP48; have n0_ := As0 (hp_); have n1_ := As0 (blk_grown (g := gb323) (o := .cells #[.int .i64 ((rd_T28 x9_2 (ji27)).f0), .int .i64 ((rd_T28 x9_2 (ji27)).f1), .int .i64 ((rd_T28 x9_2 (ji27)).f2), .int .i64 ((rd_T28 x9_2 (ji27)).f3), .int .i64 ((rd_T28 x9_2 (ji27)).f4), .int .i64 ((rd_T28 x9_2 (ji27)).f5), .int .i64 ((rd_T28 x9_2 (ji27)).f6)] 28 (0, 0)) (by (with_reducible repeat (first | refine blk_drewN ?_ _ | refine blk_drew ?_ | refine blk_alloc ?_ _)); exact BK323.out) hg (Kd.R_away HO_9.out (fun _ hk => hk))); have n2_ := As0 ((by rw [hw]; exact below_set (HB.out) GB30.out : Below w.heap.size w w49)); clear HO_9; clear BK323; clear HB; have HO_9 := n0_; have BK323 := n1_; have HB := n2_; clear n0_ n1_ n2_; clear hg hw hp_; have p31 : 0 ≤ ((ji27) : Int) := of_decide_eq_true (by first | (with_reducible assumption) | assumption); have q31 : ((ji27) : Int) < ((x9_2.length : Int) : Int) := of_decide_eq_true (by first | (with_reducible assumption) | assumption); obtain ⟨ce31, hcl31, hM31, hcc31, hfr31⟩ := Kd.R_elem HO_9.out z28 ((ji27) : Int) p31 q31; obtain rfl := k28_openM hM31; have hx31_0 : w49.cell? ⟨go30, ((ji27) : Int).toNat * 7, none⟩ = some (.int .i64 ((rd_T28 y324 (ji27)).f0)) := hcc31 0 _ rfl; have hx31_1 : w49.cell? ⟨go30, ((ji27) : Int).toNat * 7 + 1, none⟩ = some (.int .i64 ((rd_T28 y324 (ji27)).f1)) := hcc31 1 _ rfl; have hx31_2 : w49.cell? ⟨go30, ((ji27) : Int).toNat * 7 + 2, none⟩ = some (.int .i64 ((rd_T28 y324 (ji27)).f2)) := hcc31 2 _ rfl; have hx31_3 : w49.cell? ⟨go30, ((ji27) : Int).toNat * 7 + 3, none⟩ = some (.int .i64 ((rd_T28 y324 (ji27)).f3)) := hcc31 3 _ rfl; have hx31_4 : w49.cell? ⟨go30, ((ji27) : Int).toNat * 7 + 4, none⟩ = some (.int .i64 ((rd_T28 y324 (ji27)).f4)) := hcc31 4 _ rfl; have hx31_5 : w49.cell? ⟨go30, ((ji27) : Int).toNat * 7 + 5, none⟩ = some (.int .i64 ((rd_T28 y324 (ji27)).f5)) := hcc31 5 _ rfl; have hx31_6 : w49.cell? ⟨go30, ((ji27) : Int).toNat * 7 + 6, none⟩ = some (.int .i64 ((rd_T28 y324 (ji27)).f6)) := hcc31 6 _ rfl; have hf31_0 : w49.frozen? ⟨go30, ((ji27) : Int).toNat * 7, none⟩ = false := hfr31 0; have hf31_1 : w49.frozen? ⟨go30, ((ji27) : Int).toNat * 7 + 1, none⟩ = false := hfr31 1; have hf31_2 : w49.frozen? ⟨go30, ((ji27) : Int).toNat * 7 + 2, none⟩ = false := hfr31 2; have hf31_3 : w49.frozen? ⟨go30, ((ji27) : Int).toNat * 7 + 3, none⟩ = false := hfr31 3; have hf31_4 : w49.frozen? ⟨go30, ((ji27) : Int).toNat * 7 + 4, none⟩ = false := hfr31 4; have hf31_5 : w49.frozen? ⟨go30, ((ji27) : Int).toNat * 7 + 5, none⟩ = false := hfr31 5; have hf31_6 : w49.frozen? ⟨go30, ((ji27) : Int).toNat * 7 + 6, none⟩ = false := hfr31 6; clear hcl31 hcc31 hfr31 hM31; replace p31 := eq_true p31; replace q31 := eq_true q31; have HX50 := As0 (show Kd.R k28 28 w49 w.heap.size (fun k_ => k_ ≠ gb323) (.slice (some ⟨go30, 0, none⟩) x9_2.length co22) y324 from (by (with_reducible repeat (first | apply Kd.R_alloc | apply Kd.R_drewN | apply Kd.R_drew)); exact HO_9.out)); obtain ⟨ce50, hcl50, hM50, hcc50, hfr50⟩ := Kd.R_elem HX50.out z28 ((ji27) : Int) (of_decide_eq_true (by first | (with_reducible assumption) | assumption)) (by have h_ : ((ji27) : Int) < ((x9_2.length : Int) : Int) := of_decide_eq_true (by first | (with_reducible assumption) | assumption); first | exact h_ | (have e_ := (Kd.R_reads' HO_9.out).1; omega) | simpa using h_); obtain rfl := k28_openM hM50; have HP50 := Kd.R_seg HX50.out ((ji27) : Int) (of_decide_eq_true (by first | (with_reducible assumption) | assumption)) (by have h_ : ((ji27) : Int) < ((x9_2.length : Int) : Int) := of_decide_eq_true (by first | (with_reducible assumption) | assumption); first | exact h_ | (have e_ := (Kd.R_reads' HO_9.out).1; omega) | simpa using h_) (seg := [.int .i64 a3]) (j := 4) hcl50 hcc50 (show 5 ≤ 7 from by decide) (x' := (⟨(rd_T28 y324 (ji27)).f0, (rd_T28 y324 (ji27)).f1, (rd_T28 y324 (ji27)).f2, (rd_T28 y324 (ji27)).f3, a3, (rd_T28 y324 (ji27)).f5, (rd_T28 y324 (ji27)).f6⟩ : S28)) (k28_mkM _ _ _ (⟨(rd_T28 y324 (ji27)).f0, (rd_T28 y324 (ji27)).f1, (rd_T28 y324 (ji27)).f2, (rd_T28 y324 (ji27)).f3, a3, (rd_T28 y324 (ji27)).f5, (rd_T28 y324 (ji27)).f6⟩ : S28) ) (fun _ hk => hk); have hx50_4 := hcc50 4 _ rfl; (try simp only [show (k28).sz = 7 from rfl, Nat.mul_one, Nat.add_zero] at hx50_4); have hf50_4 := hfr50 4; (try simp only [show (k28).sz = 7 from rfl, Nat.mul_one, Nat.add_zero] at hf50_4); clear hcl50 hcc50 hfr50 hM50) | ((with_reducible refine gate_store (t := 2) (p := 93) rfl ?_); refine store_event (t := 2) (p := 93) (v := ?vo_w51) (w1 := (w49.setCell ⟨go30, ((ji27) : Int).toNat * 7 + 4, none⟩ (.int .i64 a3))) ?hg ?ho ?hn ?hr ?_; (case ho => rfl); (case hg => rfl); (case hn => rfl); (case hr => first | (go_simp; done) | (go_simp; rfl)); intro w51 hw; have hg : w49.grownBy w51 (some go30) := (by rw [hw]; exact HP50.2); have hp_ : Kd.R k28 28 w51 w.heap.size (fun k_ => k_ ≠ gb323) (.slice (some ⟨go30, 0, none⟩) x9_2.length co22) y325 := (by rw [hw, Ny325.out]; exact HP50.1); clear HP50; have n0_ := As0 (hp_); have n1_ := As0 (blk_grown (g := gb323) (o := .cells #[.int .i64 ((rd_T28 x9_2 (ji27)).f0), .int .i64 ((rd_T28 x9_2 (ji27)).f1), .int .i64 ((rd_T28 x9_2 (ji27)).f2), .int .i64 ((rd_T28 x9_2 (ji27)).f3), .int .i64 ((rd_T28 x9_2 (ji27)).f4), .int .i64 ((rd_T28 x9_2 (ji27)).f5), .int .i64 ((rd_T28 x9_2 (ji27)).f6)] 28 (0, 0)) (by (with_reducible repeat (first | refine blk_drewN ?_ _ | refine blk_drew ?_ | refine blk_alloc ?_ _)); exact BK323.out) hg (Kd.R_away HO_9.out (fun _ hk => hk))); have n2_ := As0 ((by rw [hw]; exact below_set (HB.out) GB30.out : Below w.heap.size w w51)); clear HO_9; clear BK323; clear HB; have HO_9 := n0_; have BK323 := n1_; have HB := n2_; clear n0_ n1_ n2_; clear hg hw hp_) | ((with_reducible refine gate_callee (f := 9) rfl ?_); refine goesL_ (some 97) rfl rfl Try.func9 (by kernel_rfl) rfl #[.slice A0 l0.length c0, .slice (some ⟨go30, 0, none⟩) y325.length co22] rfl (by (try simp only [List.map_toArray, List.map_cons, List.map_nil]); first | done | (rw [show y325.length = x9_2.length from (Kd.R_reads' HO_9.out).1.symm] <;> rfl) | rfl | (simp only [List.length_drop, List.length_take]; rfl)) ?_; (with_reducible refine (align_Code.calls kj20 _ _ l0 _ _ y325 t326 t327 t328 _ ?side1 ?side2 ?side3 ?side4 A32.out).mono ?_); (case side1 => repeat (first | exact (Kd.C_below HR0.out HB.out) | (with_reducible refine Kd.C_alloc ?_ _) | (with_reducible refine Kd.C_drewN ?_ _) | (with_reducible refine Kd.C_drew ?_))); (case side2 => exact HC0.out); (case side3 => repeat (first | exact (Kd.R_reads' HO_9.out).2.2 | (with_reducible refine Kd.C_alloc ?_ _) | (with_reducible refine Kd.C_drewN ?_ _) | (with_reducible refine Kd.C_drew ?_))); (case side4 => rw [show y325.length = x9_2.length from (Kd.R_reads' HO_9.out).1.symm]; exact (Kd.R_reads' HO_9.out).2.1); rintro e w52 ⟨v329, rfl, ho0, hb⟩; refine ⟨_, rfl, ?_⟩; have n0_ := As0 (Kd.R_below (by (with_reducible repeat (first | apply Kd.R_alloc | apply Kd.R_drewN | apply Kd.R_drew)); exact HO_9.out) hb); have n1_ := As0 (Kd.R_lower ho0 (below_size (by repeat (first | (with_reducible first | exact HB.out | apply below_alloc | apply bdN | apply bd1 | refine below_set ?_ GE323.out) | exact HB.out)))); have n2_ := As0 (blk_below (g := gb323) (o := .cells #[.int .i64 ((rd_T28 x9_2 (ji27)).f0), .int .i64 ((rd_T28 x9_2 (ji27)).f1), .int .i64 ((rd_T28 x9_2 (ji27)).f2), .int .i64 ((rd_T28 x9_2 (ji27)).f3), .int .i64 ((rd_T28 x9_2 (ji27)).f4), .int .i64 ((rd_T28 x9_2 (ji27)).f5), .int .i64 ((rd_T28 x9_2 (ji27)).f6)] 28 (0, 0)) (by (with_reducible repeat (first | refine blk_drewN ?_ _ | refine blk_drew ?_ | refine blk_alloc ?_ _)); exact BK323.out) hb); have n3_ := As0 (below_step (by repeat (first | (with_reducible first | exact HB.out | apply below_alloc | apply bdN | apply bd1 | refine below_set ?_ GE323.out) | exact HB.out)) hb); clear HO_9; clear BK323; clear HB; have HO_9 := n0_; have HO330 := n1_; have BK323 := n2_; have HB := n3_; clear n0_ n1_ n2_ n3_; (try clear hb); (try clear hb2); (try clear hk); (try clear hi); (try clear ho0)))
                have n0_ := As0 (Kd.R_drew HO_9.out)
                have n1_ := As0 (Kd.R_drew HO330.out)
                have n2_ := As0 (blk_drew BK323.out)
                have n3_ := As0 (bd1 HB.out)
                clear HO_9
                clear HO330
                clear BK323
                clear HB
                have HO_9 := n0_
                have HO330 := n1_
                have BK323 := n2_
                have HB := n3_
                clear n0_ n1_ n2_ n3_
                have p331 : 0 ≤ ((ji27) : Int) := of_decide_eq_true (by first | (with_reducible assumption) | assumption)
                have q331 : (ji27) < (y325.length : Int) := (by have h_ : ((ji27) : Int) < ((x9_2.length : Int) : Int) := of_decide_eq_true (by first | (with_reducible assumption) | assumption); first | (have e_ := (Kd.R_reads' HO_9.out).1; omega) | simpa only [Ny324.out, Ny325.out, List.length_set] using h_)
                have ql331 : (((ji27) : Int) < ((x9_2.length : Int) : Int)) = True := eq_true (of_decide_eq_true (by first | (with_reducible assumption) | assumption))
                obtain ⟨ad331, e331, hx331_0, hx331_1, hx331_2, hx331_3, hx331_4, hx331_5, hx331_6⟩ := at_T28 (Kd.R_reads' HO_9.out).2.2 (ji27) p331 q331
                obtain rfl : (⟨go30, 0, none⟩ : Addr) = ad331 := (by injection e331)
                (first | simp only [add_plain] at hx331_0 | simp only [add_at] at hx331_0 | simp only [Addr.add, Nat.zero_add] at hx331_0 | skip)
                (first | simp only [add_plain] at hx331_1 | simp only [add_at] at hx331_1 | simp only [Addr.add, Nat.zero_add] at hx331_1 | skip)
                (first | simp only [add_plain] at hx331_2 | simp only [add_at] at hx331_2 | simp only [Addr.add, Nat.zero_add] at hx331_2 | skip)
                (first | simp only [add_plain] at hx331_3 | simp only [add_at] at hx331_3 | simp only [Addr.add, Nat.zero_add] at hx331_3 | skip)
                (first | simp only [add_plain] at hx331_4 | simp only [add_at] at hx331_4 | simp only [Addr.add, Nat.zero_add] at hx331_4 | skip)
                (first | simp only [add_plain] at hx331_5 | simp only [add_at] at hx331_5 | simp only [Addr.add, Nat.zero_add] at hx331_5 | skip)
                (first | simp only [add_plain] at hx331_6 | simp only [add_at] at hx331_6 | simp only [Addr.add, Nat.zero_add] at hx331_6 | skip)
                replace p331 := eq_true p331
                replace q331 := eq_true q331
                refine start_ (n := 6) (S := fun w' => w'.cell? ⟨gb323, 0, none⟩ = some (.int .i64 ((rd_T28 x9_2 (ji27)).f0)) ∧ w'.cell? ⟨gb323, 1, none⟩ = some (.int .i64 ((rd_T28 x9_2 (ji27)).f1)) ∧ w'.cell? ⟨gb323, 2, none⟩ = some (.int .i64 ((rd_T28 x9_2 (ji27)).f2)) ∧ w'.cell? ⟨gb323, 3, none⟩ = some (.int .i64 ((rd_T28 x9_2 (ji27)).f3)) ∧ w'.cell? ⟨gb323, 4, none⟩ = some (.int .i64 ((rd_T28 x9_2 (ji27)).f4)) ∧ w'.cell? ⟨gb323, 5, none⟩ = some (.int .i64 ((rd_T28 x9_2 (ji27)).f5)) ∧ w'.cell? ⟨gb323, 6, none⟩ = some (.int .i64 ((rd_T28 x9_2 (ji27)).f6)) ∧ w'.cell? ⟨go30, ((ji27)).toNat * 7, none⟩ = some (.int .i64 ((rd_T28 y325 (ji27)).f0)) ∧ w'.cell? ⟨go30, ((ji27)).toNat * 7 + 1, none⟩ = some (.int .i64 ((rd_T28 y325 (ji27)).f1)) ∧ w'.cell? ⟨go30, ((ji27)).toNat * 7 + 2, none⟩ = some (.int .i64 ((rd_T28 y325 (ji27)).f2)) ∧ w'.cell? ⟨go30, ((ji27)).toNat * 7 + 3, none⟩ = some (.int .i64 ((rd_T28 y325 (ji27)).f3)) ∧ w'.cell? ⟨go30, ((ji27)).toNat * 7 + 4, none⟩ = some (.int .i64 ((rd_T28 y325 (ji27)).f4)) ∧ w'.cell? ⟨go30, ((ji27)).toNat * 7 + 5, none⟩ = some (.int .i64 ((rd_T28 y325 (ji27)).f5)) ∧ w'.cell? ⟨go30, ((ji27)).toNat * 7 + 6, none⟩ = some (.int .i64 ((rd_T28 y325 (ji27)).f6))) (ds := []) #[false, false, false, false, false, false] (by kernel_rfl) rfl rfl ⟨(blk_cell BK323.out 0).trans rfl, (blk_cell BK323.out 1).trans rfl, (blk_cell BK323.out 2).trans rfl, (blk_cell BK323.out 3).trans rfl, (blk_cell BK323.out 4).trans rfl, (blk_cell BK323.out 5).trans rfl, (blk_cell BK323.out 6).trans rfl, hx331_0, hx331_1, hx331_2, hx331_3, hx331_4, hx331_5, hx331_6⟩ (fun hHeld => ?_)
                generalize w52.drew = w53 at HO_9 HO330 BK323 HB hx331_0 hx331_1 hx331_2 hx331_3 hx331_4 hx331_5 hx331_6 hHeld ⊢
                refine pure_ (i := 0) (N := some 101) (v := ?_) (a' := ?_) #[true, false, false, false, false, false] rfl rfl (by kernel_rfl) (fun _ _ _ h => h) (Or.inl ⟨by rfl, ?_⟩) ?_ ?_
                rotate_left
                ·intro w'
                 go_simp
                 with_reducible rfl
                rotate_left
                ·simp only [Act.put, sL1, sL2, sL3, i64_w, i32_w]
                 rfl
                refine pure_ (i := 1) (N := some 102) (v := ?_) (a' := ?_) #[true, true, false, false, false, false] rfl rfl (by kernel_rfl) (fun _ _ _ h => h) (Or.inl ⟨by rfl, ?_⟩) ?_ ?_
                rotate_left
                ·intro w'
                 go_simp
                 with_reducible rfl
                rotate_left
                ·simp only [Act.put, sL1, sL2, sL3, i64_w, i32_w]
                 rfl
                refine pure_ (i := 2) (N := some 103) (v := ?_) (a' := ?_) #[true, true, true, false, false, false] rfl rfl (by kernel_rfl) (fun _ _ _ h => h) (Or.inl ⟨by rfl, ?_⟩) ?_ ?_
                rotate_left
                ·intro w'
                 go_simp
                 with_reducible rfl
                rotate_left
                ·simp only [Act.put, sL1, sL2, sL3, i64_w, i32_w]
                 rfl
                refine take_ (i := 3) (N := some 104) (v := ?_) (a' := ?_) #[true, true, true, true, false, false] rfl rfl (by kernel_rfl) (fun _ _ _ h => h) (Or.inl ⟨by rfl, ?_⟩) hHeld ?_ ?_
                rotate_left
                ·rintro w' ⟨s0, s1, s2, s3, s4, s5, s6, s7, s8, s9, s10, s11, s12, s13⟩
                 go_simp
                 with_reducible rfl
                rotate_left
                ·simp only [Act.put, sL1, sL2, sL3, i64_w, i32_w]
                 rfl
                refine take_ (i := 4) (N := some 105) (v := ?_) (a' := ?_) #[true, true, true, true, true, false] rfl rfl (by kernel_rfl) (fun _ _ _ h => h) (Or.inl ⟨by rfl, ?_⟩) hHeld ?_ ?_
                rotate_left
                ·rintro w' ⟨s0, s1, s2, s3, s4, s5, s6, s7, s8, s9, s10, s11, s12, s13⟩
                 go_simp
                 with_reducible rfl
                rotate_left
                ·simp only [Act.put, sL1, sL2, sL3, i64_w, i32_w]
                 rfl
                refine pure_ (i := 5) (N := some 106) (v := ?_) (a' := ?_) #[true, true, true, true, true, true] rfl rfl (by kernel_rfl) (fun _ _ _ h => h) (Or.inl ⟨by rfl, ?_⟩) ?_ ?_
                rotate_left
                ·intro w'
                 go_simp
                 with_reducible rfl
                rotate_left
                ·simp only [Act.put, sL1, sL2, sL3, i64_w, i32_w]
                 rfl
                refine done_ (by kernel_rfl) ?_
                try go_wp2
                go_ret
                exact ⟨by first | rfl | (simp [errW_none, errW_some] <;> rfl) | (simp only [← hji27]; first | rfl | (simp [errW_none, errW_some] <;> rfl)) | (simp [*, errW_none, errW_some] <;> rfl), by repeat (first | (with_reducible first | exact HB.out | apply below_alloc | apply bdN | apply bd1 | refine below_set ?_ GE323.out) | exact HB.out)⟩
               ·rw [if_neg c44] at H
                have c44b0 : (t327 == (ji27)) = false := beq_eq_false_iff_ne.mpr c44
                have c44b1 : (t327 != (ji27)) = true := bne_iff_ne.mpr c44
                by_cases c54 : a2 = 18
                ·rw [if_pos c54] at H
                 have c54b0 : (a2 == 18) = true := beq_iff_eq.mpr c54
                 have c54b1 : (a2 != 18) = false := bne_eq_false_iff_eq.mpr c54
                 clear c54
                 obtain rfl := Option.some.inj H
                 have p322 : 0 ≤ ((ji27) : Int) := of_decide_eq_true (by first | (with_reducible assumption) | assumption)
                 have q322 : (ji27) < (x9_2.length : Int) := of_decide_eq_true (by first | (with_reducible assumption) | assumption)
                 obtain ⟨ad322, e322, hx322_0, hx322_1, hx322_2, hx322_3, hx322_4, hx322_5, hx322_6⟩ := at_T28 (Kd.R_reads' HO_9.out).2.2 (ji27) p322 q322
                 cases e322
                 replace p322 := eq_true p322
                 replace q322 := eq_true q322
                 try go_wp2_with (first | ((with_reducible refine gate_dst (N := 15) rfl ?_); (try (refine gate_guard (by rfl) ?_; dsimp only)); refine box_event ?hg (N := 15) ?hd (cs := #[.int .i64 0, .int .i64 0, .int .i64 0, .int .i64 0, .int .i64 0, .int .i64 0, .int .i64 0]) (t := 28) ?hr ?_; (case hd => rfl); (case hg => rfl); (case hr => first | (go_simp; done) | (go_simp; rfl)); intro gb323 hg w55 hbox hb; have n0_ := As0 (Kd.R_below (Kd.R_elderB (by (with_reducible repeat (first | apply Kd.R_alloc | apply Kd.R_drewN | apply Kd.R_drew)); exact HO_9.out) gb323 (Nat.le_of_eq hg.symm)) hb); have n1_ := As0 (below_step (by repeat (first | (with_reducible first | exact HB.out | apply below_alloc | apply bdN | apply bd1) | exact HB.out)) hb); have n2_ := As0 (hbox); have n3_ := As0 ((by rw [hg]; exact (below_size (by repeat (first | (with_reducible first | exact HB.out | apply below_alloc | apply bdN | apply bd1) | exact HB.out))) : w.heap.size ≤ gb323)); have n4_ := As0 ((by rw [hg]; exact (below_size (by repeat (first | (with_reducible first | exact HB.out | apply below_alloc | apply bdN | apply bd1) | exact HB.out))) : w.heap.size ≤ gb323)); clear HO_9; clear HB; have HO_9 := n0_; have HB := n1_; have BK323 := n2_; have GW323 := n3_; have GE323 := n4_; clear n0_ n1_ n2_ n3_ n4_; clear hb hbox hg; have hcz56_0 : w55.cell? ⟨gb323, 0, none⟩ = some (.int .i64 0) := (blk_cell BK323.out 0).trans rfl; have hcz56_1 : w55.cell? ⟨gb323, 1, none⟩ = some (.int .i64 0) := (blk_cell BK323.out 1).trans rfl; have hcz56_2 : w55.cell? ⟨gb323, 2, none⟩ = some (.int .i64 0) := (blk_cell BK323.out 2).trans rfl; have hcz56_3 : w55.cell? ⟨gb323, 3, none⟩ = some (.int .i64 0) := (blk_cell BK323.out 3).trans rfl; have hcz56_4 : w55.cell? ⟨gb323, 4, none⟩ = some (.int .i64 0) := (blk_cell BK323.out 4).trans rfl; have hcz56_5 : w55.cell? ⟨gb323, 5, none⟩ = some (.int .i64 0) := (blk_cell BK323.out 5).trans rfl; have hcz56_6 : w55.cell? ⟨gb323, 6, none⟩ = some (.int .i64 0) := (blk_cell BK323.out 6).trans rfl; have hfz56_0 := blk_frozen BK323.out 0; have hfz56_1 := blk_frozen BK323.out 1; have hfz56_2 := blk_frozen BK323.out 2; have hfz56_3 := blk_frozen BK323.out 3; have hfz56_4 := blk_frozen BK323.out 4; have hfz56_5 := blk_frozen BK323.out 5; have hfz56_6 := blk_frozen BK323.out 6) | ((with_reducible refine gate_store (t := 28) (p := 15) rfl ?_); refine store_event (t := 28) (p := 15) (v := ?vo_w57) (w1 := (((((((w55.setCell ⟨gb323, 0, none⟩ (.int .i64 ((rd_T28 x9_2 (ji27)).f0))).setCell ⟨gb323, 1, none⟩ (.int .i64 ((rd_T28 x9_2 (ji27)).f1))).setCell ⟨gb323, 2, none⟩ (.int .i64 ((rd_T28 x9_2 (ji27)).f2))).setCell ⟨gb323, 3, none⟩ (.int .i64 ((rd_T28 x9_2 (ji27)).f3))).setCell ⟨gb323, 4, none⟩ (.int .i64 ((rd_T28 x9_2 (ji27)).f4))).setCell ⟨gb323, 5, none⟩ (.int .i64 ((rd_T28 x9_2 (ji27)).f5))).setCell ⟨gb323, 6, none⟩ (.int .i64 ((rd_T28 x9_2 (ji27)).f6)))) ?hg ?ho ?hn ?hr ?_; (case ho => rfl); (case hg => rfl); (case hn => rfl); (case hr => first | (go_simp; done) | (go_simp; rfl)); intro w57 hw; have n0_ : Aside0 (Kd.R k28 28 w57 w.heap.size (fun k_ => k_ ≠ gb323) (.slice (some ad322) x9_2.length co22) x9_2) := ⟨(by rw [hw]; exact (by (with_reducible repeat (first | apply Kd.R_alloc | apply Kd.R_drewN | apply Kd.R_drew)); exact Kd.R_mono (Kd.R_far (p := ⟨gb323, 6, none⟩) (Kd.R_far (p := ⟨gb323, 5, none⟩) (Kd.R_far (p := ⟨gb323, 4, none⟩) (Kd.R_far (p := ⟨gb323, 3, none⟩) (Kd.R_far (p := ⟨gb323, 2, none⟩) (Kd.R_far (p := ⟨gb323, 1, none⟩) (Kd.R_far (p := ⟨gb323, 0, none⟩) (Kd.R_mono HO_9.out (fun k_ hk => (⟨hk, hk.2⟩ : _ ∧ k_ ≠ gb323))) (fun _ hk => hk.2) (.int .i64 ((rd_T28 x9_2 (ji27)).f0))) (fun _ hk => hk.2) (.int .i64 ((rd_T28 x9_2 (ji27)).f1))) (fun _ hk => hk.2) (.int .i64 ((rd_T28 x9_2 (ji27)).f2))) (fun _ hk => hk.2) (.int .i64 ((rd_T28 x9_2 (ji27)).f3))) (fun _ hk => hk.2) (.int .i64 ((rd_T28 x9_2 (ji27)).f4))) (fun _ hk => hk.2) (.int .i64 ((rd_T28 x9_2 (ji27)).f5))) (fun _ hk => hk.2) (.int .i64 ((rd_T28 x9_2 (ji27)).f6))) (fun _ hk => hk.1.2)))⟩; have n1_ : Aside0 (w57.heap[gb323]? = some (.cells #[.int .i64 ((rd_T28 x9_2 (ji27)).f0), .int .i64 ((rd_T28 x9_2 (ji27)).f1), .int .i64 ((rd_T28 x9_2 (ji27)).f2), .int .i64 ((rd_T28 x9_2 (ji27)).f3), .int .i64 ((rd_T28 x9_2 (ji27)).f4), .int .i64 ((rd_T28 x9_2 (ji27)).f5), .int .i64 ((rd_T28 x9_2 (ji27)).f6)] 28 (0, 0))) := ⟨(by rw [hw]; exact (by (with_reducible repeat (first | refine blk_drewN ?_ _ | refine blk_drew ?_ | refine blk_alloc ?_ _)); refine blk_put (cs := #[.int .i64 ((rd_T28 x9_2 (ji27)).f0), .int .i64 ((rd_T28 x9_2 (ji27)).f1), .int .i64 ((rd_T28 x9_2 (ji27)).f2), .int .i64 ((rd_T28 x9_2 (ji27)).f3), .int .i64 ((rd_T28 x9_2 (ji27)).f4), .int .i64 ((rd_T28 x9_2 (ji27)).f5), .int .i64 0]) ?_ 6 _ rfl; (with_reducible repeat (first | refine blk_drewN ?_ _ | refine blk_drew ?_ | refine blk_alloc ?_ _)); refine blk_put (cs := #[.int .i64 ((rd_T28 x9_2 (ji27)).f0), .int .i64 ((rd_T28 x9_2 (ji27)).f1), .int .i64 ((rd_T28 x9_2 (ji27)).f2), .int .i64 ((rd_T28 x9_2 (ji27)).f3), .int .i64 ((rd_T28 x9_2 (ji27)).f4), .int .i64 0, .int .i64 0]) ?_ 5 _ rfl; (with_reducible repeat (first | refine blk_drewN ?_ _ | refine blk_drew ?_ | refine blk_alloc ?_ _)); refine blk_put (cs := #[.int .i64 ((rd_T28 x9_2 (ji27)).f0), .int .i64 ((rd_T28 x9_2 (ji27)).f1), .int .i64 ((rd_T28 x9_2 (ji27)).f2), .int .i64 ((rd_T28 x9_2 (ji27)).f3), .int .i64 0, .int .i64 0, .int .i64 0]) ?_ 4 _ rfl; (with_reducible repeat (first | refine blk_drewN ?_ _ | refine blk_drew ?_ | refine blk_alloc ?_ _)); refine blk_put (cs := #[.int .i64 ((rd_T28 x9_2 (ji27)).f0), .int .i64 ((rd_T28 x9_2 (ji27)).f1), .int .i64 ((rd_T28 x9_2 (ji27)).f2), .int .i64 0, .int .i64 0, .int .i64 0, .int .i64 0]) ?_ 3 _ rfl; (with_reducible repeat (first | refine blk_drewN ?_ _ | refine blk_drew ?_ | refine blk_alloc ?_ _)); refine blk_put (cs := #[.int .i64 ((rd_T28 x9_2 (ji27)).f0), .int .i64 ((rd_T28 x9_2 (ji27)).f1), .int .i64 0, .int .i64 0, .int .i64 0, .int .i64 0, .int .i64 0]) ?_ 2 _ rfl; (with_reducible repeat (first | refine blk_drewN ?_ _ | refine blk_drew ?_ | refine blk_alloc ?_ _)); refine blk_put (cs := #[.int .i64 ((rd_T28 x9_2 (ji27)).f0), .int .i64 0, .int .i64 0, .int .i64 0, .int .i64 0, .int .i64 0, .int .i64 0]) ?_ 1 _ rfl; (with_reducible repeat (first | refine blk_drewN ?_ _ | refine blk_drew ?_ | refine blk_alloc ?_ _)); refine blk_put (cs := #[.int .i64 0, .int .i64 0, .int .i64 0, .int .i64 0, .int .i64 0, .int .i64 0, .int .i64 0]) ?_ 0 _ rfl; (with_reducible repeat (first | refine blk_drewN ?_ _ | refine blk_drew ?_ | refine blk_alloc ?_ _)); exact BK323.out))⟩; have n2_ : Aside0 (Below w.heap.size w w57) := ⟨(by rw [hw]; exact (by repeat (first | (with_reducible first | exact HB.out | apply below_alloc | apply bdN | apply bd1 | refine below_set ?_ GE323.out) | exact HB.out)))⟩; clear hw; clear HO_9; clear BK323; clear HB; have HO_9 := n0_; have BK323 := n1_; have HB := n2_; clear n0_ n1_ n2_; have p30 : 0 ≤ ((ji27) : Int) := of_decide_eq_true (by first | (with_reducible assumption) | assumption); have q30 : ((ji27) : Int) < ((x9_2.length : Int) : Int) := of_decide_eq_true (by first | (with_reducible assumption) | assumption); obtain ⟨go30, co30, eo30, gb30, gl30, cl30, HG30⟩ := Kd.R_form HO_9.out (by omega); (first | cases eo30 | (injection eo30 with ea_ en_ ec_; (first | subst ea_ | (injection ea_ with ea_; subst ea_)); subst ec_; clear en_)); have GB30 := As0 gb30; have GG30 := As0 HG30; clear gb30 gl30 HG30; (first | simp only [add_plain] at hx322_0 | skip); (first | simp only [add_plain] at hx322_1 | skip); (first | simp only [add_plain] at hx322_2 | skip); (first | simp only [add_plain] at hx322_3 | skip); (first | simp only [add_plain] at hx322_4 | skip); (first | simp only [add_plain] at hx322_5 | skip); (first | simp only [add_plain] at hx322_6 | skip); obtain ⟨ce30, hcl30, hM30, hcc30, hfr30⟩ := Kd.R_elem HO_9.out z28 ((ji27) : Int) p30 q30; obtain rfl := k28_openM hM30; have hx30_0 : w57.cell? ⟨go30, ((ji27) : Int).toNat * 7, none⟩ = some (.int .i64 ((rd_T28 x9_2 (ji27)).f0)) := hcc30 0 _ rfl; have hx30_1 : w57.cell? ⟨go30, ((ji27) : Int).toNat * 7 + 1, none⟩ = some (.int .i64 ((rd_T28 x9_2 (ji27)).f1)) := hcc30 1 _ rfl; have hx30_2 : w57.cell? ⟨go30, ((ji27) : Int).toNat * 7 + 2, none⟩ = some (.int .i64 ((rd_T28 x9_2 (ji27)).f2)) := hcc30 2 _ rfl; have hx30_3 : w57.cell? ⟨go30, ((ji27) : Int).toNat * 7 + 3, none⟩ = some (.int .i64 ((rd_T28 x9_2 (ji27)).f3)) := hcc30 3 _ rfl; have hx30_4 : w57.cell? ⟨go30, ((ji27) : Int).toNat * 7 + 4, none⟩ = some (.int .i64 ((rd_T28 x9_2 (ji27)).f4)) := hcc30 4 _ rfl; have hx30_5 : w57.cell? ⟨go30, ((ji27) : Int).toNat * 7 + 5, none⟩ = some (.int .i64 ((rd_T28 x9_2 (ji27)).f5)) := hcc30 5 _ rfl; have hx30_6 : w57.cell? ⟨go30, ((ji27) : Int).toNat * 7 + 6, none⟩ = some (.int .i64 ((rd_T28 x9_2 (ji27)).f6)) := hcc30 6 _ rfl; have hf30_0 : w57.frozen? ⟨go30, ((ji27) : Int).toNat * 7, none⟩ = false := hfr30 0; have hf30_1 : w57.frozen? ⟨go30, ((ji27) : Int).toNat * 7 + 1, none⟩ = false := hfr30 1; have hf30_2 : w57.frozen? ⟨go30, ((ji27) : Int).toNat * 7 + 2, none⟩ = false := hfr30 2; have hf30_3 : w57.frozen? ⟨go30, ((ji27) : Int).toNat * 7 + 3, none⟩ = false := hfr30 3; have hf30_4 : w57.frozen? ⟨go30, ((ji27) : Int).toNat * 7 + 4, none⟩ = false := hfr30 4; have hf30_5 : w57.frozen? ⟨go30, ((ji27) : Int).toNat * 7 + 5, none⟩ = false := hfr30 5; have hf30_6 : w57.frozen? ⟨go30, ((ji27) : Int).toNat * 7 + 6, none⟩ = false := hfr30 6; clear hcl30 hcc30 hfr30 hM30; replace p30 := eq_true p30; replace q30 := eq_true q30; have HX58 := As0 (show Kd.R k28 28 w57 w.heap.size (fun k_ => k_ ≠ gb323) (.slice (some ⟨go30, 0, none⟩) x9_2.length co22) x9_2 from (by (with_reducible repeat (first | apply Kd.R_alloc | apply Kd.R_drewN | apply Kd.R_drew)); exact HO_9.out)); obtain ⟨ce58, hcl58, hM58, hcc58, hfr58⟩ := Kd.R_elem HX58.out z28 ((ji27) : Int) (of_decide_eq_true (by first | (with_reducible assumption) | assumption)) (by have h_ : ((ji27) : Int) < ((x9_2.length : Int) : Int) := of_decide_eq_true (by first | (with_reducible assumption) | assumption); first | exact h_ | (have e_ := (Kd.R_reads' HO_9.out).1; omega) | simpa using h_); obtain rfl := k28_openM hM58; have HP58 := Kd.R_seg HX58.out ((ji27) : Int) (of_decide_eq_true (by first | (with_reducible assumption) | assumption)) (by have h_ : ((ji27) : Int) < ((x9_2.length : Int) : Int) := of_decide_eq_true (by first | (with_reducible assumption) | assumption); first | exact h_ | (have e_ := (Kd.R_reads' HO_9.out).1; omega) | simpa using h_) (seg := [.int .i64 a2]) (j := 0) hcl58 hcc58 (show 1 ≤ 7 from by decide) (x' := (⟨a2, (rd_T28 x9_2 (ji27)).f1, (rd_T28 x9_2 (ji27)).f2, (rd_T28 x9_2 (ji27)).f3, (rd_T28 x9_2 (ji27)).f4, (rd_T28 x9_2 (ji27)).f5, (rd_T28 x9_2 (ji27)).f6⟩ : S28)) (k28_mkM _ _ _ (⟨a2, (rd_T28 x9_2 (ji27)).f1, (rd_T28 x9_2 (ji27)).f2, (rd_T28 x9_2 (ji27)).f3, (rd_T28 x9_2 (ji27)).f4, (rd_T28 x9_2 (ji27)).f5, (rd_T28 x9_2 (ji27)).f6⟩ : S28) ) (fun _ hk => hk); have hx58_0 := hcc58 0 _ rfl; (try simp only [show (k28).sz = 7 from rfl, Nat.mul_one, Nat.add_zero] at hx58_0); have hf58_0 := hfr58 0; (try simp only [show (k28).sz = 7 from rfl, Nat.mul_one, Nat.add_zero] at hf58_0); clear hcl58 hcc58 hfr58 hM58) | ((with_reducible refine gate_store (t := 3) (p := 88) rfl ?_); refine store_event (t := 3) (p := 88) (v := ?vo_w59) (w1 := (w57.setCell ⟨go30, ((ji27) : Int).toNat * 7, none⟩ (.int .i64 a2))) ?hg ?ho ?hn ?hr ?_; (case ho => rfl); (case hg => rfl); (case hn => rfl); (case hr => first | (go_simp; done) | (go_simp; rfl)); intro w59 hw; have hg : w57.grownBy w59 (some go30) := (by rw [hw]; exact HP58.2); have hp_ : Kd.R k28 28 w59 w.heap.size (fun k_ => k_ ≠ gb323) (.slice (some ⟨go30, 0, none⟩) x9_2.length co22) y324 := (by rw [hw, Ny324.out]; exact HP58.1); clear HP58; have n0_ := As0 (hp_); have n1_ := As0 (blk_grown (g := gb323) (o := .cells #[.int .i64 ((rd_T28 x9_2 (ji27)).f0), .int .i64 ((rd_T28 x9_2 (ji27)).f1), .int .i64 ((rd_T28 x9_2 (ji27)).f2), .int .i64 ((rd_T28 x9_2 (ji27)).f3), .int .i64 ((rd_T28 x9_2 (ji27)).f4), .int .i64 ((rd_T28 x9_2 (ji27)).f5), .int .i64 ((rd_T28 x9_2 (ji27)).f6)] 28 (0, 0)) (by (with_reducible repeat (first | refine blk_drewN ?_ _ | refine blk_drew ?_ | refine blk_alloc ?_ _)); exact BK323.out) hg (Kd.R_away HO_9.out (fun _ hk => hk))); have n2_ := As0 ((by rw [hw]; exact below_set (HB.out) GB30.out : Below w.heap.size w w59)); clear HO_9; clear BK323; clear HB; have HO_9 := n0_; have BK323 := n1_; have HB := n2_; clear n0_ n1_ n2_; clear hg hw hp_; have p31 : 0 ≤ ((ji27) : Int) := of_decide_eq_true (by first | (with_reducible assumption) | assumption); have q31 : ((ji27) : Int) < ((x9_2.length : Int) : Int) := of_decide_eq_true (by first | (with_reducible assumption) | assumption); obtain ⟨ce31, hcl31, hM31, hcc31, hfr31⟩ := Kd.R_elem HO_9.out z28 ((ji27) : Int) p31 q31; obtain rfl := k28_openM hM31; have hx31_0 : w59.cell? ⟨go30, ((ji27) : Int).toNat * 7, none⟩ = some (.int .i64 ((rd_T28 y324 (ji27)).f0)) := hcc31 0 _ rfl; have hx31_1 : w59.cell? ⟨go30, ((ji27) : Int).toNat * 7 + 1, none⟩ = some (.int .i64 ((rd_T28 y324 (ji27)).f1)) := hcc31 1 _ rfl; have hx31_2 : w59.cell? ⟨go30, ((ji27) : Int).toNat * 7 + 2, none⟩ = some (.int .i64 ((rd_T28 y324 (ji27)).f2)) := hcc31 2 _ rfl; have hx31_3 : w59.cell? ⟨go30, ((ji27) : Int).toNat * 7 + 3, none⟩ = some (.int .i64 ((rd_T28 y324 (ji27)).f3)) := hcc31 3 _ rfl; have hx31_4 : w59.cell? ⟨go30, ((ji27) : Int).toNat * 7 + 4, none⟩ = some (.int .i64 ((rd_T28 y324 (ji27)).f4)) := hcc31 4 _ rfl; have hx31_5 : w59.cell? ⟨go30, ((ji27) : Int).toNat * 7 + 5, none⟩ = some (.int .i64 ((rd_T28 y324 (ji27)).f5)) := hcc31 5 _ rfl; have hx31_6 : w59.cell? ⟨go30, ((ji27) : Int).toNat * 7 + 6, none⟩ = some (.int .i64 ((rd_T28 y324 (ji27)).f6)) := hcc31 6 _ rfl; have hf31_0 : w59.frozen? ⟨go30, ((ji27) : Int).toNat * 7, none⟩ = false := hfr31 0; have hf31_1 : w59.frozen? ⟨go30, ((ji27) : Int).toNat * 7 + 1, none⟩ = false := hfr31 1; have hf31_2 : w59.frozen? ⟨go30, ((ji27) : Int).toNat * 7 + 2, none⟩ = false := hfr31 2; have hf31_3 : w59.frozen? ⟨go30, ((ji27) : Int).toNat * 7 + 3, none⟩ = false := hfr31 3; have hf31_4 : w59.frozen? ⟨go30, ((ji27) : Int).toNat * 7 + 4, none⟩ = false := hfr31 4; have hf31_5 : w59.frozen? ⟨go30, ((ji27) : Int).toNat * 7 + 5, none⟩ = false := hfr31 5; have hf31_6 : w59.frozen? ⟨go30, ((ji27) : Int).toNat * 7 + 6, none⟩ = false := hfr31 6; clear hcl31 hcc31 hfr31 hM31; replace p31 := eq_true p31; replace q31 := eq_true q31; have HX60 := As0 (show Kd.R k28 28 w59 w.heap.size (fun k_ => k_ ≠ gb323) (.slice (some ⟨go30, 0, none⟩) x9_2.length co22) y324 from (by (with_reducible repeat (first | apply Kd.R_alloc | apply Kd.R_drewN | apply Kd.R_drew)); exact HO_9.out)); obtain ⟨ce60, hcl60, hM60, hcc60, hfr60⟩ := Kd.R_elem HX60.out z28 ((ji27) : Int) (of_decide_eq_true (by first | (with_reducible assumption) | assumption)) (by have h_ : ((ji27) : Int) < ((x9_2.length : Int) : Int) := of_decide_eq_true (by first | (with_reducible assumption) | assumption); first | exact h_ | (have e_ := (Kd.R_reads' HO_9.out).1; omega) | simpa using h_); obtain rfl := k28_openM hM60; have HP60 := Kd.R_seg HX60.out ((ji27) : Int) (of_decide_eq_true (by first | (with_reducible assumption) | assumption)) (by have h_ : ((ji27) : Int) < ((x9_2.length : Int) : Int) := of_decide_eq_true (by first | (with_reducible assumption) | assumption); first | exact h_ | (have e_ := (Kd.R_reads' HO_9.out).1; omega) | simpa using h_) (seg := [.int .i64 a3]) (j := 4) hcl60 hcc60 (show 5 ≤ 7 from by decide) (x' := (⟨(rd_T28 y324 (ji27)).f0, (rd_T28 y324 (ji27)).f1, (rd_T28 y324 (ji27)).f2, (rd_T28 y324 (ji27)).f3, a3, (rd_T28 y324 (ji27)).f5, (rd_T28 y324 (ji27)).f6⟩ : S28)) (k28_mkM _ _ _ (⟨(rd_T28 y324 (ji27)).f0, (rd_T28 y324 (ji27)).f1, (rd_T28 y324 (ji27)).f2, (rd_T28 y324 (ji27)).f3, a3, (rd_T28 y324 (ji27)).f5, (rd_T28 y324 (ji27)).f6⟩ : S28) ) (fun _ hk => hk); have hx60_4 := hcc60 4 _ rfl; (try simp only [show (k28).sz = 7 from rfl, Nat.mul_one, Nat.add_zero] at hx60_4); have hf60_4 := hfr60 4; (try simp only [show (k28).sz = 7 from rfl, Nat.mul_one, Nat.add_zero] at hf60_4); clear hcl60 hcc60 hfr60 hM60) | ((with_reducible refine gate_store (t := 2) (p := 93) rfl ?_); refine store_event (t := 2) (p := 93) (v := ?vo_w61) (w1 := (w59.setCell ⟨go30, ((ji27) : Int).toNat * 7 + 4, none⟩ (.int .i64 a3))) ?hg ?ho ?hn ?hr ?_; (case ho => rfl); (case hg => rfl); (case hn => rfl); (case hr => first | (go_simp; done) | (go_simp; rfl)); intro w61 hw; have hg : w59.grownBy w61 (some go30) := (by rw [hw]; exact HP60.2); have hp_ : Kd.R k28 28 w61 w.heap.size (fun k_ => k_ ≠ gb323) (.slice (some ⟨go30, 0, none⟩) x9_2.length co22) y325 := (by rw [hw, Ny325.out]; exact HP60.1); clear HP60; have n0_ := As0 (hp_); have n1_ := As0 (blk_grown (g := gb323) (o := .cells #[.int .i64 ((rd_T28 x9_2 (ji27)).f0), .int .i64 ((rd_T28 x9_2 (ji27)).f1), .int .i64 ((rd_T28 x9_2 (ji27)).f2), .int .i64 ((rd_T28 x9_2 (ji27)).f3), .int .i64 ((rd_T28 x9_2 (ji27)).f4), .int .i64 ((rd_T28 x9_2 (ji27)).f5), .int .i64 ((rd_T28 x9_2 (ji27)).f6)] 28 (0, 0)) (by (with_reducible repeat (first | refine blk_drewN ?_ _ | refine blk_drew ?_ | refine blk_alloc ?_ _)); exact BK323.out) hg (Kd.R_away HO_9.out (fun _ hk => hk))); have n2_ := As0 ((by rw [hw]; exact below_set (HB.out) GB30.out : Below w.heap.size w w61)); clear HO_9; clear BK323; clear HB; have HO_9 := n0_; have BK323 := n1_; have HB := n2_; clear n0_ n1_ n2_; clear hg hw hp_) | ((with_reducible refine gate_callee (f := 9) rfl ?_); refine goesL_ (some 97) rfl rfl Try.func9 (by kernel_rfl) rfl #[.slice A0 l0.length c0, .slice (some ⟨go30, 0, none⟩) y325.length co22] rfl (by (try simp only [List.map_toArray, List.map_cons, List.map_nil]); first | done | (rw [show y325.length = x9_2.length from (Kd.R_reads' HO_9.out).1.symm] <;> rfl) | rfl | (simp only [List.length_drop, List.length_take]; rfl)) ?_; (with_reducible refine (align_Code.calls kj20 _ _ l0 _ _ y325 t326 t327 t328 _ ?side1 ?side2 ?side3 ?side4 A32.out).mono ?_); (case side1 => repeat (first | exact (Kd.C_below HR0.out HB.out) | (with_reducible refine Kd.C_alloc ?_ _) | (with_reducible refine Kd.C_drewN ?_ _) | (with_reducible refine Kd.C_drew ?_))); (case side2 => exact HC0.out); (case side3 => repeat (first | exact (Kd.R_reads' HO_9.out).2.2 | (with_reducible refine Kd.C_alloc ?_ _) | (with_reducible refine Kd.C_drewN ?_ _) | (with_reducible refine Kd.C_drew ?_))); (case side4 => rw [show y325.length = x9_2.length from (Kd.R_reads' HO_9.out).1.symm]; exact (Kd.R_reads' HO_9.out).2.1); rintro e w62 ⟨v329, rfl, ho0, hb⟩; refine ⟨_, rfl, ?_⟩; have n0_ := As0 (Kd.R_below (by (with_reducible repeat (first | apply Kd.R_alloc | apply Kd.R_drewN | apply Kd.R_drew)); exact HO_9.out) hb); have n1_ := As0 (Kd.R_lower ho0 (below_size (by repeat (first | (with_reducible first | exact HB.out | apply below_alloc | apply bdN | apply bd1 | refine below_set ?_ GE323.out) | exact HB.out)))); have n2_ := As0 (blk_below (g := gb323) (o := .cells #[.int .i64 ((rd_T28 x9_2 (ji27)).f0), .int .i64 ((rd_T28 x9_2 (ji27)).f1), .int .i64 ((rd_T28 x9_2 (ji27)).f2), .int .i64 ((rd_T28 x9_2 (ji27)).f3), .int .i64 ((rd_T28 x9_2 (ji27)).f4), .int .i64 ((rd_T28 x9_2 (ji27)).f5), .int .i64 ((rd_T28 x9_2 (ji27)).f6)] 28 (0, 0)) (by (with_reducible repeat (first | refine blk_drewN ?_ _ | refine blk_drew ?_ | refine blk_alloc ?_ _)); exact BK323.out) hb); have n3_ := As0 (below_step (by repeat (first | (with_reducible first | exact HB.out | apply below_alloc | apply bdN | apply bd1 | refine below_set ?_ GE323.out) | exact HB.out)) hb); clear HO_9; clear BK323; clear HB; have HO_9 := n0_; have HO330 := n1_; have BK323 := n2_; have HB := n3_; clear n0_ n1_ n2_ n3_; (try clear hb); (try clear hb2); (try clear hk); (try clear hi); (try clear ho0)))
                 have n0_ := As0 (Kd.R_drew HO_9.out)
                 have n1_ := As0 (Kd.R_drew HO330.out)
                 have n2_ := As0 (blk_drew BK323.out)
                 have n3_ := As0 (bd1 HB.out)
                 clear HO_9
                 clear HO330
                 clear BK323
                 clear HB
                 have HO_9 := n0_
                 have HO330 := n1_
                 have BK323 := n2_
                 have HB := n3_
                 clear n0_ n1_ n2_ n3_
                 have p331 : 0 ≤ ((ji27) : Int) := of_decide_eq_true (by first | (with_reducible assumption) | assumption)
                 have q331 : (ji27) < (y325.length : Int) := (by have h_ : ((ji27) : Int) < ((x9_2.length : Int) : Int) := of_decide_eq_true (by first | (with_reducible assumption) | assumption); first | (have e_ := (Kd.R_reads' HO_9.out).1; omega) | simpa only [Ny324.out, Ny325.out, List.length_set] using h_)
                 have ql331 : (((ji27) : Int) < ((x9_2.length : Int) : Int)) = True := eq_true (of_decide_eq_true (by first | (with_reducible assumption) | assumption))
                 obtain ⟨ad331, e331, hx331_0, hx331_1, hx331_2, hx331_3, hx331_4, hx331_5, hx331_6⟩ := at_T28 (Kd.R_reads' HO_9.out).2.2 (ji27) p331 q331
                 obtain rfl : (⟨go30, 0, none⟩ : Addr) = ad331 := (by injection e331)
                 (first | simp only [add_plain] at hx331_0 | simp only [add_at] at hx331_0 | simp only [Addr.add, Nat.zero_add] at hx331_0 | skip)
                 (first | simp only [add_plain] at hx331_1 | simp only [add_at] at hx331_1 | simp only [Addr.add, Nat.zero_add] at hx331_1 | skip)
                 (first | simp only [add_plain] at hx331_2 | simp only [add_at] at hx331_2 | simp only [Addr.add, Nat.zero_add] at hx331_2 | skip)
                 (first | simp only [add_plain] at hx331_3 | simp only [add_at] at hx331_3 | simp only [Addr.add, Nat.zero_add] at hx331_3 | skip)
                 (first | simp only [add_plain] at hx331_4 | simp only [add_at] at hx331_4 | simp only [Addr.add, Nat.zero_add] at hx331_4 | skip)
                 (first | simp only [add_plain] at hx331_5 | simp only [add_at] at hx331_5 | simp only [Addr.add, Nat.zero_add] at hx331_5 | skip)
                 (first | simp only [add_plain] at hx331_6 | simp only [add_at] at hx331_6 | simp only [Addr.add, Nat.zero_add] at hx331_6 | skip)
                 replace p331 := eq_true p331
                 replace q331 := eq_true q331
                 refine start_ (n := 6) (S := fun w' => w'.cell? ⟨gb323, 0, none⟩ = some (.int .i64 ((rd_T28 x9_2 (ji27)).f0)) ∧ w'.cell? ⟨gb323, 1, none⟩ = some (.int .i64 ((rd_T28 x9_2 (ji27)).f1)) ∧ w'.cell? ⟨gb323, 2, none⟩ = some (.int .i64 ((rd_T28 x9_2 (ji27)).f2)) ∧ w'.cell? ⟨gb323, 3, none⟩ = some (.int .i64 ((rd_T28 x9_2 (ji27)).f3)) ∧ w'.cell? ⟨gb323, 4, none⟩ = some (.int .i64 ((rd_T28 x9_2 (ji27)).f4)) ∧ w'.cell? ⟨gb323, 5, none⟩ = some (.int .i64 ((rd_T28 x9_2 (ji27)).f5)) ∧ w'.cell? ⟨gb323, 6, none⟩ = some (.int .i64 ((rd_T28 x9_2 (ji27)).f6)) ∧ w'.cell? ⟨go30, ((ji27)).toNat * 7, none⟩ = some (.int .i64 ((rd_T28 y325 (ji27)).f0)) ∧ w'.cell? ⟨go30, ((ji27)).toNat * 7 + 1, none⟩ = some (.int .i64 ((rd_T28 y325 (ji27)).f1)) ∧ w'.cell? ⟨go30, ((ji27)).toNat * 7 + 2, none⟩ = some (.int .i64 ((rd_T28 y325 (ji27)).f2)) ∧ w'.cell? ⟨go30, ((ji27)).toNat * 7 + 3, none⟩ = some (.int .i64 ((rd_T28 y325 (ji27)).f3)) ∧ w'.cell? ⟨go30, ((ji27)).toNat * 7 + 4, none⟩ = some (.int .i64 ((rd_T28 y325 (ji27)).f4)) ∧ w'.cell? ⟨go30, ((ji27)).toNat * 7 + 5, none⟩ = some (.int .i64 ((rd_T28 y325 (ji27)).f5)) ∧ w'.cell? ⟨go30, ((ji27)).toNat * 7 + 6, none⟩ = some (.int .i64 ((rd_T28 y325 (ji27)).f6))) (ds := []) #[false, false, false, false, false, false] (by kernel_rfl) rfl rfl ⟨(blk_cell BK323.out 0).trans rfl, (blk_cell BK323.out 1).trans rfl, (blk_cell BK323.out 2).trans rfl, (blk_cell BK323.out 3).trans rfl, (blk_cell BK323.out 4).trans rfl, (blk_cell BK323.out 5).trans rfl, (blk_cell BK323.out 6).trans rfl, hx331_0, hx331_1, hx331_2, hx331_3, hx331_4, hx331_5, hx331_6⟩ (fun hHeld => ?_)
                 generalize w62.drew = w63 at HO_9 HO330 BK323 HB hx331_0 hx331_1 hx331_2 hx331_3 hx331_4 hx331_5 hx331_6 hHeld ⊢
                 refine pure_ (i := 0) (N := some 101) (v := ?_) (a' := ?_) #[true, false, false, false, false, false] rfl rfl (by kernel_rfl) (fun _ _ _ h => h) (Or.inl ⟨by rfl, ?_⟩) ?_ ?_
                 rotate_left
                 ·intro w'
                  go_simp
                  with_reducible rfl
                 rotate_left
                 ·simp only [Act.put, sL1, sL2, sL3, i64_w, i32_w]
                  rfl
                 refine pure_ (i := 1) (N := some 102) (v := ?_) (a' := ?_) #[true, true, false, false, false, false] rfl rfl (by kernel_rfl) (fun _ _ _ h => h) (Or.inl ⟨by rfl, ?_⟩) ?_ ?_
                 rotate_left
                 ·intro w'
                  go_simp
                  with_reducible rfl
                 rotate_left
                 ·simp only [Act.put, sL1, sL2, sL3, i64_w, i32_w]
                  rfl
                 refine pure_ (i := 2) (N := some 103) (v := ?_) (a' := ?_) #[true, true, true, false, false, false] rfl rfl (by kernel_rfl) (fun _ _ _ h => h) (Or.inl ⟨by rfl, ?_⟩) ?_ ?_
                 rotate_left
                 ·intro w'
                  go_simp
                  with_reducible rfl
                 rotate_left
                 ·simp only [Act.put, sL1, sL2, sL3, i64_w, i32_w]
                  rfl
                 refine take_ (i := 3) (N := some 104) (v := ?_) (a' := ?_) #[true, true, true, true, false, false] rfl rfl (by kernel_rfl) (fun _ _ _ h => h) (Or.inl ⟨by rfl, ?_⟩) hHeld ?_ ?_
                 rotate_left
                 ·rintro w' ⟨s0, s1, s2, s3, s4, s5, s6, s7, s8, s9, s10, s11, s12, s13⟩
                  go_simp
                  with_reducible rfl
                 rotate_left
                 ·simp only [Act.put, sL1, sL2, sL3, i64_w, i32_w]
                  rfl
                 refine take_ (i := 4) (N := some 105) (v := ?_) (a' := ?_) #[true, true, true, true, true, false] rfl rfl (by kernel_rfl) (fun _ _ _ h => h) (Or.inl ⟨by rfl, ?_⟩) hHeld ?_ ?_
                 rotate_left
                 ·rintro w' ⟨s0, s1, s2, s3, s4, s5, s6, s7, s8, s9, s10, s11, s12, s13⟩
                  go_simp
                  with_reducible rfl
                 rotate_left
                 ·simp only [Act.put, sL1, sL2, sL3, i64_w, i32_w]
                  rfl
                 refine pure_ (i := 5) (N := some 106) (v := ?_) (a' := ?_) #[true, true, true, true, true, true] rfl rfl (by kernel_rfl) (fun _ _ _ h => h) (Or.inl ⟨by rfl, ?_⟩) ?_ ?_
                 rotate_left
                 ·intro w'
                  go_simp
                  with_reducible rfl
                 rotate_left
                 ·simp only [Act.put, sL1, sL2, sL3, i64_w, i32_w]
                  rfl
                 refine done_ (by kernel_rfl) ?_
                 try go_wp2
                 go_ret
                 exact ⟨by first | rfl | (simp [errW_none, errW_some] <;> rfl) | (simp only [← hji27]; first | rfl | (simp [errW_none, errW_some] <;> rfl)) | (simp [*, errW_none, errW_some] <;> rfl), by repeat (first | (with_reducible first | exact HB.out | apply below_alloc | apply bdN | apply bd1 | refine below_set ?_ GE323.out) | exact HB.out)⟩
                ·rw [if_neg c54] at H
                 have c54b0 : (a2 == 18) = false := beq_eq_false_iff_ne.mpr c54
                 have c54b1 : (a2 != 18) = true := bne_iff_ne.mpr c54
                 obtain rfl := Option.some.inj H
                 have p322 : 0 ≤ ((ji27) : Int) := of_decide_eq_true (by first | (with_reducible assumption) | assumption)
                 have q322 : (ji27) < (x9_2.length : Int) := of_decide_eq_true (by first | (with_reducible assumption) | assumption)
                 obtain ⟨ad322, e322, hx322_0, hx322_1, hx322_2, hx322_3, hx322_4, hx322_5, hx322_6⟩ := at_T28 (Kd.R_reads' HO_9.out).2.2 (ji27) p322 q322
                 cases e322
                 replace p322 := eq_true p322
                 replace q322 := eq_true q322
                 try go_wp2_with (first | ((with_reducible refine gate_dst (N := 15) rfl ?_); (try (refine gate_guard (by rfl) ?_; dsimp only)); refine box_event ?hg (N := 15) ?hd (cs := #[.int .i64 0, .int .i64 0, .int .i64 0, .int .i64 0, .int .i64 0, .int .i64 0, .int .i64 0]) (t := 28) ?hr ?_; (case hd => rfl); (case hg => rfl); (case hr => first | (go_simp; done) | (go_simp; rfl)); intro gb323 hg w64 hbox hb; have n0_ := As0 (Kd.R_below (Kd.R_elderB (by (with_reducible repeat (first | apply Kd.R_alloc | apply Kd.R_drewN | apply Kd.R_drew)); exact HO_9.out) gb323 (Nat.le_of_eq hg.symm)) hb); have n1_ := As0 (below_step (by repeat (first | (with_reducible first | exact HB.out | apply below_alloc | apply bdN | apply bd1) | exact HB.out)) hb); have n2_ := As0 (hbox); have n3_ := As0 ((by rw [hg]; exact (below_size (by repeat (first | (with_reducible first | exact HB.out | apply below_alloc | apply bdN | apply bd1) | exact HB.out))) : w.heap.size ≤ gb323)); have n4_ := As0 ((by rw [hg]; exact (below_size (by repeat (first | (with_reducible first | exact HB.out | apply below_alloc | apply bdN | apply bd1) | exact HB.out))) : w.heap.size ≤ gb323)); clear HO_9; clear HB; have HO_9 := n0_; have HB := n1_; have BK323 := n2_; have GW323 := n3_; have GE323 := n4_; clear n0_ n1_ n2_ n3_ n4_; clear hb hbox hg; have hcz65_0 : w64.cell? ⟨gb323, 0, none⟩ = some (.int .i64 0) := (blk_cell BK323.out 0).trans rfl; have hcz65_1 : w64.cell? ⟨gb323, 1, none⟩ = some (.int .i64 0) := (blk_cell BK323.out 1).trans rfl; have hcz65_2 : w64.cell? ⟨gb323, 2, none⟩ = some (.int .i64 0) := (blk_cell BK323.out 2).trans rfl; have hcz65_3 : w64.cell? ⟨gb323, 3, none⟩ = some (.int .i64 0) := (blk_cell BK323.out 3).trans rfl; have hcz65_4 : w64.cell? ⟨gb323, 4, none⟩ = some (.int .i64 0) := (blk_cell BK323.out 4).trans rfl; have hcz65_5 : w64.cell? ⟨gb323, 5, none⟩ = some (.int .i64 0) := (blk_cell BK323.out 5).trans rfl; have hcz65_6 : w64.cell? ⟨gb323, 6, none⟩ = some (.int .i64 0) := (blk_cell BK323.out 6).trans rfl; have hfz65_0 := blk_frozen BK323.out 0; have hfz65_1 := blk_frozen BK323.out 1; have hfz65_2 := blk_frozen BK323.out 2; have hfz65_3 := blk_frozen BK323.out 3; have hfz65_4 := blk_frozen BK323.out 4; have hfz65_5 := blk_frozen BK323.out 5; have hfz65_6 := blk_frozen BK323.out 6) | ((with_reducible refine gate_store (t := 28) (p := 15) rfl ?_); refine store_event (t := 28) (p := 15) (v := ?vo_w66) (w1 := (((((((w64.setCell ⟨gb323, 0, none⟩ (.int .i64 ((rd_T28 x9_2 (ji27)).f0))).setCell ⟨gb323, 1, none⟩ (.int .i64 ((rd_T28 x9_2 (ji27)).f1))).setCell ⟨gb323, 2, none⟩ (.int .i64 ((rd_T28 x9_2 (ji27)).f2))).setCell ⟨gb323, 3, none⟩ (.int .i64 ((rd_T28 x9_2 (ji27)).f3))).setCell ⟨gb323, 4, none⟩ (.int .i64 ((rd_T28 x9_2 (ji27)).f4))).setCell ⟨gb323, 5, none⟩ (.int .i64 ((rd_T28 x9_2 (ji27)).f5))).setCell ⟨gb323, 6, none⟩ (.int .i64 ((rd_T28 x9_2 (ji27)).f6)))) ?hg ?ho ?hn ?hr ?_; (case ho => rfl); (case hg => rfl); (case hn => rfl); (case hr => first | (go_simp; done) | (go_simp; rfl)); intro w66 hw; have n0_ : Aside0 (Kd.R k28 28 w66 w.heap.size (fun k_ => k_ ≠ gb323) (.slice (some ad322) x9_2.length co22) x9_2) := ⟨(by rw [hw]; exact (by (with_reducible repeat (first | apply Kd.R_alloc | apply Kd.R_drewN | apply Kd.R_drew)); exact Kd.R_mono (Kd.R_far (p := ⟨gb323, 6, none⟩) (Kd.R_far (p := ⟨gb323, 5, none⟩) (Kd.R_far (p := ⟨gb323, 4, none⟩) (Kd.R_far (p := ⟨gb323, 3, none⟩) (Kd.R_far (p := ⟨gb323, 2, none⟩) (Kd.R_far (p := ⟨gb323, 1, none⟩) (Kd.R_far (p := ⟨gb323, 0, none⟩) (Kd.R_mono HO_9.out (fun k_ hk => (⟨hk, hk.2⟩ : _ ∧ k_ ≠ gb323))) (fun _ hk => hk.2) (.int .i64 ((rd_T28 x9_2 (ji27)).f0))) (fun _ hk => hk.2) (.int .i64 ((rd_T28 x9_2 (ji27)).f1))) (fun _ hk => hk.2) (.int .i64 ((rd_T28 x9_2 (ji27)).f2))) (fun _ hk => hk.2) (.int .i64 ((rd_T28 x9_2 (ji27)).f3))) (fun _ hk => hk.2) (.int .i64 ((rd_T28 x9_2 (ji27)).f4))) (fun _ hk => hk.2) (.int .i64 ((rd_T28 x9_2 (ji27)).f5))) (fun _ hk => hk.2) (.int .i64 ((rd_T28 x9_2 (ji27)).f6))) (fun _ hk => hk.1.2)))⟩; have n1_ : Aside0 (w66.heap[gb323]? = some (.cells #[.int .i64 ((rd_T28 x9_2 (ji27)).f0), .int .i64 ((rd_T28 x9_2 (ji27)).f1), .int .i64 ((rd_T28 x9_2 (ji27)).f2), .int .i64 ((rd_T28 x9_2 (ji27)).f3), .int .i64 ((rd_T28 x9_2 (ji27)).f4), .int .i64 ((rd_T28 x9_2 (ji27)).f5), .int .i64 ((rd_T28 x9_2 (ji27)).f6)] 28 (0, 0))) := ⟨(by rw [hw]; exact (by (with_reducible repeat (first | refine blk_drewN ?_ _ | refine blk_drew ?_ | refine blk_alloc ?_ _)); refine blk_put (cs := #[.int .i64 ((rd_T28 x9_2 (ji27)).f0), .int .i64 ((rd_T28 x9_2 (ji27)).f1), .int .i64 ((rd_T28 x9_2 (ji27)).f2), .int .i64 ((rd_T28 x9_2 (ji27)).f3), .int .i64 ((rd_T28 x9_2 (ji27)).f4), .int .i64 ((rd_T28 x9_2 (ji27)).f5), .int .i64 0]) ?_ 6 _ rfl; (with_reducible repeat (first | refine blk_drewN ?_ _ | refine blk_drew ?_ | refine blk_alloc ?_ _)); refine blk_put (cs := #[.int .i64 ((rd_T28 x9_2 (ji27)).f0), .int .i64 ((rd_T28 x9_2 (ji27)).f1), .int .i64 ((rd_T28 x9_2 (ji27)).f2), .int .i64 ((rd_T28 x9_2 (ji27)).f3), .int .i64 ((rd_T28 x9_2 (ji27)).f4), .int .i64 0, .int .i64 0]) ?_ 5 _ rfl; (with_reducible repeat (first | refine blk_drewN ?_ _ | refine blk_drew ?_ | refine blk_alloc ?_ _)); refine blk_put (cs := #[.int .i64 ((rd_T28 x9_2 (ji27)).f0), .int .i64 ((rd_T28 x9_2 (ji27)).f1), .int .i64 ((rd_T28 x9_2 (ji27)).f2), .int .i64 ((rd_T28 x9_2 (ji27)).f3), .int .i64 0, .int .i64 0, .int .i64 0]) ?_ 4 _ rfl; (with_reducible repeat (first | refine blk_drewN ?_ _ | refine blk_drew ?_ | refine blk_alloc ?_ _)); refine blk_put (cs := #[.int .i64 ((rd_T28 x9_2 (ji27)).f0), .int .i64 ((rd_T28 x9_2 (ji27)).f1), .int .i64 ((rd_T28 x9_2 (ji27)).f2), .int .i64 0, .int .i64 0, .int .i64 0, .int .i64 0]) ?_ 3 _ rfl; (with_reducible repeat (first | refine blk_drewN ?_ _ | refine blk_drew ?_ | refine blk_alloc ?_ _)); refine blk_put (cs := #[.int .i64 ((rd_T28 x9_2 (ji27)).f0), .int .i64 ((rd_T28 x9_2 (ji27)).f1), .int .i64 0, .int .i64 0, .int .i64 0, .int .i64 0, .int .i64 0]) ?_ 2 _ rfl; (with_reducible repeat (first | refine blk_drewN ?_ _ | refine blk_drew ?_ | refine blk_alloc ?_ _)); refine blk_put (cs := #[.int .i64 ((rd_T28 x9_2 (ji27)).f0), .int .i64 0, .int .i64 0, .int .i64 0, .int .i64 0, .int .i64 0, .int .i64 0]) ?_ 1 _ rfl; (with_reducible repeat (first | refine blk_drewN ?_ _ | refine blk_drew ?_ | refine blk_alloc ?_ _)); refine blk_put (cs := #[.int .i64 0, .int .i64 0, .int .i64 0, .int .i64 0, .int .i64 0, .int .i64 0, .int .i64 0]) ?_ 0 _ rfl; (with_reducible repeat (first | refine blk_drewN ?_ _ | refine blk_drew ?_ | refine blk_alloc ?_ _)); exact BK323.out))⟩; have n2_ : Aside0 (Below w.heap.size w w66) := ⟨(by rw [hw]; exact (by repeat (first | (with_reducible first | exact HB.out | apply below_alloc | apply bdN | apply bd1 | refine below_set ?_ GE323.out) | exact HB.out)))⟩; clear hw; clear HO_9; clear BK323; clear HB; have HO_9 := n0_; have BK323 := n1_; have HB := n2_; clear n0_ n1_ n2_; have p30 : 0 ≤ ((ji27) : Int) := of_decide_eq_true (by first | (with_reducible assumption) | assumption); have q30 : ((ji27) : Int) < ((x9_2.length : Int) : Int) := of_decide_eq_true (by first | (with_reducible assumption) | assumption); obtain ⟨go30, co30, eo30, gb30, gl30, cl30, HG30⟩ := Kd.R_form HO_9.out (by omega); (first | cases eo30 | (injection eo30 with ea_ en_ ec_; (first | subst ea_ | (injection ea_ with ea_; subst ea_)); subst ec_; clear en_)); have GB30 := As0 gb30; have GG30 := As0 HG30; clear gb30 gl30 HG30; (first | simp only [add_plain] at hx322_0 | skip); (first | simp only [add_plain] at hx322_1 | skip); (first | simp only [add_plain] at hx322_2 | skip); (first | simp only [add_plain] at hx322_3 | skip); (first | simp only [add_plain] at hx322_4 | skip); (first | simp only [add_plain] at hx322_5 | skip); (first | simp only [add_plain] at hx322_6 | skip); obtain ⟨ce30, hcl30, hM30, hcc30, hfr30⟩ := Kd.R_elem HO_9.out z28 ((ji27) : Int) p30 q30; obtain rfl := k28_openM hM30; have hx30_0 : w66.cell? ⟨go30, ((ji27) : Int).toNat * 7, none⟩ = some (.int .i64 ((rd_T28 x9_2 (ji27)).f0)) := hcc30 0 _ rfl; have hx30_1 : w66.cell? ⟨go30, ((ji27) : Int).toNat * 7 + 1, none⟩ = some (.int .i64 ((rd_T28 x9_2 (ji27)).f1)) := hcc30 1 _ rfl; have hx30_2 : w66.cell? ⟨go30, ((ji27) : Int).toNat * 7 + 2, none⟩ = some (.int .i64 ((rd_T28 x9_2 (ji27)).f2)) := hcc30 2 _ rfl; have hx30_3 : w66.cell? ⟨go30, ((ji27) : Int).toNat * 7 + 3, none⟩ = some (.int .i64 ((rd_T28 x9_2 (ji27)).f3)) := hcc30 3 _ rfl; have hx30_4 : w66.cell? ⟨go30, ((ji27) : Int).toNat * 7 + 4, none⟩ = some (.int .i64 ((rd_T28 x9_2 (ji27)).f4)) := hcc30 4 _ rfl; have hx30_5 : w66.cell? ⟨go30, ((ji27) : Int).toNat * 7 + 5, none⟩ = some (.int .i64 ((rd_T28 x9_2 (ji27)).f5)) := hcc30 5 _ rfl; have hx30_6 : w66.cell? ⟨go30, ((ji27) : Int).toNat * 7 + 6, none⟩ = some (.int .i64 ((rd_T28 x9_2 (ji27)).f6)) := hcc30 6 _ rfl; have hf30_0 : w66.frozen? ⟨go30, ((ji27) : Int).toNat * 7, none⟩ = false := hfr30 0; have hf30_1 : w66.frozen? ⟨go30, ((ji27) : Int).toNat * 7 + 1, none⟩ = false := hfr30 1; have hf30_2 : w66.frozen? ⟨go30, ((ji27) : Int).toNat * 7 + 2, none⟩ = false := hfr30 2; have hf30_3 : w66.frozen? ⟨go30, ((ji27) : Int).toNat * 7 + 3, none⟩ = false := hfr30 3; have hf30_4 : w66.frozen? ⟨go30, ((ji27) : Int).toNat * 7 + 4, none⟩ = false := hfr30 4; have hf30_5 : w66.frozen? ⟨go30, ((ji27) : Int).toNat * 7 + 5, none⟩ = false := hfr30 5; have hf30_6 : w66.frozen? ⟨go30, ((ji27) : Int).toNat * 7 + 6, none⟩ = false := hfr30 6; clear hcl30 hcc30 hfr30 hM30; replace p30 := eq_true p30; replace q30 := eq_true q30; have HX67 := As0 (show Kd.R k28 28 w66 w.heap.size (fun k_ => k_ ≠ gb323) (.slice (some ⟨go30, 0, none⟩) x9_2.length co22) x9_2 from (by (with_reducible repeat (first | apply Kd.R_alloc | apply Kd.R_drewN | apply Kd.R_drew)); exact HO_9.out)); obtain ⟨ce67, hcl67, hM67, hcc67, hfr67⟩ := Kd.R_elem HX67.out z28 ((ji27) : Int) (of_decide_eq_true (by first | (with_reducible assumption) | assumption)) (by have h_ : ((ji27) : Int) < ((x9_2.length : Int) : Int) := of_decide_eq_true (by first | (with_reducible assumption) | assumption); first | exact h_ | (have e_ := (Kd.R_reads' HO_9.out).1; omega) | simpa using h_); obtain rfl := k28_openM hM67; have HP67 := Kd.R_seg HX67.out ((ji27) : Int) (of_decide_eq_true (by first | (with_reducible assumption) | assumption)) (by have h_ : ((ji27) : Int) < ((x9_2.length : Int) : Int) := of_decide_eq_true (by first | (with_reducible assumption) | assumption); first | exact h_ | (have e_ := (Kd.R_reads' HO_9.out).1; omega) | simpa using h_) (seg := [.int .i64 a2]) (j := 0) hcl67 hcc67 (show 1 ≤ 7 from by decide) (x' := (⟨a2, (rd_T28 x9_2 (ji27)).f1, (rd_T28 x9_2 (ji27)).f2, (rd_T28 x9_2 (ji27)).f3, (rd_T28 x9_2 (ji27)).f4, (rd_T28 x9_2 (ji27)).f5, (rd_T28 x9_2 (ji27)).f6⟩ : S28)) (k28_mkM _ _ _ (⟨a2, (rd_T28 x9_2 (ji27)).f1, (rd_T28 x9_2 (ji27)).f2, (rd_T28 x9_2 (ji27)).f3, (rd_T28 x9_2 (ji27)).f4, (rd_T28 x9_2 (ji27)).f5, (rd_T28 x9_2 (ji27)).f6⟩ : S28) ) (fun _ hk => hk); have hx67_0 := hcc67 0 _ rfl; (try simp only [show (k28).sz = 7 from rfl, Nat.mul_one, Nat.add_zero] at hx67_0); have hf67_0 := hfr67 0; (try simp only [show (k28).sz = 7 from rfl, Nat.mul_one, Nat.add_zero] at hf67_0); clear hcl67 hcc67 hfr67 hM67) | ((with_reducible refine gate_store (t := 3) (p := 88) rfl ?_); refine store_event (t := 3) (p := 88) (v := ?vo_w68) (w1 := (w66.setCell ⟨go30, ((ji27) : Int).toNat * 7, none⟩ (.int .i64 a2))) ?hg ?ho ?hn ?hr ?_; (case ho => rfl); (case hg => rfl); (case hn => rfl); (case hr => first | (go_simp; done) | (go_simp; rfl)); intro w68 hw; have hg : w66.grownBy w68 (some go30) := (by rw [hw]; exact HP67.2); have hp_ : Kd.R k28 28 w68 w.heap.size (fun k_ => k_ ≠ gb323) (.slice (some ⟨go30, 0, none⟩) x9_2.length co22) y324 := (by rw [hw, Ny324.out]; exact HP67.1); clear HP67; have n0_ := As0 (hp_); have n1_ := As0 (blk_grown (g := gb323) (o := .cells #[.int .i64 ((rd_T28 x9_2 (ji27)).f0), .int .i64 ((rd_T28 x9_2 (ji27)).f1), .int .i64 ((rd_T28 x9_2 (ji27)).f2), .int .i64 ((rd_T28 x9_2 (ji27)).f3), .int .i64 ((rd_T28 x9_2 (ji27)).f4), .int .i64 ((rd_T28 x9_2 (ji27)).f5), .int .i64 ((rd_T28 x9_2 (ji27)).f6)] 28 (0, 0)) (by (with_reducible repeat (first | refine blk_drewN ?_ _ | refine blk_drew ?_ | refine blk_alloc ?_ _)); exact BK323.out) hg (Kd.R_away HO_9.out (fun _ hk => hk))); have n2_ := As0 ((by rw [hw]; exact below_set (HB.out) GB30.out : Below w.heap.size w w68)); clear HO_9; clear BK323; clear HB; have HO_9 := n0_; have BK323 := n1_; have HB := n2_; clear n0_ n1_ n2_; clear hg hw hp_; have p31 : 0 ≤ ((ji27) : Int) := of_decide_eq_true (by first | (with_reducible assumption) | assumption); have q31 : ((ji27) : Int) < ((x9_2.length : Int) : Int) := of_decide_eq_true (by first | (with_reducible assumption) | assumption); obtain ⟨ce31, hcl31, hM31, hcc31, hfr31⟩ := Kd.R_elem HO_9.out z28 ((ji27) : Int) p31 q31; obtain rfl := k28_openM hM31; have hx31_0 : w68.cell? ⟨go30, ((ji27) : Int).toNat * 7, none⟩ = some (.int .i64 ((rd_T28 y324 (ji27)).f0)) := hcc31 0 _ rfl; have hx31_1 : w68.cell? ⟨go30, ((ji27) : Int).toNat * 7 + 1, none⟩ = some (.int .i64 ((rd_T28 y324 (ji27)).f1)) := hcc31 1 _ rfl; have hx31_2 : w68.cell? ⟨go30, ((ji27) : Int).toNat * 7 + 2, none⟩ = some (.int .i64 ((rd_T28 y324 (ji27)).f2)) := hcc31 2 _ rfl; have hx31_3 : w68.cell? ⟨go30, ((ji27) : Int).toNat * 7 + 3, none⟩ = some (.int .i64 ((rd_T28 y324 (ji27)).f3)) := hcc31 3 _ rfl; have hx31_4 : w68.cell? ⟨go30, ((ji27) : Int).toNat * 7 + 4, none⟩ = some (.int .i64 ((rd_T28 y324 (ji27)).f4)) := hcc31 4 _ rfl; have hx31_5 : w68.cell? ⟨go30, ((ji27) : Int).toNat * 7 + 5, none⟩ = some (.int .i64 ((rd_T28 y324 (ji27)).f5)) := hcc31 5 _ rfl; have hx31_6 : w68.cell? ⟨go30, ((ji27) : Int).toNat * 7 + 6, none⟩ = some (.int .i64 ((rd_T28 y324 (ji27)).f6)) := hcc31 6 _ rfl; have hf31_0 : w68.frozen? ⟨go30, ((ji27) : Int).toNat * 7, none⟩ = false := hfr31 0; have hf31_1 : w68.frozen? ⟨go30, ((ji27) : Int).toNat * 7 + 1, none⟩ = false := hfr31 1; have hf31_2 : w68.frozen? ⟨go30, ((ji27) : Int).toNat * 7 + 2, none⟩ = false := hfr31 2; have hf31_3 : w68.frozen? ⟨go30, ((ji27) : Int).toNat * 7 + 3, none⟩ = false := hfr31 3; have hf31_4 : w68.frozen? ⟨go30, ((ji27) : Int).toNat * 7 + 4, none⟩ = false := hfr31 4; have hf31_5 : w68.frozen? ⟨go30, ((ji27) : Int).toNat * 7 + 5, none⟩ = false := hfr31 5; have hf31_6 : w68.frozen? ⟨go30, ((ji27) : Int).toNat * 7 + 6, none⟩ = false := hfr31 6; clear hcl31 hcc31 hfr31 hM31; replace p31 := eq_true p31; replace q31 := eq_true q31; have HX69 := As0 (show Kd.R k28 28 w68 w.heap.size (fun k_ => k_ ≠ gb323) (.slice (some ⟨go30, 0, none⟩) x9_2.length co22) y324 from (by (with_reducible repeat (first | apply Kd.R_alloc | apply Kd.R_drewN | apply Kd.R_drew)); exact HO_9.out)); obtain ⟨ce69, hcl69, hM69, hcc69, hfr69⟩ := Kd.R_elem HX69.out z28 ((ji27) : Int) (of_decide_eq_true (by first | (with_reducible assumption) | assumption)) (by have h_ : ((ji27) : Int) < ((x9_2.length : Int) : Int) := of_decide_eq_true (by first | (with_reducible assumption) | assumption); first | exact h_ | (have e_ := (Kd.R_reads' HO_9.out).1; omega) | simpa using h_); obtain rfl := k28_openM hM69; have HP69 := Kd.R_seg HX69.out ((ji27) : Int) (of_decide_eq_true (by first | (with_reducible assumption) | assumption)) (by have h_ : ((ji27) : Int) < ((x9_2.length : Int) : Int) := of_decide_eq_true (by first | (with_reducible assumption) | assumption); first | exact h_ | (have e_ := (Kd.R_reads' HO_9.out).1; omega) | simpa using h_) (seg := [.int .i64 a3]) (j := 4) hcl69 hcc69 (show 5 ≤ 7 from by decide) (x' := (⟨(rd_T28 y324 (ji27)).f0, (rd_T28 y324 (ji27)).f1, (rd_T28 y324 (ji27)).f2, (rd_T28 y324 (ji27)).f3, a3, (rd_T28 y324 (ji27)).f5, (rd_T28 y324 (ji27)).f6⟩ : S28)) (k28_mkM _ _ _ (⟨(rd_T28 y324 (ji27)).f0, (rd_T28 y324 (ji27)).f1, (rd_T28 y324 (ji27)).f2, (rd_T28 y324 (ji27)).f3, a3, (rd_T28 y324 (ji27)).f5, (rd_T28 y324 (ji27)).f6⟩ : S28) ) (fun _ hk => hk); have hx69_4 := hcc69 4 _ rfl; (try simp only [show (k28).sz = 7 from rfl, Nat.mul_one, Nat.add_zero] at hx69_4); have hf69_4 := hfr69 4; (try simp only [show (k28).sz = 7 from rfl, Nat.mul_one, Nat.add_zero] at hf69_4); clear hcl69 hcc69 hfr69 hM69) | ((with_reducible refine gate_store (t := 2) (p := 93) rfl ?_); refine store_event (t := 2) (p := 93) (v := ?vo_w70) (w1 := (w68.setCell ⟨go30, ((ji27) : Int).toNat * 7 + 4, none⟩ (.int .i64 a3))) ?hg ?ho ?hn ?hr ?_; (case ho => rfl); (case hg => rfl); (case hn => rfl); (case hr => first | (go_simp; done) | (go_simp; rfl)); intro w70 hw; have hg : w68.grownBy w70 (some go30) := (by rw [hw]; exact HP69.2); have hp_ : Kd.R k28 28 w70 w.heap.size (fun k_ => k_ ≠ gb323) (.slice (some ⟨go30, 0, none⟩) x9_2.length co22) y325 := (by rw [hw, Ny325.out]; exact HP69.1); clear HP69; have n0_ := As0 (hp_); have n1_ := As0 (blk_grown (g := gb323) (o := .cells #[.int .i64 ((rd_T28 x9_2 (ji27)).f0), .int .i64 ((rd_T28 x9_2 (ji27)).f1), .int .i64 ((rd_T28 x9_2 (ji27)).f2), .int .i64 ((rd_T28 x9_2 (ji27)).f3), .int .i64 ((rd_T28 x9_2 (ji27)).f4), .int .i64 ((rd_T28 x9_2 (ji27)).f5), .int .i64 ((rd_T28 x9_2 (ji27)).f6)] 28 (0, 0)) (by (with_reducible repeat (first | refine blk_drewN ?_ _ | refine blk_drew ?_ | refine blk_alloc ?_ _)); exact BK323.out) hg (Kd.R_away HO_9.out (fun _ hk => hk))); have n2_ := As0 ((by rw [hw]; exact below_set (HB.out) GB30.out : Below w.heap.size w w70)); clear HO_9; clear BK323; clear HB; have HO_9 := n0_; have BK323 := n1_; have HB := n2_; clear n0_ n1_ n2_; clear hg hw hp_) | ((with_reducible refine gate_callee (f := 9) rfl ?_); refine goesL_ (some 97) rfl rfl Try.func9 (by kernel_rfl) rfl #[.slice A0 l0.length c0, .slice (some ⟨go30, 0, none⟩) y325.length co22] rfl (by (try simp only [List.map_toArray, List.map_cons, List.map_nil]); first | done | (rw [show y325.length = x9_2.length from (Kd.R_reads' HO_9.out).1.symm] <;> rfl) | rfl | (simp only [List.length_drop, List.length_take]; rfl)) ?_; (with_reducible refine (align_Code.calls kj20 _ _ l0 _ _ y325 t326 t327 t328 _ ?side1 ?side2 ?side3 ?side4 A32.out).mono ?_); (case side1 => repeat (first | exact (Kd.C_below HR0.out HB.out) | (with_reducible refine Kd.C_alloc ?_ _) | (with_reducible refine Kd.C_drewN ?_ _) | (with_reducible refine Kd.C_drew ?_))); (case side2 => exact HC0.out); (case side3 => repeat (first | exact (Kd.R_reads' HO_9.out).2.2 | (with_reducible refine Kd.C_alloc ?_ _) | (with_reducible refine Kd.C_drewN ?_ _) | (with_reducible refine Kd.C_drew ?_))); (case side4 => rw [show y325.length = x9_2.length from (Kd.R_reads' HO_9.out).1.symm]; exact (Kd.R_reads' HO_9.out).2.1); rintro e w71 ⟨v329, rfl, ho0, hb⟩; refine ⟨_, rfl, ?_⟩; have n0_ := As0 (Kd.R_below (by (with_reducible repeat (first | apply Kd.R_alloc | apply Kd.R_drewN | apply Kd.R_drew)); exact HO_9.out) hb); have n1_ := As0 (Kd.R_lower ho0 (below_size (by repeat (first | (with_reducible first | exact HB.out | apply below_alloc | apply bdN | apply bd1 | refine below_set ?_ GE323.out) | exact HB.out)))); have n2_ := As0 (blk_below (g := gb323) (o := .cells #[.int .i64 ((rd_T28 x9_2 (ji27)).f0), .int .i64 ((rd_T28 x9_2 (ji27)).f1), .int .i64 ((rd_T28 x9_2 (ji27)).f2), .int .i64 ((rd_T28 x9_2 (ji27)).f3), .int .i64 ((rd_T28 x9_2 (ji27)).f4), .int .i64 ((rd_T28 x9_2 (ji27)).f5), .int .i64 ((rd_T28 x9_2 (ji27)).f6)] 28 (0, 0)) (by (with_reducible repeat (first | refine blk_drewN ?_ _ | refine blk_drew ?_ | refine blk_alloc ?_ _)); exact BK323.out) hb); have n3_ := As0 (below_step (by repeat (first | (with_reducible first | exact HB.out | apply below_alloc | apply bdN | apply bd1 | refine below_set ?_ GE323.out) | exact HB.out)) hb); clear HO_9; clear BK323; clear HB; have HO_9 := n0_; have HO330 := n1_; have BK323 := n2_; have HB := n3_; clear n0_ n1_ n2_ n3_; (try clear hb); (try clear hb2); (try clear hk); (try clear hi); (try clear ho0)))
                 have n0_ := As0 (Kd.R_drew HO_9.out)
                 have n1_ := As0 (Kd.R_drew HO330.out)
                 have n2_ := As0 (blk_drew BK323.out)
                 have n3_ := As0 (bd1 HB.out)
                 clear HO_9
                 clear HO330
                 clear BK323
                 clear HB
                 have HO_9 := n0_
                 have HO330 := n1_
                 have BK323 := n2_
                 have HB := n3_
                 clear n0_ n1_ n2_ n3_
                 have p331 : 0 ≤ ((ji27) : Int) := of_decide_eq_true (by first | (with_reducible assumption) | assumption)
                 have q331 : (ji27) < (y325.length : Int) := (by have h_ : ((ji27) : Int) < ((x9_2.length : Int) : Int) := of_decide_eq_true (by first | (with_reducible assumption) | assumption); first | (have e_ := (Kd.R_reads' HO_9.out).1; omega) | simpa only [Ny324.out, Ny325.out, List.length_set] using h_)
                 have ql331 : (((ji27) : Int) < ((x9_2.length : Int) : Int)) = True := eq_true (of_decide_eq_true (by first | (with_reducible assumption) | assumption))
                 obtain ⟨ad331, e331, hx331_0, hx331_1, hx331_2, hx331_3, hx331_4, hx331_5, hx331_6⟩ := at_T28 (Kd.R_reads' HO_9.out).2.2 (ji27) p331 q331
                 obtain rfl : (⟨go30, 0, none⟩ : Addr) = ad331 := (by injection e331)
                 (first | simp only [add_plain] at hx331_0 | simp only [add_at] at hx331_0 | simp only [Addr.add, Nat.zero_add] at hx331_0 | skip)
                 (first | simp only [add_plain] at hx331_1 | simp only [add_at] at hx331_1 | simp only [Addr.add, Nat.zero_add] at hx331_1 | skip)
                 (first | simp only [add_plain] at hx331_2 | simp only [add_at] at hx331_2 | simp only [Addr.add, Nat.zero_add] at hx331_2 | skip)
                 (first | simp only [add_plain] at hx331_3 | simp only [add_at] at hx331_3 | simp only [Addr.add, Nat.zero_add] at hx331_3 | skip)
                 (first | simp only [add_plain] at hx331_4 | simp only [add_at] at hx331_4 | simp only [Addr.add, Nat.zero_add] at hx331_4 | skip)
                 (first | simp only [add_plain] at hx331_5 | simp only [add_at] at hx331_5 | simp only [Addr.add, Nat.zero_add] at hx331_5 | skip)
                 (first | simp only [add_plain] at hx331_6 | simp only [add_at] at hx331_6 | simp only [Addr.add, Nat.zero_add] at hx331_6 | skip)
                 replace p331 := eq_true p331
                 replace q331 := eq_true q331
                 refine start_ (n := 6) (S := fun w' => w'.cell? ⟨gb323, 0, none⟩ = some (.int .i64 ((rd_T28 x9_2 (ji27)).f0)) ∧ w'.cell? ⟨gb323, 1, none⟩ = some (.int .i64 ((rd_T28 x9_2 (ji27)).f1)) ∧ w'.cell? ⟨gb323, 2, none⟩ = some (.int .i64 ((rd_T28 x9_2 (ji27)).f2)) ∧ w'.cell? ⟨gb323, 3, none⟩ = some (.int .i64 ((rd_T28 x9_2 (ji27)).f3)) ∧ w'.cell? ⟨gb323, 4, none⟩ = some (.int .i64 ((rd_T28 x9_2 (ji27)).f4)) ∧ w'.cell? ⟨gb323, 5, none⟩ = some (.int .i64 ((rd_T28 x9_2 (ji27)).f5)) ∧ w'.cell? ⟨gb323, 6, none⟩ = some (.int .i64 ((rd_T28 x9_2 (ji27)).f6)) ∧ w'.cell? ⟨go30, ((ji27)).toNat * 7, none⟩ = some (.int .i64 ((rd_T28 y325 (ji27)).f0)) ∧ w'.cell? ⟨go30, ((ji27)).toNat * 7 + 1, none⟩ = some (.int .i64 ((rd_T28 y325 (ji27)).f1)) ∧ w'.cell? ⟨go30, ((ji27)).toNat * 7 + 2, none⟩ = some (.int .i64 ((rd_T28 y325 (ji27)).f2)) ∧ w'.cell? ⟨go30, ((ji27)).toNat * 7 + 3, none⟩ = some (.int .i64 ((rd_T28 y325 (ji27)).f3)) ∧ w'.cell? ⟨go30, ((ji27)).toNat * 7 + 4, none⟩ = some (.int .i64 ((rd_T28 y325 (ji27)).f4)) ∧ w'.cell? ⟨go30, ((ji27)).toNat * 7 + 5, none⟩ = some (.int .i64 ((rd_T28 y325 (ji27)).f5)) ∧ w'.cell? ⟨go30, ((ji27)).toNat * 7 + 6, none⟩ = some (.int .i64 ((rd_T28 y325 (ji27)).f6))) (ds := []) #[false, false, false, false, false, false] (by kernel_rfl) rfl rfl ⟨(blk_cell BK323.out 0).trans rfl, (blk_cell BK323.out 1).trans rfl, (blk_cell BK323.out 2).trans rfl, (blk_cell BK323.out 3).trans rfl, (blk_cell BK323.out 4).trans rfl, (blk_cell BK323.out 5).trans rfl, (blk_cell BK323.out 6).trans rfl, hx331_0, hx331_1, hx331_2, hx331_3, hx331_4, hx331_5, hx331_6⟩ (fun hHeld => ?_)
                 generalize w71.drew = w72 at HO_9 HO330 BK323 HB hx331_0 hx331_1 hx331_2 hx331_3 hx331_4 hx331_5 hx331_6 hHeld ⊢
                 refine pure_ (i := 0) (N := some 101) (v := ?_) (a' := ?_) #[true, false, false, false, false, false] rfl rfl (by kernel_rfl) (fun _ _ _ h => h) (Or.inl ⟨by rfl, ?_⟩) ?_ ?_
                 rotate_left
                 ·intro w'
                  go_simp
                  with_reducible rfl
                 rotate_left
                 ·simp only [Act.put, sL1, sL2, sL3, i64_w, i32_w]
                  rfl
                 refine pure_ (i := 1) (N := some 102) (v := ?_) (a' := ?_) #[true, true, false, false, false, false] rfl rfl (by kernel_rfl) (fun _ _ _ h => h) (Or.inl ⟨by rfl, ?_⟩) ?_ ?_
                 rotate_left
                 ·intro w'
                  go_simp
                  with_reducible rfl
                 rotate_left
                 ·simp only [Act.put, sL1, sL2, sL3, i64_w, i32_w]
                  rfl
                 refine pure_ (i := 2) (N := some 103) (v := ?_) (a' := ?_) #[true, true, true, false, false, false] rfl rfl (by kernel_rfl) (fun _ _ _ h => h) (Or.inl ⟨by rfl, ?_⟩) ?_ ?_
                 rotate_left
                 ·intro w'
                  go_simp
                  with_reducible rfl
                 rotate_left
                 ·simp only [Act.put, sL1, sL2, sL3, i64_w, i32_w]
                  rfl
                 refine take_ (i := 3) (N := some 104) (v := ?_) (a' := ?_) #[true, true, true, true, false, false] rfl rfl (by kernel_rfl) (fun _ _ _ h => h) (Or.inl ⟨by rfl, ?_⟩) hHeld ?_ ?_
                 rotate_left
                 ·rintro w' ⟨s0, s1, s2, s3, s4, s5, s6, s7, s8, s9, s10, s11, s12, s13⟩
                  go_simp
                  with_reducible rfl
                 rotate_left
                 ·simp only [Act.put, sL1, sL2, sL3, i64_w, i32_w]
                  rfl
                 refine take_ (i := 4) (N := some 105) (v := ?_) (a' := ?_) #[true, true, true, true, true, false] rfl rfl (by kernel_rfl) (fun _ _ _ h => h) (Or.inl ⟨by rfl, ?_⟩) hHeld ?_ ?_
                 rotate_left
                 ·rintro w' ⟨s0, s1, s2, s3, s4, s5, s6, s7, s8, s9, s10, s11, s12, s13⟩
                  go_simp
                  with_reducible rfl
                 rotate_left
                 ·simp only [Act.put, sL1, sL2, sL3, i64_w, i32_w]
                  rfl
                 refine pure_ (i := 5) (N := some 106) (v := ?_) (a' := ?_) #[true, true, true, true, true, true] rfl rfl (by kernel_rfl) (fun _ _ _ h => h) (Or.inl ⟨by rfl, ?_⟩) ?_ ?_
                 rotate_left
                 ·intro w'
                  go_simp
                  with_reducible rfl
                 rotate_left
                 ·simp only [Act.put, sL1, sL2, sL3, i64_w, i32_w]
                  rfl
                 refine done_ (by kernel_rfl) ?_
                 try go_wp2
                 go_ret
                 exact ⟨by first | rfl | (simp [errW_none, errW_some] <;> rfl) | (simp only [← hji27]; first | rfl | (simp [errW_none, errW_some] <;> rfl)) | (simp [*, errW_none, errW_some] <;> rfl), by repeat (first | (with_reducible first | exact HB.out | apply below_alloc | apply bdN | apply bd1 | refine below_set ?_ GE323.out) | exact HB.out)⟩
              ·rw [if_neg c43] at H
               have c43b0 : (t328 == 20) = false := beq_eq_false_iff_ne.mpr c43
               have c43b1 : (t328 != 20) = true := bne_iff_ne.mpr c43
               obtain rfl := Option.some.inj H
               have p322 : 0 ≤ ((ji27) : Int) := of_decide_eq_true (by first | (with_reducible assumption) | assumption)
               have q322 : (ji27) < (x9_2.length : Int) := of_decide_eq_true (by first | (with_reducible assumption) | assumption)
               obtain ⟨ad322, e322, hx322_0, hx322_1, hx322_2, hx322_3, hx322_4, hx322_5, hx322_6⟩ := at_T28 (Kd.R_reads' HO_9.out).2.2 (ji27) p322 q322
               cases e322
               replace p322 := eq_true p322
               replace q322 := eq_true q322
               try go_wp2_with (first | ((with_reducible refine gate_dst (N := 15) rfl ?_); (try (refine gate_guard (by rfl) ?_; dsimp only)); refine box_event ?hg (N := 15) ?hd (cs := #[.int .i64 0, .int .i64 0, .int .i64 0, .int .i64 0, .int .i64 0, .int .i64 0, .int .i64 0]) (t := 28) ?hr ?_; (case hd => rfl); (case hg => rfl); (case hr => first | (go_simp; done) | (go_simp; rfl)); intro gb323 hg w73 hbox hb; have n0_ := As0 (Kd.R_below (Kd.R_elderB (by (with_reducible repeat (first | apply Kd.R_alloc | apply Kd.R_drewN | apply Kd.R_drew)); exact HO_9.out) gb323 (Nat.le_of_eq hg.symm)) hb); have n1_ := As0 (below_step (by repeat (first | (with_reducible first | exact HB.out | apply below_alloc | apply bdN | apply bd1) | exact HB.out)) hb); have n2_ := As0 (hbox); have n3_ := As0 ((by rw [hg]; exact (below_size (by repeat (first | (with_reducible first | exact HB.out | apply below_alloc | apply bdN | apply bd1) | exact HB.out))) : w.heap.size ≤ gb323)); have n4_ := As0 ((by rw [hg]; exact (below_size (by repeat (first | (with_reducible first | exact HB.out | apply below_alloc | apply bdN | apply bd1) | exact HB.out))) : w.heap.size ≤ gb323)); clear HO_9; clear HB; have HO_9 := n0_; have HB := n1_; have BK323 := n2_; have GW323 := n3_; have GE323 := n4_; clear n0_ n1_ n2_ n3_ n4_; clear hb hbox hg; have hcz74_0 : w73.cell? ⟨gb323, 0, none⟩ = some (.int .i64 0) := (blk_cell BK323.out 0).trans rfl; have hcz74_1 : w73.cell? ⟨gb323, 1, none⟩ = some (.int .i64 0) := (blk_cell BK323.out 1).trans rfl; have hcz74_2 : w73.cell? ⟨gb323, 2, none⟩ = some (.int .i64 0) := (blk_cell BK323.out 2).trans rfl; have hcz74_3 : w73.cell? ⟨gb323, 3, none⟩ = some (.int .i64 0) := (blk_cell BK323.out 3).trans rfl; have hcz74_4 : w73.cell? ⟨gb323, 4, none⟩ = some (.int .i64 0) := (blk_cell BK323.out 4).trans rfl; have hcz74_5 : w73.cell? ⟨gb323, 5, none⟩ = some (.int .i64 0) := (blk_cell BK323.out 5).trans rfl; have hcz74_6 : w73.cell? ⟨gb323, 6, none⟩ = some (.int .i64 0) := (blk_cell BK323.out 6).trans rfl; have hfz74_0 := blk_frozen BK323.out 0; have hfz74_1 := blk_frozen BK323.out 1; have hfz74_2 := blk_frozen BK323.out 2; have hfz74_3 := blk_frozen BK323.out 3; have hfz74_4 := blk_frozen BK323.out 4; have hfz74_5 := blk_frozen BK323.out 5; have hfz74_6 := blk_frozen BK323.out 6) | ((with_reducible refine gate_store (t := 28) (p := 15) rfl ?_); refine store_event (t := 28) (p := 15) (v := ?vo_w75) (w1 := (((((((w73.setCell ⟨gb323, 0, none⟩ (.int .i64 ((rd_T28 x9_2 (ji27)).f0))).setCell ⟨gb323, 1, none⟩ (.int .i64 ((rd_T28 x9_2 (ji27)).f1))).setCell ⟨gb323, 2, none⟩ (.int .i64 ((rd_T28 x9_2 (ji27)).f2))).setCell ⟨gb323, 3, none⟩ (.int .i64 ((rd_T28 x9_2 (ji27)).f3))).setCell ⟨gb323, 4, none⟩ (.int .i64 ((rd_T28 x9_2 (ji27)).f4))).setCell ⟨gb323, 5, none⟩ (.int .i64 ((rd_T28 x9_2 (ji27)).f5))).setCell ⟨gb323, 6, none⟩ (.int .i64 ((rd_T28 x9_2 (ji27)).f6)))) ?hg ?ho ?hn ?hr ?_; (case ho => rfl); (case hg => rfl); (case hn => rfl); (case hr => first | (go_simp; done) | (go_simp; rfl)); intro w75 hw; have n0_ : Aside0 (Kd.R k28 28 w75 w.heap.size (fun k_ => k_ ≠ gb323) (.slice (some ad322) x9_2.length co22) x9_2) := ⟨(by rw [hw]; exact (by (with_reducible repeat (first | apply Kd.R_alloc | apply Kd.R_drewN | apply Kd.R_drew)); exact Kd.R_mono (Kd.R_far (p := ⟨gb323, 6, none⟩) (Kd.R_far (p := ⟨gb323, 5, none⟩) (Kd.R_far (p := ⟨gb323, 4, none⟩) (Kd.R_far (p := ⟨gb323, 3, none⟩) (Kd.R_far (p := ⟨gb323, 2, none⟩) (Kd.R_far (p := ⟨gb323, 1, none⟩) (Kd.R_far (p := ⟨gb323, 0, none⟩) (Kd.R_mono HO_9.out (fun k_ hk => (⟨hk, hk.2⟩ : _ ∧ k_ ≠ gb323))) (fun _ hk => hk.2) (.int .i64 ((rd_T28 x9_2 (ji27)).f0))) (fun _ hk => hk.2) (.int .i64 ((rd_T28 x9_2 (ji27)).f1))) (fun _ hk => hk.2) (.int .i64 ((rd_T28 x9_2 (ji27)).f2))) (fun _ hk => hk.2) (.int .i64 ((rd_T28 x9_2 (ji27)).f3))) (fun _ hk => hk.2) (.int .i64 ((rd_T28 x9_2 (ji27)).f4))) (fun _ hk => hk.2) (.int .i64 ((rd_T28 x9_2 (ji27)).f5))) (fun _ hk => hk.2) (.int .i64 ((rd_T28 x9_2 (ji27)).f6))) (fun _ hk => hk.1.2)))⟩; have n1_ : Aside0 (w75.heap[gb323]? = some (.cells #[.int .i64 ((rd_T28 x9_2 (ji27)).f0), .int .i64 ((rd_T28 x9_2 (ji27)).f1), .int .i64 ((rd_T28 x9_2 (ji27)).f2), .int .i64 ((rd_T28 x9_2 (ji27)).f3), .int .i64 ((rd_T28 x9_2 (ji27)).f4), .int .i64 ((rd_T28 x9_2 (ji27)).f5), .int .i64 ((rd_T28 x9_2 (ji27)).f6)] 28 (0, 0))) := ⟨(by rw [hw]; exact (by (with_reducible repeat (first | refine blk_drewN ?_ _ | refine blk_drew ?_ | refine blk_alloc ?_ _)); refine blk_put (cs := #[.int .i64 ((rd_T28 x9_2 (ji27)).f0), .int .i64 ((rd_T28 x9_2 (ji27)).f1), .int .i64 ((rd_T28 x9_2 (ji27)).f2), .int .i64 ((rd_T28 x9_2 (ji27)).f3), .int .i64 ((rd_T28 x9_2 (ji27)).f4), .int .i64 ((rd_T28 x9_2 (ji27)).f5), .int .i64 0]) ?_ 6 _ rfl; (with_reducible repeat (first | refine blk_drewN ?_ _ | refine blk_drew ?_ | refine blk_alloc ?_ _)); refine blk_put (cs := #[.int .i64 ((rd_T28 x9_2 (ji27)).f0), .int .i64 ((rd_T28 x9_2 (ji27)).f1), .int .i64 ((rd_T28 x9_2 (ji27)).f2), .int .i64 ((rd_T28 x9_2 (ji27)).f3), .int .i64 ((rd_T28 x9_2 (ji27)).f4), .int .i64 0, .int .i64 0]) ?_ 5 _ rfl; (with_reducible repeat (first | refine blk_drewN ?_ _ | refine blk_drew ?_ | refine blk_alloc ?_ _)); refine blk_put (cs := #[.int .i64 ((rd_T28 x9_2 (ji27)).f0), .int .i64 ((rd_T28 x9_2 (ji27)).f1), .int .i64 ((rd_T28 x9_2 (ji27)).f2), .int .i64 ((rd_T28 x9_2 (ji27)).f3), .int .i64 0, .int .i64 0, .int .i64 0]) ?_ 4 _ rfl; (with_reducible repeat (first | refine blk_drewN ?_ _ | refine blk_drew ?_ | refine blk_alloc ?_ _)); refine blk_put (cs := #[.int .i64 ((rd_T28 x9_2 (ji27)).f0), .int .i64 ((rd_T28 x9_2 (ji27)).f1), .int .i64 ((rd_T28 x9_2 (ji27)).f2), .int .i64 0, .int .i64 0, .int .i64 0, .int .i64 0]) ?_ 3 _ rfl; (with_reducible repeat (first | refine blk_drewN ?_ _ | refine blk_drew ?_ | refine blk_alloc ?_ _)); refine blk_put (cs := #[.int .i64 ((rd_T28 x9_2 (ji27)).f0), .int .i64 ((rd_T28 x9_2 (ji27)).f1), .int .i64 0, .int .i64 0, .int .i64 0, .int .i64 0, .int .i64 0]) ?_ 2 _ rfl; (with_reducible repeat (first | refine blk_drewN ?_ _ | refine blk_drew ?_ | refine blk_alloc ?_ _)); refine blk_put (cs := #[.int .i64 ((rd_T28 x9_2 (ji27)).f0), .int .i64 0, .int .i64 0, .int .i64 0, .int .i64 0, .int .i64 0, .int .i64 0]) ?_ 1 _ rfl; (with_reducible repeat (first | refine blk_drewN ?_ _ | refine blk_drew ?_ | refine blk_alloc ?_ _)); refine blk_put (cs := #[.int .i64 0, .int .i64 0, .int .i64 0, .int .i64 0, .int .i64 0, .int .i64 0, .int .i64 0]) ?_ 0 _ rfl; (with_reducible repeat (first | refine blk_drewN ?_ _ | refine blk_drew ?_ | refine blk_alloc ?_ _)); exact BK323.out))⟩; have n2_ : Aside0 (Below w.heap.size w w75) := ⟨(by rw [hw]; exact (by repeat (first | (with_reducible first | exact HB.out | apply below_alloc | apply bdN | apply bd1 | refine below_set ?_ GE323.out) | exact HB.out)))⟩; clear hw; clear HO_9; clear BK323; clear HB; have HO_9 := n0_; have BK323 := n1_; have HB := n2_; clear n0_ n1_ n2_; have p30 : 0 ≤ ((ji27) : Int) := of_decide_eq_true (by first | (with_reducible assumption) | assumption); have q30 : ((ji27) : Int) < ((x9_2.length : Int) : Int) := of_decide_eq_true (by first | (with_reducible assumption) | assumption); obtain ⟨go30, co30, eo30, gb30, gl30, cl30, HG30⟩ := Kd.R_form HO_9.out (by omega); (first | cases eo30 | (injection eo30 with ea_ en_ ec_; (first | subst ea_ | (injection ea_ with ea_; subst ea_)); subst ec_; clear en_)); have GB30 := As0 gb30; have GG30 := As0 HG30; clear gb30 gl30 HG30; (first | simp only [add_plain] at hx322_0 | skip); (first | simp only [add_plain] at hx322_1 | skip); (first | simp only [add_plain] at hx322_2 | skip); (first | simp only [add_plain] at hx322_3 | skip); (first | simp only [add_plain] at hx322_4 | skip); (first | simp only [add_plain] at hx322_5 | skip); (first | simp only [add_plain] at hx322_6 | skip); obtain ⟨ce30, hcl30, hM30, hcc30, hfr30⟩ := Kd.R_elem HO_9.out z28 ((ji27) : Int) p30 q30; obtain rfl := k28_openM hM30; have hx30_0 : w75.cell? ⟨go30, ((ji27) : Int).toNat * 7, none⟩ = some (.int .i64 ((rd_T28 x9_2 (ji27)).f0)) := hcc30 0 _ rfl; have hx30_1 : w75.cell? ⟨go30, ((ji27) : Int).toNat * 7 + 1, none⟩ = some (.int .i64 ((rd_T28 x9_2 (ji27)).f1)) := hcc30 1 _ rfl; have hx30_2 : w75.cell? ⟨go30, ((ji27) : Int).toNat * 7 + 2, none⟩ = some (.int .i64 ((rd_T28 x9_2 (ji27)).f2)) := hcc30 2 _ rfl; have hx30_3 : w75.cell? ⟨go30, ((ji27) : Int).toNat * 7 + 3, none⟩ = some (.int .i64 ((rd_T28 x9_2 (ji27)).f3)) := hcc30 3 _ rfl; have hx30_4 : w75.cell? ⟨go30, ((ji27) : Int).toNat * 7 + 4, none⟩ = some (.int .i64 ((rd_T28 x9_2 (ji27)).f4)) := hcc30 4 _ rfl; have hx30_5 : w75.cell? ⟨go30, ((ji27) : Int).toNat * 7 + 5, none⟩ = some (.int .i64 ((rd_T28 x9_2 (ji27)).f5)) := hcc30 5 _ rfl; have hx30_6 : w75.cell? ⟨go30, ((ji27) : Int).toNat * 7 + 6, none⟩ = some (.int .i64 ((rd_T28 x9_2 (ji27)).f6)) := hcc30 6 _ rfl; have hf30_0 : w75.frozen? ⟨go30, ((ji27) : Int).toNat * 7, none⟩ = false := hfr30 0; have hf30_1 : w75.frozen? ⟨go30, ((ji27) : Int).toNat * 7 + 1, none⟩ = false := hfr30 1; have hf30_2 : w75.frozen? ⟨go30, ((ji27) : Int).toNat * 7 + 2, none⟩ = false := hfr30 2; have hf30_3 : w75.frozen? ⟨go30, ((ji27) : Int).toNat * 7 + 3, none⟩ = false := hfr30 3; have hf30_4 : w75.frozen? ⟨go30, ((ji27) : Int).toNat * 7 + 4, none⟩ = false := hfr30 4; have hf30_5 : w75.frozen? ⟨go30, ((ji27) : Int).toNat * 7 + 5, none⟩ = false := hfr30 5; have hf30_6 : w75.frozen? ⟨go30, ((ji27) : Int).toNat * 7 + 6, none⟩ = false := hfr30 6; clear hcl30 hcc30 hfr30 hM30; replace p30 := eq_true p30; replace q30 := eq_true q30; have HX76 := As0 (show Kd.R k28 28 w75 w.heap.size (fun k_ => k_ ≠ gb323) (.slice (some ⟨go30, 0, none⟩) x9_2.length co22) x9_2 from (by (with_reducible repeat (first | apply Kd.R_alloc | apply Kd.R_drewN | apply Kd.R_drew)); exact HO_9.out)); obtain ⟨ce76, hcl76, hM76, hcc76, hfr76⟩ := Kd.R_elem HX76.out z28 ((ji27) : Int) (of_decide_eq_true (by first | (with_reducible assumption) | assumption)) (by have h_ : ((ji27) : Int) < ((x9_2.length : Int) : Int) := of_decide_eq_true (by first | (with_reducible assumption) | assumption); first | exact h_ | (have e_ := (Kd.R_reads' HO_9.out).1; omega) | simpa using h_); obtain rfl := k28_openM hM76; have HP76 := Kd.R_seg HX76.out ((ji27) : Int) (of_decide_eq_true (by first | (with_reducible assumption) | assumption)) (by have h_ : ((ji27) : Int) < ((x9_2.length : Int) : Int) := of_decide_eq_true (by first | (with_reducible assumption) | assumption); first | exact h_ | (have e_ := (Kd.R_reads' HO_9.out).1; omega) | simpa using h_) (seg := [.int .i64 a2]) (j := 0) hcl76 hcc76 (show 1 ≤ 7 from by decide) (x' := (⟨a2, (rd_T28 x9_2 (ji27)).f1, (rd_T28 x9_2 (ji27)).f2, (rd_T28 x9_2 (ji27)).f3, (rd_T28 x9_2 (ji27)).f4, (rd_T28 x9_2 (ji27)).f5, (rd_T28 x9_2 (ji27)).f6⟩ : S28)) (k28_mkM _ _ _ (⟨a2, (rd_T28 x9_2 (ji27)).f1, (rd_T28 x9_2 (ji27)).f2, (rd_T28 x9_2 (ji27)).f3, (rd_T28 x9_2 (ji27)).f4, (rd_T28 x9_2 (ji27)).f5, (rd_T28 x9_2 (ji27)).f6⟩ : S28) ) (fun _ hk => hk); have hx76_0 := hcc76 0 _ rfl; (try simp only [show (k28).sz = 7 from rfl, Nat.mul_one, Nat.add_zero] at hx76_0); have hf76_0 := hfr76 0; (try simp only [show (k28).sz = 7 from rfl, Nat.mul_one, Nat.add_zero] at hf76_0); clear hcl76 hcc76 hfr76 hM76) | ((with_reducible refine gate_store (t := 3) (p := 88) rfl ?_); refine store_event (t := 3) (p := 88) (v := ?vo_w77) (w1 := (w75.setCell ⟨go30, ((ji27) : Int).toNat * 7, none⟩ (.int .i64 a2))) ?hg ?ho ?hn ?hr ?_; (case ho => rfl); (case hg => rfl); (case hn => rfl); (case hr => first | (go_simp; done) | (go_simp; rfl)); intro w77 hw; have hg : w75.grownBy w77 (some go30) := (by rw [hw]; exact HP76.2); have hp_ : Kd.R k28 28 w77 w.heap.size (fun k_ => k_ ≠ gb323) (.slice (some ⟨go30, 0, none⟩) x9_2.length co22) y324 := (by rw [hw, Ny324.out]; exact HP76.1); clear HP76; have n0_ := As0 (hp_); have n1_ := As0 (blk_grown (g := gb323) (o := .cells #[.int .i64 ((rd_T28 x9_2 (ji27)).f0), .int .i64 ((rd_T28 x9_2 (ji27)).f1), .int .i64 ((rd_T28 x9_2 (ji27)).f2), .int .i64 ((rd_T28 x9_2 (ji27)).f3), .int .i64 ((rd_T28 x9_2 (ji27)).f4), .int .i64 ((rd_T28 x9_2 (ji27)).f5), .int .i64 ((rd_T28 x9_2 (ji27)).f6)] 28 (0, 0)) (by (with_reducible repeat (first | refine blk_drewN ?_ _ | refine blk_drew ?_ | refine blk_alloc ?_ _)); exact BK323.out) hg (Kd.R_away HO_9.out (fun _ hk => hk))); have n2_ := As0 ((by rw [hw]; exact below_set (HB.out) GB30.out : Below w.heap.size w w77)); clear HO_9; clear BK323; clear HB; have HO_9 := n0_; have BK323 := n1_; have HB := n2_; clear n0_ n1_ n2_; clear hg hw hp_; have p31 : 0 ≤ ((ji27) : Int) := of_decide_eq_true (by first | (with_reducible assumption) | assumption); have q31 : ((ji27) : Int) < ((x9_2.length : Int) : Int) := of_decide_eq_true (by first | (with_reducible assumption) | assumption); obtain ⟨ce31, hcl31, hM31, hcc31, hfr31⟩ := Kd.R_elem HO_9.out z28 ((ji27) : Int) p31 q31; obtain rfl := k28_openM hM31; have hx31_0 : w77.cell? ⟨go30, ((ji27) : Int).toNat * 7, none⟩ = some (.int .i64 ((rd_T28 y324 (ji27)).f0)) := hcc31 0 _ rfl; have hx31_1 : w77.cell? ⟨go30, ((ji27) : Int).toNat * 7 + 1, none⟩ = some (.int .i64 ((rd_T28 y324 (ji27)).f1)) := hcc31 1 _ rfl; have hx31_2 : w77.cell? ⟨go30, ((ji27) : Int).toNat * 7 + 2, none⟩ = some (.int .i64 ((rd_T28 y324 (ji27)).f2)) := hcc31 2 _ rfl; have hx31_3 : w77.cell? ⟨go30, ((ji27) : Int).toNat * 7 + 3, none⟩ = some (.int .i64 ((rd_T28 y324 (ji27)).f3)) := hcc31 3 _ rfl; have hx31_4 : w77.cell? ⟨go30, ((ji27) : Int).toNat * 7 + 4, none⟩ = some (.int .i64 ((rd_T28 y324 (ji27)).f4)) := hcc31 4 _ rfl; have hx31_5 : w77.cell? ⟨go30, ((ji27) : Int).toNat * 7 + 5, none⟩ = some (.int .i64 ((rd_T28 y324 (ji27)).f5)) := hcc31 5 _ rfl; have hx31_6 : w77.cell? ⟨go30, ((ji27) : Int).toNat * 7 + 6, none⟩ = some (.int .i64 ((rd_T28 y324 (ji27)).f6)) := hcc31 6 _ rfl; have hf31_0 : w77.frozen? ⟨go30, ((ji27) : Int).toNat * 7, none⟩ = false := hfr31 0; have hf31_1 : w77.frozen? ⟨go30, ((ji27) : Int).toNat * 7 + 1, none⟩ = false := hfr31 1; have hf31_2 : w77.frozen? ⟨go30, ((ji27) : Int).toNat * 7 + 2, none⟩ = false := hfr31 2; have hf31_3 : w77.frozen? ⟨go30, ((ji27) : Int).toNat * 7 + 3, none⟩ = false := hfr31 3; have hf31_4 : w77.frozen? ⟨go30, ((ji27) : Int).toNat * 7 + 4, none⟩ = false := hfr31 4; have hf31_5 : w77.frozen? ⟨go30, ((ji27) : Int).toNat * 7 + 5, none⟩ = false := hfr31 5; have hf31_6 : w77.frozen? ⟨go30, ((ji27) : Int).toNat * 7 + 6, none⟩ = false := hfr31 6; clear hcl31 hcc31 hfr31 hM31; replace p31 := eq_true p31; replace q31 := eq_true q31; have HX78 := As0 (show Kd.R k28 28 w77 w.heap.size (fun k_ => k_ ≠ gb323) (.slice (some ⟨go30, 0, none⟩) x9_2.length co22) y324 from (by (with_reducible repeat (first | apply Kd.R_alloc | apply Kd.R_drewN | apply Kd.R_drew)); exact HO_9.out)); obtain ⟨ce78, hcl78, hM78, hcc78, hfr78⟩ := Kd.R_elem HX78.out z28 ((ji27) : Int) (of_decide_eq_true (by first | (with_reducible assumption) | assumption)) (by have h_ : ((ji27) : Int) < ((x9_2.length : Int) : Int) := of_decide_eq_true (by first | (with_reducible assumption) | assumption); first | exact h_ | (have e_ := (Kd.R_reads' HO_9.out).1; omega) | simpa using h_); obtain rfl := k28_openM hM78; have HP78 := Kd.R_seg HX78.out ((ji27) : Int) (of_decide_eq_true (by first | (with_reducible assumption) | assumption)) (by have h_ : ((ji27) : Int) < ((x9_2.length : Int) : Int) := of_decide_eq_true (by first | (with_reducible assumption) | assumption); first | exact h_ | (have e_ := (Kd.R_reads' HO_9.out).1; omega) | simpa using h_) (seg := [.int .i64 a3]) (j := 4) hcl78 hcc78 (show 5 ≤ 7 from by decide) (x' := (⟨(rd_T28 y324 (ji27)).f0, (rd_T28 y324 (ji27)).f1, (rd_T28 y324 (ji27)).f2, (rd_T28 y324 (ji27)).f3, a3, (rd_T28 y324 (ji27)).f5, (rd_T28 y324 (ji27)).f6⟩ : S28)) (k28_mkM _ _ _ (⟨(rd_T28 y324 (ji27)).f0, (rd_T28 y324 (ji27)).f1, (rd_T28 y324 (ji27)).f2, (rd_T28 y324 (ji27)).f3, a3, (rd_T28 y324 (ji27)).f5, (rd_T28 y324 (ji27)).f6⟩ : S28) ) (fun _ hk => hk); have hx78_4 := hcc78 4 _ rfl; (try simp only [show (k28).sz = 7 from rfl, Nat.mul_one, Nat.add_zero] at hx78_4); have hf78_4 := hfr78 4; (try simp only [show (k28).sz = 7 from rfl, Nat.mul_one, Nat.add_zero] at hf78_4); clear hcl78 hcc78 hfr78 hM78) | ((with_reducible refine gate_store (t := 2) (p := 93) rfl ?_); refine store_event (t := 2) (p := 93) (v := ?vo_w79) (w1 := (w77.setCell ⟨go30, ((ji27) : Int).toNat * 7 + 4, none⟩ (.int .i64 a3))) ?hg ?ho ?hn ?hr ?_; (case ho => rfl); (case hg => rfl); (case hn => rfl); (case hr => first | (go_simp; done) | (go_simp; rfl)); intro w79 hw; have hg : w77.grownBy w79 (some go30) := (by rw [hw]; exact HP78.2); have hp_ : Kd.R k28 28 w79 w.heap.size (fun k_ => k_ ≠ gb323) (.slice (some ⟨go30, 0, none⟩) x9_2.length co22) y325 := (by rw [hw, Ny325.out]; exact HP78.1); clear HP78; have n0_ := As0 (hp_); have n1_ := As0 (blk_grown (g := gb323) (o := .cells #[.int .i64 ((rd_T28 x9_2 (ji27)).f0), .int .i64 ((rd_T28 x9_2 (ji27)).f1), .int .i64 ((rd_T28 x9_2 (ji27)).f2), .int .i64 ((rd_T28 x9_2 (ji27)).f3), .int .i64 ((rd_T28 x9_2 (ji27)).f4), .int .i64 ((rd_T28 x9_2 (ji27)).f5), .int .i64 ((rd_T28 x9_2 (ji27)).f6)] 28 (0, 0)) (by (with_reducible repeat (first | refine blk_drewN ?_ _ | refine blk_drew ?_ | refine blk_alloc ?_ _)); exact BK323.out) hg (Kd.R_away HO_9.out (fun _ hk => hk))); have n2_ := As0 ((by rw [hw]; exact below_set (HB.out) GB30.out : Below w.heap.size w w79)); clear HO_9; clear BK323; clear HB; have HO_9 := n0_; have BK323 := n1_; have HB := n2_; clear n0_ n1_ n2_; clear hg hw hp_) | ((with_reducible refine gate_callee (f := 9) rfl ?_); refine goesL_ (some 97) rfl rfl Try.func9 (by kernel_rfl) rfl #[.slice A0 l0.length c0, .slice (some ⟨go30, 0, none⟩) y325.length co22] rfl (by (try simp only [List.map_toArray, List.map_cons, List.map_nil]); first | done | (rw [show y325.length = x9_2.length from (Kd.R_reads' HO_9.out).1.symm] <;> rfl) | rfl | (simp only [List.length_drop, List.length_take]; rfl)) ?_; (with_reducible refine (align_Code.calls kj20 _ _ l0 _ _ y325 t326 t327 t328 _ ?side1 ?side2 ?side3 ?side4 A32.out).mono ?_); (case side1 => repeat (first | exact (Kd.C_below HR0.out HB.out) | (with_reducible refine Kd.C_alloc ?_ _) | (with_reducible refine Kd.C_drewN ?_ _) | (with_reducible refine Kd.C_drew ?_))); (case side2 => exact HC0.out); (case side3 => repeat (first | exact (Kd.R_reads' HO_9.out).2.2 | (with_reducible refine Kd.C_alloc ?_ _) | (with_reducible refine Kd.C_drewN ?_ _) | (with_reducible refine Kd.C_drew ?_))); (case side4 => rw [show y325.length = x9_2.length from (Kd.R_reads' HO_9.out).1.symm]; exact (Kd.R_reads' HO_9.out).2.1); rintro e w80 ⟨v329, rfl, ho0, hb⟩; refine ⟨_, rfl, ?_⟩; have n0_ := As0 (Kd.R_below (by (with_reducible repeat (first | apply Kd.R_alloc | apply Kd.R_drewN | apply Kd.R_drew)); exact HO_9.out) hb); have n1_ := As0 (Kd.R_lower ho0 (below_size (by repeat (first | (with_reducible first | exact HB.out | apply below_alloc | apply bdN | apply bd1 | refine below_set ?_ GE323.out) | exact HB.out)))); have n2_ := As0 (blk_below (g := gb323) (o := .cells #[.int .i64 ((rd_T28 x9_2 (ji27)).f0), .int .i64 ((rd_T28 x9_2 (ji27)).f1), .int .i64 ((rd_T28 x9_2 (ji27)).f2), .int .i64 ((rd_T28 x9_2 (ji27)).f3), .int .i64 ((rd_T28 x9_2 (ji27)).f4), .int .i64 ((rd_T28 x9_2 (ji27)).f5), .int .i64 ((rd_T28 x9_2 (ji27)).f6)] 28 (0, 0)) (by (with_reducible repeat (first | refine blk_drewN ?_ _ | refine blk_drew ?_ | refine blk_alloc ?_ _)); exact BK323.out) hb); have n3_ := As0 (below_step (by repeat (first | (with_reducible first | exact HB.out | apply below_alloc | apply bdN | apply bd1 | refine below_set ?_ GE323.out) | exact HB.out)) hb); clear HO_9; clear BK323; clear HB; have HO_9 := n0_; have HO330 := n1_; have BK323 := n2_; have HB := n3_; clear n0_ n1_ n2_ n3_; (try clear hb); (try clear hb2); (try clear hk); (try clear hi); (try clear ho0)))
               have n0_ := As0 (Kd.R_drew HO_9.out)
               have n1_ := As0 (Kd.R_drew HO330.out)
               have n2_ := As0 (blk_drew BK323.out)
               have n3_ := As0 (bd1 HB.out)
               clear HO_9
               clear HO330
               clear BK323
               clear HB
               have HO_9 := n0_
               have HO330 := n1_
               have BK323 := n2_
               have HB := n3_
               clear n0_ n1_ n2_ n3_
               have p331 : 0 ≤ ((ji27) : Int) := of_decide_eq_true (by first | (with_reducible assumption) | assumption)
               have q331 : (ji27) < (y325.length : Int) := (by have h_ : ((ji27) : Int) < ((x9_2.length : Int) : Int) := of_decide_eq_true (by first | (with_reducible assumption) | assumption); first | (have e_ := (Kd.R_reads' HO_9.out).1; omega) | simpa only [Ny324.out, Ny325.out, List.length_set] using h_)
               have ql331 : (((ji27) : Int) < ((x9_2.length : Int) : Int)) = True := eq_true (of_decide_eq_true (by first | (with_reducible assumption) | assumption))
               obtain ⟨ad331, e331, hx331_0, hx331_1, hx331_2, hx331_3, hx331_4, hx331_5, hx331_6⟩ := at_T28 (Kd.R_reads' HO_9.out).2.2 (ji27) p331 q331
               obtain rfl : (⟨go30, 0, none⟩ : Addr) = ad331 := (by injection e331)
               (first | simp only [add_plain] at hx331_0 | simp only [add_at] at hx331_0 | simp only [Addr.add, Nat.zero_add] at hx331_0 | skip)
               (first | simp only [add_plain] at hx331_1 | simp only [add_at] at hx331_1 | simp only [Addr.add, Nat.zero_add] at hx331_1 | skip)
               (first | simp only [add_plain] at hx331_2 | simp only [add_at] at hx331_2 | simp only [Addr.add, Nat.zero_add] at hx331_2 | skip)
               (first | simp only [add_plain] at hx331_3 | simp only [add_at] at hx331_3 | simp only [Addr.add, Nat.zero_add] at hx331_3 | skip)
               (first | simp only [add_plain] at hx331_4 | simp only [add_at] at hx331_4 | simp only [Addr.add, Nat.zero_add] at hx331_4 | skip)
               (first | simp only [add_plain] at hx331_5 | simp only [add_at] at hx331_5 | simp only [Addr.add, Nat.zero_add] at hx331_5 | skip)
               (first | simp only [add_plain] at hx331_6 | simp only [add_at] at hx331_6 | simp only [Addr.add, Nat.zero_add] at hx331_6 | skip)
               replace p331 := eq_true p331
               replace q331 := eq_true q331
               refine start_ (n := 6) (S := fun w' => w'.cell? ⟨gb323, 0, none⟩ = some (.int .i64 ((rd_T28 x9_2 (ji27)).f0)) ∧ w'.cell? ⟨gb323, 1, none⟩ = some (.int .i64 ((rd_T28 x9_2 (ji27)).f1)) ∧ w'.cell? ⟨gb323, 2, none⟩ = some (.int .i64 ((rd_T28 x9_2 (ji27)).f2)) ∧ w'.cell? ⟨gb323, 3, none⟩ = some (.int .i64 ((rd_T28 x9_2 (ji27)).f3)) ∧ w'.cell? ⟨gb323, 4, none⟩ = some (.int .i64 ((rd_T28 x9_2 (ji27)).f4)) ∧ w'.cell? ⟨gb323, 5, none⟩ = some (.int .i64 ((rd_T28 x9_2 (ji27)).f5)) ∧ w'.cell? ⟨gb323, 6, none⟩ = some (.int .i64 ((rd_T28 x9_2 (ji27)).f6)) ∧ w'.cell? ⟨go30, ((ji27)).toNat * 7, none⟩ = some (.int .i64 ((rd_T28 y325 (ji27)).f0)) ∧ w'.cell? ⟨go30, ((ji27)).toNat * 7 + 1, none⟩ = some (.int .i64 ((rd_T28 y325 (ji27)).f1)) ∧ w'.cell? ⟨go30, ((ji27)).toNat * 7 + 2, none⟩ = some (.int .i64 ((rd_T28 y325 (ji27)).f2)) ∧ w'.cell? ⟨go30, ((ji27)).toNat * 7 + 3, none⟩ = some (.int .i64 ((rd_T28 y325 (ji27)).f3)) ∧ w'.cell? ⟨go30, ((ji27)).toNat * 7 + 4, none⟩ = some (.int .i64 ((rd_T28 y325 (ji27)).f4)) ∧ w'.cell? ⟨go30, ((ji27)).toNat * 7 + 5, none⟩ = some (.int .i64 ((rd_T28 y325 (ji27)).f5)) ∧ w'.cell? ⟨go30, ((ji27)).toNat * 7 + 6, none⟩ = some (.int .i64 ((rd_T28 y325 (ji27)).f6))) (ds := []) #[false, false, false, false, false, false] (by kernel_rfl) rfl rfl ⟨(blk_cell BK323.out 0).trans rfl, (blk_cell BK323.out 1).trans rfl, (blk_cell BK323.out 2).trans rfl, (blk_cell BK323.out 3).trans rfl, (blk_cell BK323.out 4).trans rfl, (blk_cell BK323.out 5).trans rfl, (blk_cell BK323.out 6).trans rfl, hx331_0, hx331_1, hx331_2, hx331_3, hx331_4, hx331_5, hx331_6⟩ (fun hHeld => ?_)
               generalize w80.drew = w81 at HO_9 HO330 BK323 HB hx331_0 hx331_1 hx331_2 hx331_3 hx331_4 hx331_5 hx331_6 hHeld ⊢
               refine pure_ (i := 0) (N := some 101) (v := ?_) (a' := ?_) #[true, false, false, false, false, false] rfl rfl (by kernel_rfl) (fun _ _ _ h => h) (Or.inl ⟨by rfl, ?_⟩) ?_ ?_
               rotate_left
               ·intro w'
                go_simp
                with_reducible rfl
               rotate_left
               ·simp only [Act.put, sL1, sL2, sL3, i64_w, i32_w]
                rfl
               refine pure_ (i := 1) (N := some 102) (v := ?_) (a' := ?_) #[true, true, false, false, false, false] rfl rfl (by kernel_rfl) (fun _ _ _ h => h) (Or.inl ⟨by rfl, ?_⟩) ?_ ?_
               rotate_left
               ·intro w'
                go_simp
                with_reducible rfl
               rotate_left
               ·simp only [Act.put, sL1, sL2, sL3, i64_w, i32_w]
                rfl
               refine pure_ (i := 2) (N := some 103) (v := ?_) (a' := ?_) #[true, true, true, false, false, false] rfl rfl (by kernel_rfl) (fun _ _ _ h => h) (Or.inl ⟨by rfl, ?_⟩) ?_ ?_
               rotate_left
               ·intro w'
                go_simp
                with_reducible rfl
               rotate_left
               ·simp only [Act.put, sL1, sL2, sL3, i64_w, i32_w]
                rfl
               refine take_ (i := 3) (N := some 104) (v := ?_) (a' := ?_) #[true, true, true, true, false, false] rfl rfl (by kernel_rfl) (fun _ _ _ h => h) (Or.inl ⟨by rfl, ?_⟩) hHeld ?_ ?_
               rotate_left
               ·rintro w' ⟨s0, s1, s2, s3, s4, s5, s6, s7, s8, s9, s10, s11, s12, s13⟩
                go_simp
                with_reducible rfl
               rotate_left
               ·simp only [Act.put, sL1, sL2, sL3, i64_w, i32_w]
                rfl
               refine take_ (i := 4) (N := some 105) (v := ?_) (a' := ?_) #[true, true, true, true, true, false] rfl rfl (by kernel_rfl) (fun _ _ _ h => h) (Or.inl ⟨by rfl, ?_⟩) hHeld ?_ ?_
               rotate_left
               ·rintro w' ⟨s0, s1, s2, s3, s4, s5, s6, s7, s8, s9, s10, s11, s12, s13⟩
                go_simp
                with_reducible rfl
               rotate_left
               ·simp only [Act.put, sL1, sL2, sL3, i64_w, i32_w]
                rfl
               refine pure_ (i := 5) (N := some 106) (v := ?_) (a' := ?_) #[true, true, true, true, true, true] rfl rfl (by kernel_rfl) (fun _ _ _ h => h) (Or.inl ⟨by rfl, ?_⟩) ?_ ?_
               rotate_left
               ·intro w'
                go_simp
                with_reducible rfl
               rotate_left
               ·simp only [Act.put, sL1, sL2, sL3, i64_w, i32_w]
                rfl
               refine done_ (by kernel_rfl) ?_
               try go_wp2
               go_ret
               exact ⟨by first | rfl | (simp [errW_none, errW_some] <;> rfl) | (simp only [← hji27]; first | rfl | (simp [errW_none, errW_some] <;> rfl)) | (simp [*, errW_none, errW_some] <;> rfl), by repeat (first | (with_reducible first | exact HB.out | apply below_alloc | apply bdN | apply bd1 | refine below_set ?_ GE323.out) | exact HB.out)⟩
            ·rw [if_neg c29] at H
             exact absurd H (by simp)
           ·rw [if_neg c28] at H
            exact absurd H (by simp)

end Go.Proofs.Ytchlilkhgagdeaa.X
