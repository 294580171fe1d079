-- Written by a program of this session (xprint), out of the translation. Not trusted: Lean checks it.
import Derived.Test.YtchlilkhgagdeaaX0
import Derived.Test.YtchlilkhgagdeaaX2
import Derived.Test.YtchlilkhgagdeaaX4
import Derived.Test.YtchlilkhgagdeaaX6
namespace Go.Proofs.Ytchlilkhgagdeaa.X
open Go.RowKit Go.Proofs.YtchlilkhgagdeaaW.PrintWords Go.Proofs.YtchlilkhgagdeaaW.PrintLast Go.Proofs.YtchlilkhgagdeaaW.PrintMore
attribute [local go_sem] max2_int min2_int max_two min_two max_three min_three max_four min_four   -- for this text's walks alone
set_option linter.unusedVariables false
set_option linter.unusedSimpArgs false

attribute [local go_sem high] eqA30 eqA58
/-! ### regcertref13_Code: function 10 -/
mutual
def regcertref13_Code.l0 : Nat → List (S25) → List (S28) → List Int → List Int → List (S58) → Int → Int → Int → Option ((List (S58)) × Int × Int)
 | 0, _, _, _, _, _, _, _, _ => none
 | k + 1, x0, x1, x7, x8, x9, x10, x11, x12 => if x12 < (x8.length : Int) then (if x12 ≥ (x7.length : Int) then (regcertref13_Code.j1 k x0 x1 x7 x8 x9 x10 x11 x12 true) else (if 0 ≤ x12 then (if x12 < (x7.length : Int) then (if 0 ≤ (rd x7 x12) then (if (rd x7 x12) < (x0.length : Int) then (if 0 ≤ (rd x8 x12) then (if (rd x8 x12) < (x1.length : Int) then ((regcertref13_Same.f ((rd_T25 x0 (rd x7 x12)).f0) ((rd_T25 x0 (rd x7 x12)).f1) ((rd_T25 x0 (rd x7 x12)).f2) ((rd_T25 x0 (rd x7 x12)).f3) ((rd_T25 x0 (rd x7 x12)).f4) ((rd_T28 x1 (rd x8 x12)).f0) ((rd_T28 x1 (rd x8 x12)).f1) ((rd_T28 x1 (rd x8 x12)).f2) ((rd_T28 x1 (rd x8 x12)).f3) ((rd_T28 x1 (rd x8 x12)).f4) ((rd_T28 x1 (rd x8 x12)).f5) ((rd_T28 x1 (rd x8 x12)).f6)).bind fun t170 => (regcertref13_Code.j1 k x0 x1 x7 x8 x9 x10 x11 x12 (!t170))) else (none)) else (none)) else (none)) else (none)) else (none)) else (none))) else (if (x7.length : Int) > (x8.length : Int) then (some (([] : List (S58)), (x1.length : Int), 20)) else (if x9.length < 2932031007402 then (some ((x9 ++ [(⟨x10, (x0.length : Int), x11, (x1.length : Int), (-1), (-1)⟩ : S58)]), (x1.length : Int), 0)) else (none)))
def regcertref13_Code.j1 : Nat → List (S25) → List (S28) → List Int → List Int → List (S58) → Int → Int → Int → Bool → Option ((List (S58)) × Int × Int)
 | 0, _, _, _, _, _, _, _, _, _ => none
 | k + 1, x0, x1, x7, x8, x9, x10, x11, x12, x44 => if x44 = true then (if 0 ≤ x12 then (if x12 < (x8.length : Int) then (some (([] : List (S58)), rd x8 x12, 20)) else (none)) else (none)) else (if 0 ≤ x12 then (if x12 < (x7.length : Int) then (if x12 < (x8.length : Int) then (if x9.length < 2932031007402 then (regcertref13_Code.l0 k x0 x1 x7 x8 (x9 ++ [(⟨x10, rd x7 x12, x11, rd x8 x12, rd x7 x12, rd x8 x12⟩ : S58)]) (wrap64 ((rd x7 x12) + 1)) (wrap64 ((rd x8 x12) + 1)) (wrap64 (x12 + 1))) else (none)) else (none)) else (none)) else (none))
end
def regcertref13_Code.f (k : Nat) (l0 : List (S25)) (l1 : List (S28)) : Option ((List (S58)) × Int × Int) := (regcertref13_Operations.f k l0).bind fun t160 => ((regcertref13_Others.f k l1).bind fun t163 => (regcertref13_Code.l0 k l0 l1 t160 t163 ([] : List (S58)) 0 0 0))
theorem regcertref13_Code.mono_l : ∀ k, (∀ y0 y1 y2 y3 y4 y5 y6 y7, LeO (regcertref13_Code.l0 k y0 y1 y2 y3 y4 y5 y6 y7) (regcertref13_Code.l0 (k + 1) y0 y1 y2 y3 y4 y5 y6 y7)) ∧ (∀ y0 y1 y2 y3 y4 y5 y6 y7 y8, LeO (regcertref13_Code.j1 k y0 y1 y2 y3 y4 y5 y6 y7 y8) (regcertref13_Code.j1 (k + 1) y0 y1 y2 y3 y4 y5 y6 y7 y8))
 | 0 => ⟨fun _ _ _ _ _ _ _ _ r h => by simp [regcertref13_Code.l0] at h, fun _ _ _ _ _ _ _ _ _ r h => by simp [regcertref13_Code.j1] at h⟩
 | k + 1 => by
  obtain ⟨ih0, ih1⟩ := regcertref13_Code.mono_l k
  refine ⟨?_, ?_⟩
  ·intro y0 y1 y2 y3 y4 y5 y6 y7
   unfold regcertref13_Code.l0
   repeat' first
   | (with_reducible exact ih0 _ _ _ _ _ _ _ _)
   | (with_reducible exact ih1 _ _ _ _ _ _ _ _ _)
   | (with_reducible exact regcertref13_Operations.mono _ _)
   | (with_reducible exact regcertref13_Others.mono _ _)
   | (with_reducible exact LeO.refl _)
   | (with_reducible exact LeO.none _)
   | (with_reducible refine LeO.ite ?_ ?_)
   | (with_reducible refine LeO.bind ?_ (fun _ => ?_))
   | exact ih0 _ _ _ _ _ _ _ _
   | exact ih1 _ _ _ _ _ _ _ _ _
   | exact regcertref13_Operations.mono _ _
   | exact regcertref13_Others.mono _ _
   | exact LeO.none _
   | refine LeO.ite ?_ ?_
   | refine LeO.bind ?_ (fun _ => ?_)
  ·intro y0 y1 y2 y3 y4 y5 y6 y7 y8
   unfold regcertref13_Code.j1
   repeat' first
   | (with_reducible exact ih0 _ _ _ _ _ _ _ _)
   | (with_reducible exact ih1 _ _ _ _ _ _ _ _ _)
   | (with_reducible exact regcertref13_Operations.mono _ _)
   | (with_reducible exact regcertref13_Others.mono _ _)
   | (with_reducible exact LeO.refl _)
   | (with_reducible exact LeO.none _)
   | (with_reducible refine LeO.ite ?_ ?_)
   | (with_reducible refine LeO.bind ?_ (fun _ => ?_))
   | exact ih0 _ _ _ _ _ _ _ _
   | exact ih1 _ _ _ _ _ _ _ _ _
   | exact regcertref13_Operations.mono _ _
   | exact regcertref13_Others.mono _ _
   | exact LeO.none _
   | refine LeO.ite ?_ ?_
   | refine LeO.bind ?_ (fun _ => ?_)
theorem regcertref13_Code.mono : ∀ a0 a1 k, LeO (regcertref13_Code.f k a0 a1) (regcertref13_Code.f (k + 1) a0 a1) := by
 intro a0 a1 k
 obtain ⟨ih0, ih1⟩ := regcertref13_Code.mono_l k
 unfold regcertref13_Code.f
 repeat' first
   | (with_reducible exact ih0 _ _ _ _ _ _ _ _)
   | (with_reducible exact ih1 _ _ _ _ _ _ _ _ _)
   | (with_reducible exact regcertref13_Operations.mono _ _)
   | (with_reducible exact regcertref13_Others.mono _ _)
   | (with_reducible exact LeO.refl _)
   | (with_reducible exact LeO.none _)
   | (with_reducible refine LeO.ite ?_ ?_)
   | (with_reducible refine LeO.bind ?_ (fun _ => ?_))
   | exact ih0 _ _ _ _ _ _ _ _
   | exact ih1 _ _ _ _ _ _ _ _ _
   | exact regcertref13_Operations.mono _ _
   | exact regcertref13_Others.mono _ _
   | exact LeO.none _
   | refine LeO.ite ?_ ?_
   | refine LeO.bind ?_ (fun _ => ?_)
def regcertref13_Code.T9 : Bool × List (List Nat × List Nat) := (true, [([], []), ([], []), ([1], [1]), ([0, 2], [0, 2]), ([3], [3]), ([4], [4]), ([4], [4]), ([4], [4]), ([6, 7, 4], [4, 6, 7]), ([8, 4], [4, 8]), ([5, 9, 4], [4, 5, 9]), ([10, 4], [4, 10]), ([4], [4]), ([4], [4]), ([4], [4]), ([13, 14, 4], [4, 13, 14]), ([15, 4], [4, 15]), ([12, 16, 4], [4, 12, 16]), ([17, 4], [4, 17]), ([11, 18, 4, 4], [4, 11, 18]), ([19, 4], [4, 19]), ([4, 20], [4, 20])])
def regcertref13_Code.B9 : List Nat := [0, 0, 2, 7, 15, 31, 31, 31, 223, 479, 1023, 2047, 31, 31, 31, 24607, 57375, 127007, 258079, 524287, 1048575, 2097151]
theorem regcertref13_Code.tab9 : rtab .any (opsOf Try.f10 9) = regcertref13_Code.T9 := by kernel_rfl
theorem regcertref13_Code.bits9 : waitsOk regcertref13_Code.T9.2 regcertref13_Code.B9 = true := by kernel_rfl
def regcertref13_Code.T11 : Bool × List (List Nat × List Nat) := (true, [([], []), ([], []), ([], []), ([], []), ([2, 3], [2, 3]), ([4], [4]), ([], []), ([], []), ([], []), ([7, 8], [7, 8]), ([9], [9]), ([], []), ([], []), ([11, 12], [11, 12]), ([13], [13]), ([], []), ([], []), ([15, 16], [15, 16]), ([17], [17]), ([1, 5, 6, 10, 14, 18], [1, 5, 6, 10, 14, 18]), ([19], [19]), ([0, 20], [0, 20]), ([21, 21, 0, 1, 2, 3, 4, 5, 6, 7, 8, 9, 10, 11, 12, 13, 14, 15, 16, 17, 18, 19, 20, 21], [0, 21])])
def regcertref13_Code.B11 : List Nat := [0, 0, 0, 0, 12, 28, 0, 0, 0, 384, 896, 0, 0, 6144, 14336, 0, 0, 98304, 229376, 524286, 1048574, 2097151, 4194303]
theorem regcertref13_Code.tab11 : rtab .any (opsOf Try.f10 11) = regcertref13_Code.T11 := by kernel_rfl
theorem regcertref13_Code.bits11 : waitsOk regcertref13_Code.T11.2 regcertref13_Code.B11 = true := by kernel_rfl
set_option maxHeartbeats 8000000 in
set_option maxRecDepth 100000 in
theorem regcertref13_Code.calls (k : Nat) (A0 : Option Addr) (c0 : Nat) (l0 : List (S25)) (A1 : Option Addr) (c1 : Nat) (l1 : List (S28)) (r1 : List (S58)) (r2 : Int) (r3 : Int) (w : World) (hr0 : Kd.C k25 w A0 l0.length l0) (hc0 : l0.length ≤ c0) (hr1 : Kd.C k28 w A1 l1.length l1) (hc1 : l1.length ≤ c1) (h : regcertref13_Code.f k l0 l1 = some (r1, r2, r3)) :
  Calls Try.prog 10 #[.slice A0 l0.length c0, .slice A1 l1.length c1] w fun e w' => ∃ v0_ : Value, e = .returned (.tuple #[v0_, .int .i64 r2, .int .i64 r3]) ∧ Kd.R k58 58 w' w.heap.size (fun _ => True) v0_ r1 ∧ Below w.heap.size w w' := by
 have hu25 := Try.underlying25
 have hu28 := Try.underlying28
 have hu58 := Try.underlying58
 have HR0 := As0 hr0
 have HC0 := As0 hc0
 clear hr0 hc0
 have HR1 := As0 hr1
 have HC1 := As0 hc1
 clear hr1 hc1
 have HB := As0 (Below.refl w.heap.size w)
 have H : ((regcertref13_Operations.f k l0).bind fun t160 => ((regcertref13_Others.f k l1).bind fun t163 => (regcertref13_Code.l0 k l0 l1 t160 t163 ([] : List (S58)) 0 0 0))) = some (r1, r2, r3) := h
 clear h
 replace H := Option.bind_eq_some_iff.mp H
 obtain ⟨t160, A30, H⟩ := H
 replace H : ((regcertref13_Others.f k l1).bind fun t163 => (regcertref13_Code.l0 k l0 l1 t160 t163 ([] : List (S58)) 0 0 0)) = some (r1, r2, r3) := H
 have A3 := As0 A30
 clear A30
 replace H := Option.bind_eq_some_iff.mp H
 obtain ⟨t163, A40, H⟩ := H
 replace H : (regcertref13_Code.l0 k l0 l1 t160 t163 ([] : List (S58)) 0 0 0) = some (r1, r2, r3) := H
 have A4 := As0 A40
 clear A40
 have H' := As0 H
 clear H
 go_enter Try.func10, Try.ntmps10
 go_wp2_with (first | ((with_reducible refine gate_callee (f := 21) rfl ?_); refine goesL_ (some 14) rfl rfl Try.func21 (by kernel_rfl) rfl #[.slice A0 l0.length c0] rfl (by (try simp only [List.map_toArray, List.map_cons, List.map_nil]); first | done | rfl | (simp only [List.length_drop, List.length_take]; rfl)) ?_; (with_reducible refine (regcertref13_Operations.calls k _ _ l0 t160 _ ?side1 ?side2 A3.out).mono ?_); (case side1 => repeat (first | exact HR0.out | (with_reducible refine Kd.C_alloc ?_ _) | (with_reducible refine Kd.C_drewN ?_ _) | (with_reducible refine Kd.C_drew ?_))); (case side2 => exact HC0.out); rintro e w5 ⟨v161, rfl, ho0, hb⟩; refine ⟨_, rfl, ?_⟩; have n0_ := As0 (Kd.R_lower ho0 (below_size (by repeat (first | (with_reducible first | exact HB.out | apply below_alloc | apply bdN | apply bd1) | exact HB.out)))); have n1_ := As0 (below_step (by repeat (first | (with_reducible first | exact HB.out | apply below_alloc | apply bdN | apply bd1) | exact HB.out)) hb); clear HB; have HO162 := n0_; have HB := n1_; clear n0_ n1_; (try clear hb); (try clear hb2); (try clear hk); (try clear hi); (try clear ho0)) | ((with_reducible refine gate_callee (f := 22) rfl ?_); refine goesL_ (some 16) rfl rfl Try.func22 (by kernel_rfl) rfl #[.slice A1 l1.length c1] rfl (by (try simp only [List.map_toArray, List.map_cons, List.map_nil]); first | done | rfl | (simp only [List.length_drop, List.length_take]; rfl)) ?_; (with_reducible refine (regcertref13_Others.calls k _ _ l1 t163 _ ?side1 ?side2 A4.out).mono ?_); (case side1 => repeat (first | exact (Kd.C_below HR1.out HB.out) | (with_reducible refine Kd.C_alloc ?_ _) | (with_reducible refine Kd.C_drewN ?_ _) | (with_reducible refine Kd.C_drew ?_))); (case side2 => exact HC1.out); rintro e w6 ⟨v164, rfl, ho0, hb⟩; refine ⟨_, rfl, ?_⟩; have n0_ := As0 (Kd.R_elder' (by (with_reducible repeat (first | apply Kd.R_alloc | apply Kd.R_drewN | apply Kd.R_drew)); exact HO162.out) (Kd.R_base ho0) hb); have n1_ := As0 (Kd.R_lower (Kd.R_new' ho0 (Kd.R_lt (by (with_reducible repeat (first | apply Kd.R_alloc | apply Kd.R_drewN | apply Kd.R_drew)); exact HO162.out))) (below_size (by repeat (first | (with_reducible first | exact HB.out | apply below_alloc | apply bdN | apply bd1) | exact HB.out)))); have n2_ := As0 (below_step (by repeat (first | (with_reducible first | exact HB.out | apply below_alloc | apply bdN | apply bd1) | exact HB.out)) hb); clear HO162; clear HB; have HO162 := n0_; have HO165 := n1_; have HB := n2_; clear n0_ n1_ n2_; (try clear hb); (try clear hb2); (try clear hk); (try clear hi); (try clear ho0)))
 go_loopg [9, 10, 11, 12] k (fun kq v9 v10 v11 v12 w' => ∃ (x9_1 : List (S58)) (x10_1 : Int) (x11_1 : Int) (x12_1 : Int), v10 = .int .i64 x10_1 ∧ v11 = .int .i64 x11_1 ∧ v12 = .int .i64 x12_1 ∧ Aside0 (regcertref13_Code.l0 kq l0 l1 t160 t163 x9_1 x10_1 x11_1 x12_1 = some (r1, r2, r3)) ∧ Aside0 (kq ≤ k) ∧ Aside0 (Kd.R (Kd.int .i64) 3 w' w.heap.size (fun k_ => some k_ ≠ (v164 : Value).ownBlock) v161 t160) ∧ Aside0 (Kd.R (Kd.int .i64) 3 w' w.heap.size (fun k_ => some k_ ≠ (v161 : Value).ownBlock) v164 t163) ∧ Aside0 (Kd.R k58 58 w' w.heap.size (fun _ => True) v9 x9_1) ∧ Aside0 (Below w.heap.size w w'))
 case atStart => exact ⟨(([] : List (S58))), (0), (0), (0), (by first | rfl | (simp; done) | (simp [*]; done)), (by first | rfl | (simp; done) | (simp [*]; done)), (by first | rfl | (simp; done) | (simp [*]; done)), H', ⟨Nat.le_refl _⟩, ⟨by (with_reducible repeat (first | apply Kd.R_alloc | apply Kd.R_drewN | apply Kd.R_drew)); exact Kd.R_mono HO162.out (fun _ hk => hk.2)⟩, ⟨by (with_reducible repeat (first | apply Kd.R_alloc | apply Kd.R_drewN | apply Kd.R_drew)); exact Kd.R_mono HO165.out (fun _ hk => hk.2)⟩, ⟨by first | exact Kd.R_nil _ _ _ _ _ | exact Kd.N_nil _ _ _ _ _ | exact Kd.V_nil _ _ _ _ _ | exact Kd.Q_nil _ _ _ _ _ | exact Kd.S_nil _ _ _ _ _⟩, ⟨by repeat (first | (with_reducible first | exact HB.out | apply below_alloc | apply bdN | apply bd1) | exact HB.out)⟩⟩
 case round =>
  clear H'
  try clear c1
  try clear c2
  try clear p2
  obtain ⟨x9_1, x10_1, x11_1, x12_1, rfl, rfl, rfl, HA, HK1, HO_7, HO_8, HO_9, HB⟩ := hrel
  cases gk with
  | zero => exact absurd HA.out (by simp [regcertref13_Code.l0])
  | succ k1 =>
   have H := HA.out
   clear HA
   simp only [regcertref13_Code.l0] at H
   by_cases c7 : x12_1 < (t163.length : Int)
   ·rw [if_pos c7] at H
    have c7b0 : decide (x12_1 < (t163.length : Int)) = true := decide_eq_true c7
    clear c7
    have HC8 := As0 H
    clear H
    obtain ⟨Ao9, co9, eo9⟩ := Kd.R_slice HO_8.out
    subst eo9
    go_upto_region 9 with (fail)
    go_cut [44] (fun v44 wc => ∃ (kq : Nat) (x44_7 : Bool), v44 = .bool x44_7 ∧ Aside0 (regcertref13_Code.j1 kq l0 l1 t160 t163 x9_1 x10_1 x11_1 x12_1 x44_7 = some (r1, r2, r3)) ∧ Aside0 (kq ≤ k1) ∧ Aside0 (Kd.R (Kd.int .i64) 3 wc w.heap.size (fun k_ => some k_ ≠ ((.slice Ao9 t163.length co9) : Value).ownBlock) v161 t160) ∧ Aside0 (Kd.R (Kd.int .i64) 3 wc w.heap.size (fun k_ => some k_ ≠ (v161 : Value).ownBlock) (.slice Ao9 t163.length co9) t163) ∧ Aside0 (Kd.R k58 58 wc w.heap.size (fun _ => True) u9 x9_1) ∧ Aside0 (Below w.heap.size w wc))
    case first =>
     have H := HC8.out
     clear HC8
     by_cases c10 : x12_1 ≥ (t160.length : Int)
     ·rw [if_pos c10] at H
      have c10b0 : decide ((t160.length : Int) ≤ x12_1) = true := decide_eq_true c10
      clear c10
      (first | rw [c10b0] | (simp only [i64_w, i32_w]; rw [c10b0]) | skip)
      have H' := As0 H
      clear H
      try go_wp2
      have n0_ := As0 (Kd.R_drew HO_7.out)
      have n1_ := As0 (Kd.R_drew HO_8.out)
      have n2_ := As0 (Kd.R_drew HO_9.out)
      have n3_ := As0 (bd1 HB.out)
      clear HO_7
      clear HO_8
      clear HO_9
      clear HB
      have HO_7 := n0_
      have HO_8 := n1_
      have HO_9 := n2_
      have HB := n3_
      clear n0_ n1_ n2_ n3_
      obtain ⟨Ao12, co12, eo12⟩ := Kd.R_slice HO_7.out
      (first | subst eo12 | (injection eo12 with f1_ f2_ f3_; have f4_ := f1_.symm; have f5_ := f3_.symm; clear f1_ f2_ f3_; subst f4_; subst f5_))
      refine start_ (n := 22) (S := fun w' => True) (ds := []) #[false, false, false, false, false, false, false, false, false, false, false, false, false, false, false, false, false, false, false, false, false, false] (by kernel_rfl) rfl rfl trivial (fun hHeld => ?_); refine with_tabW regcertref13_Code.tab9 regcertref13_Code.bits9 (fun HT_ HW_ => ?_)
      generalize wr.drew = w11 at HO_7 HO_8 HO_9 HB hHeld ⊢
      refine pure_ (i := 0) (N := some 23) (v := ?_) (a' := ?_) #[true, false, false, false, false, false, false, false, false, false, false, false, false, false, false, false, false, false, false, false, false, false] rfl rfl (any_of HT_.out (by kernel_rfl)) (fun _ _ _ h => h) (Or.inl ⟨by rfl, ?_⟩) ?_ ?_
      rotate_left
      ·intro w'
       go_simp
       with_reducible rfl
      rotate_left
      ·simp only [Act.put, sL1, sL2, sL3, i64_w, i32_w]
       rfl
      refine pure_ (i := 1) (N := some 24) (v := ?_) (a' := ?_) #[true, true, false, false, false, false, false, false, false, false, false, false, false, false, false, false, false, false, false, false, false, false] rfl rfl (any_of HT_.out (by kernel_rfl)) (fun _ _ _ h => h) (Or.inl ⟨by rfl, ?_⟩) ?_ ?_
      rotate_left
      ·intro w'
       go_simp
       with_reducible rfl
      rotate_left
      ·simp only [Act.put, sL1, sL2, sL3, i64_w, i32_w]
       rfl
      refine pure_ (i := 2) (N := some 25) (v := ?_) (a' := ?_) #[true, true, true, false, false, false, false, false, false, false, false, false, false, false, false, false, false, false, false, false, false, false] rfl rfl (any_of HT_.out (by kernel_rfl)) (fun _ _ _ h => h) (Or.inl ⟨by rfl, ?_⟩) ?_ ?_
      rotate_left
      ·intro w'
       go_simp
       with_reducible rfl
      rotate_left
      ·simp only [Act.put, sL1, sL2, sL3, i64_w, i32_w]
       rfl
      refine pure_ (i := 3) (N := some 26) (v := ?_) (a' := ?_) #[true, true, true, true, false, false, false, false, false, false, false, false, false, false, false, false, false, false, false, false, false, false] rfl rfl (any_of HT_.out (by kernel_rfl)) (fun _ _ _ h => h) (Or.inl ⟨by rfl, ?_⟩) ?_ ?_
      rotate_left
      ·intro w'
       go_simp
       with_reducible rfl
      rotate_left
      ·simp only [Act.put, sL1, sL2, sL3, i64_w, i32_w]
       rfl
      refine pure_ (i := 4) (N := some 27) (v := ?_) (a' := ?_) #[true, true, true, true, true, false, false, false, false, false, false, false, false, false, false, false, false, false, false, false, false, false] rfl rfl (any_of HT_.out (by kernel_rfl)) (fun _ _ _ h => h) (Or.inl ⟨by rfl, ?_⟩) ?_ ?_
      rotate_left
      ·intro w'
       go_simp
       with_reducible rfl
      rotate_left
      ·simp only [Act.put, sL1, sL2, sL3, i64_w, i32_w]
       rfl
      refine pure_ (i := 5) (N := some 28) (v := undef) (a' := ?_) #[true, true, true, true, true, true, false, false, false, false, false, false, false, false, false, false, false, false, false, false, false, false] rfl rfl (any_of HT_.out (by kernel_rfl)) (fun _ _ _ h => h) (Or.inr ⟨by rfl, rfl⟩) ?_ ?_
      rotate_left
      ·simp only [Act.put, sL1, sL2, sL3, i64_w, i32_w]
       rfl
      refine pure_ (i := 6) (N := some 29) (v := undef) (a' := ?_) #[true, true, true, true, true, true, true, false, false, false, false, false, false, false, false, false, false, false, false, false, false, false] rfl rfl (any_of HT_.out (by kernel_rfl)) (fun _ _ _ h => h) (Or.inr ⟨by rfl, rfl⟩) ?_ ?_
      rotate_left
      ·simp only [Act.put, sL1, sL2, sL3, i64_w, i32_w]
       rfl
      refine pure_ (i := 7) (N := some 30) (v := undef) (a' := ?_) #[true, true, true, true, true, true, true, true, false, false, false, false, false, false, false, false, false, false, false, false, false, false] rfl rfl (any_of HT_.out (by kernel_rfl)) (fun _ _ _ h => h) (Or.inr ⟨by rfl, rfl⟩) ?_ ?_
      rotate_left
      ·simp only [Act.put, sL1, sL2, sL3, i64_w, i32_w]
       rfl
      refine pure_ (i := 8) (N := some 31) (v := undef) (a' := ?_) #[true, true, true, true, true, true, true, true, true, false, false, false, false, false, false, false, false, false, false, false, false, false] rfl rfl (any_of HT_.out (by kernel_rfl)) (fun _ _ _ h => h) (Or.inr ⟨by rfl, rfl⟩) ?_ ?_
      rotate_left
      ·simp only [Act.put, sL1, sL2, sL3, i64_w, i32_w]
       rfl
      refine pure_ (i := 9) (N := some 32) (v := undef) (a' := ?_) #[true, true, true, true, true, true, true, true, true, true, false, false, false, false, false, false, false, false, false, false, false, false] rfl rfl (any_of HT_.out (by kernel_rfl)) (fun _ _ _ h => h) (Or.inr ⟨by rfl, rfl⟩) ?_ ?_
      rotate_left
      ·simp only [Act.put, sL1, sL2, sL3, i64_w, i32_w]
       rfl
      refine pure_ (i := 10) (N := some 33) (v := undef) (a' := ?_) #[true, true, true, true, true, true, true, true, true, true, true, false, false, false, false, false, false, false, false, false, false, false] rfl rfl (any_of HT_.out (by kernel_rfl)) (fun _ _ _ h => h) (Or.inr ⟨by rfl, rfl⟩) ?_ ?_
      rotate_left
      ·simp only [Act.put, sL1, sL2, sL3, i64_w, i32_w]
       rfl
      refine pure_ (i := 11) (N := some 34) (v := undef) (a' := ?_) #[true, true, true, true, true, true, true, true, true, true, true, true, false, false, false, false, false, false, false, false, false, false] rfl rfl (any_of HT_.out (by kernel_rfl)) (fun _ _ _ h => h) (Or.inr ⟨by rfl, rfl⟩) ?_ ?_
      rotate_left
      ·simp only [Act.put, sL1, sL2, sL3, i64_w, i32_w]
       rfl
      refine pure_ (i := 12) (N := some 35) (v := undef) (a' := ?_) #[true, true, true, true, true, true, true, true, true, true, true, true, true, false, false, false, false, false, false, false, false, false] rfl rfl (any_of HT_.out (by kernel_rfl)) (fun _ _ _ h => h) (Or.inr ⟨by rfl, rfl⟩) ?_ ?_
      rotate_left
      ·simp only [Act.put, sL1, sL2, sL3, i64_w, i32_w]
       rfl
      refine pure_ (i := 13) (N := some 36) (v := undef) (a' := ?_) #[true, true, true, true, true, true, true, true, true, true, true, true, true, true, false, false, false, false, false, false, false, false] rfl rfl (any_of HT_.out (by kernel_rfl)) (fun _ _ _ h => h) (Or.inr ⟨by rfl, rfl⟩) ?_ ?_
      rotate_left
      ·simp only [Act.put, sL1, sL2, sL3, i64_w, i32_w]
       rfl
      refine pure_ (i := 14) (N := some 37) (v := undef) (a' := ?_) #[true, true, true, true, true, true, true, true, true, true, true, true, true, true, true, false, false, false, false, false, false, false] rfl rfl (any_of HT_.out (by kernel_rfl)) (fun _ _ _ h => h) (Or.inr ⟨by rfl, rfl⟩) ?_ ?_
      rotate_left
      ·simp only [Act.put, sL1, sL2, sL3, i64_w, i32_w]
       rfl
      refine pure_ (i := 15) (N := some 38) (v := undef) (a' := ?_) #[true, true, true, true, true, true, true, true, true, true, true, true, true, true, true, true, false, false, false, false, false, false] rfl rfl (any_of HT_.out (by kernel_rfl)) (fun _ _ _ h => h) (Or.inr ⟨by rfl, rfl⟩) ?_ ?_
      rotate_left
      ·simp only [Act.put, sL1, sL2, sL3, i64_w, i32_w]
       rfl
      refine pure_ (i := 16) (N := some 39) (v := undef) (a' := ?_) #[true, true, true, true, true, true, true, true, true, true, true, true, true, true, true, true, true, false, false, false, false, false] rfl rfl (any_of HT_.out (by kernel_rfl)) (fun _ _ _ h => h) (Or.inr ⟨by rfl, rfl⟩) ?_ ?_
      rotate_left
      ·simp only [Act.put, sL1, sL2, sL3, i64_w, i32_w]
       rfl
      refine pure_ (i := 17) (N := some 40) (v := undef) (a' := ?_) #[true, true, true, true, true, true, true, true, true, true, true, true, true, true, true, true, true, true, false, false, false, false] rfl rfl (any_of HT_.out (by kernel_rfl)) (fun _ _ _ h => h) (Or.inr ⟨by rfl, rfl⟩) ?_ ?_
      rotate_left
      ·simp only [Act.put, sL1, sL2, sL3, i64_w, i32_w]
       rfl
      refine pure_ (i := 18) (N := some 41) (v := undef) (a' := ?_) #[true, true, true, true, true, true, true, true, true, true, true, true, true, true, true, true, true, true, true, false, false, false] rfl rfl (any_of HT_.out (by kernel_rfl)) (fun _ _ _ h => h) (Or.inr ⟨by rfl, rfl⟩) ?_ ?_
      rotate_left
      ·simp only [Act.put, sL1, sL2, sL3, i64_w, i32_w]
       rfl
      refine pure_ (i := 19) (N := some 42) (v := undef) (a' := ?_) #[true, true, true, true, true, true, true, true, true, true, true, true, true, true, true, true, true, true, true, true, false, false] rfl rfl (any_of HT_.out (by kernel_rfl)) (fun _ _ _ h => h) (Or.inr ⟨by rfl, rfl⟩) ?_ ?_
      rotate_left
      ·simp only [Act.put, sL1, sL2, sL3, i64_w, i32_w]
       rfl
      refine pure_ (i := 20) (N := some 43) (v := undef) (a' := ?_) #[true, true, true, true, true, true, true, true, true, true, true, true, true, true, true, true, true, true, true, true, true, false] rfl rfl (any_of HT_.out (by kernel_rfl)) (fun _ _ _ h => h) (Or.inr ⟨by rfl, rfl⟩) ?_ ?_
      rotate_left
      ·simp only [Act.put, sL1, sL2, sL3, i64_w, i32_w]
       rfl
      refine pure_ (i := 21) (N := some 44) (v := ?_) (a' := ?_) #[true, true, true, true, true, true, true, true, true, true, true, true, true, true, true, true, true, true, true, true, true, true] rfl rfl (any_of HT_.out (by kernel_rfl)) (fun _ _ _ h => h) (Or.inl ⟨by rfl, ?_⟩) ?_ ?_
      rotate_left
      ·intro w'
       go_simp
       with_reducible rfl
      rotate_left
      ·simp only [Act.put, sL1, sL2, sL3, i64_w, i32_w]
       rfl
      refine done_ (done_of HT_.out (by kernel_rfl)) ?_
      try go_wp2
      go_meet
      case rel => exact ⟨_, (true), (by first | rfl | (simp; done) | (simp [*]; done)), H', ⟨by have := HK1.out; first | omega | exact Nat.le_refl _⟩, ⟨by (with_reducible repeat (first | apply Kd.R_alloc | apply Kd.R_drewN | apply Kd.R_drew)); exact HO_7.out⟩, ⟨by (with_reducible repeat (first | apply Kd.R_alloc | apply Kd.R_drewN | apply Kd.R_drew)); exact HO_8.out⟩, ⟨by (with_reducible repeat (first | apply Kd.R_alloc | apply Kd.R_drewN | apply Kd.R_drew)); exact HO_9.out⟩, ⟨by repeat (first | (with_reducible first | exact HB.out | apply below_alloc | apply bdN | apply bd1) | exact HB.out)⟩⟩
     ·rw [if_neg c10] at H
      have c10b0 : decide ((t160.length : Int) ≤ x12_1) = false := decide_eq_false c10
      clear c10
      (first | rw [c10b0] | (simp only [i64_w, i32_w]; rw [c10b0]) | skip)
      by_cases c13 : 0 ≤ x12_1
      ·rw [if_pos c13] at H
       have c13b0 : decide (0 ≤ x12_1) = true := decide_eq_true c13
       clear c13
       by_cases c14 : x12_1 < (t160.length : Int)
       ·rw [if_pos c14] at H
        have c14b0 : decide (x12_1 < (t160.length : Int)) = true := decide_eq_true c14
        clear c14
        by_cases c15 : 0 ≤ (rd t160 x12_1)
        ·rw [if_pos c15] at H
         have c15b0 : decide (0 ≤ (rd t160 x12_1)) = true := decide_eq_true c15
         clear c15
         by_cases c16 : (rd t160 x12_1) < (l0.length : Int)
         ·rw [if_pos c16] at H
          have c16b0 : decide ((rd t160 x12_1) < (l0.length : Int)) = true := decide_eq_true c16
          clear c16
          by_cases c17 : 0 ≤ (rd t163 x12_1)
          ·rw [if_pos c17] at H
           have c17b0 : decide (0 ≤ (rd t163 x12_1)) = true := decide_eq_true c17
           clear c17
           by_cases c18 : (rd t163 x12_1) < (l1.length : Int)
           ·rw [if_pos c18] at H
            have c18b0 : decide ((rd t163 x12_1) < (l1.length : Int)) = true := decide_eq_true c18
            clear c18
            replace H := Option.bind_eq_some_iff.mp H
            obtain ⟨t170, A190, H⟩ := H
            replace H : (regcertref13_Code.j1 k1 l0 l1 t160 t163 x9_1 x10_1 x11_1 x12_1 (!t170)) = some (r1, r2, r3) := H
            have A19 := As0 A190
            clear A190
            have H' := As0 H
            clear H
            try go_wp2
            have n0_ := As0 (Kd.R_drew HO_7.out)
            have n1_ := As0 (Kd.R_drew HO_8.out)
            have n2_ := As0 (Kd.R_drew HO_9.out)
            have n3_ := As0 (bd1 HB.out)
            clear HO_7
            clear HO_8
            clear HO_9
            clear HB
            have HO_7 := n0_
            have HO_8 := n1_
            have HO_9 := n2_
            have HB := n3_
            clear n0_ n1_ n2_ n3_
            obtain ⟨Ao21, co21, eo21⟩ := Kd.R_slice HO_7.out
            (first | subst eo21 | (injection eo21 with f1_ f2_ f3_; have f4_ := f1_.symm; have f5_ := f3_.symm; clear f1_ f2_ f3_; subst f4_; subst f5_))
            have p166 : 0 ≤ (x12_1 : Int) := of_decide_eq_true (by first | (with_reducible assumption) | assumption)
            have q166 : x12_1 < (t160.length : Int) := of_decide_eq_true (by first | (with_reducible assumption) | assumption)
            obtain ⟨ad166, e166, hx166_0⟩ := Kd.at_int (Kd.R_reads' HO_7.out).2.2 x12_1 p166 q166
            cases e166
            replace p166 := eq_true p166
            replace q166 := eq_true q166
            have p167 : 0 ≤ ((rd t160 x12_1) : Int) := of_decide_eq_true (by first | (with_reducible assumption) | assumption)
            have q167 : (rd t160 x12_1) < (l0.length : Int) := of_decide_eq_true (by first | (with_reducible assumption) | assumption)
            obtain ⟨ad167, e167, hx167_0, hx167_1, hx167_2, hx167_3, hx167_4⟩ := at_T25 HR0.out (rd t160 x12_1) p167 q167
            have hw167_4 := hx167_4
            have hw167_3 := hx167_3
            have hw167_2 := hx167_2
            have hw167_1 := hx167_1
            have hw167_0 := hx167_0
            cases e167
            replace hx167_0 := (HB.out.cell (wblt w hx167_0)).trans hx167_0
            replace hx167_1 := (HB.out.cell (wblt w hx167_1)).trans hx167_1
            replace hx167_2 := (HB.out.cell (wblt w hx167_2)).trans hx167_2
            replace hx167_3 := (HB.out.cell (wblt w hx167_3)).trans hx167_3
            replace hx167_4 := (HB.out.cell (wblt w hx167_4)).trans hx167_4
            replace p167 := eq_true p167
            replace q167 := eq_true q167
            have p168 : 0 ≤ (x12_1 : Int) := of_decide_eq_true (by first | (with_reducible assumption) | assumption)
            have q168 : x12_1 < (t163.length : Int) := of_decide_eq_true (by first | (with_reducible assumption) | assumption)
            obtain ⟨ad168, e168, hx168_0⟩ := Kd.at_int (Kd.R_reads' HO_8.out).2.2 x12_1 p168 q168
            cases e168
            replace p168 := eq_true p168
            replace q168 := eq_true q168
            have p169 : 0 ≤ ((rd t163 x12_1) : Int) := of_decide_eq_true (by first | (with_reducible assumption) | assumption)
            have q169 : (rd t163 x12_1) < (l1.length : Int) := of_decide_eq_true (by first | (with_reducible assumption) | assumption)
            obtain ⟨ad169, e169, hx169_0, hx169_1, hx169_2, hx169_3, hx169_4, hx169_5, hx169_6⟩ := at_T28 HR1.out (rd t163 x12_1) p169 q169
            have hw169_6 := hx169_6
            have hw169_5 := hx169_5
            have hw169_4 := hx169_4
            have hw169_3 := hx169_3
            have hw169_2 := hx169_2
            have hw169_1 := hx169_1
            have hw169_0 := hx169_0
            cases e169
            replace hx169_0 := (HB.out.cell (wblt w hx169_0)).trans hx169_0
            replace hx169_1 := (HB.out.cell (wblt w hx169_1)).trans hx169_1
            replace hx169_2 := (HB.out.cell (wblt w hx169_2)).trans hx169_2
            replace hx169_3 := (HB.out.cell (wblt w hx169_3)).trans hx169_3
            replace hx169_4 := (HB.out.cell (wblt w hx169_4)).trans hx169_4
            replace hx169_5 := (HB.out.cell (wblt w hx169_5)).trans hx169_5
            replace hx169_6 := (HB.out.cell (wblt w hx169_6)).trans hx169_6
            replace p169 := eq_true p169
            replace q169 := eq_true q169
            refine start_ (n := 22) (S := fun w' => w'.cell? (ad166.add (x12_1).toNat) = some (.int .i64 (rd t160 x12_1)) ∧ w'.cell? (ad167.add (((rd t160 x12_1)).toNat * 5)) = some (.int .i64 ((rd_T25 l0 (rd t160 x12_1)).f0)) ∧ w'.cell? ⟨(ad167.add (((rd t160 x12_1)).toNat * 5)).block, (ad167.add (((rd t160 x12_1)).toNat * 5)).off + 1, none⟩ = some (.int .i64 ((rd_T25 l0 (rd t160 x12_1)).f1)) ∧ w'.cell? ⟨(ad167.add (((rd t160 x12_1)).toNat * 5)).block, (ad167.add (((rd t160 x12_1)).toNat * 5)).off + 2, none⟩ = some (.int .i64 ((rd_T25 l0 (rd t160 x12_1)).f2)) ∧ w'.cell? ⟨(ad167.add (((rd t160 x12_1)).toNat * 5)).block, (ad167.add (((rd t160 x12_1)).toNat * 5)).off + 3, none⟩ = some (.int .i64 ((rd_T25 l0 (rd t160 x12_1)).f3)) ∧ w'.cell? ⟨(ad167.add (((rd t160 x12_1)).toNat * 5)).block, (ad167.add (((rd t160 x12_1)).toNat * 5)).off + 4, none⟩ = some (.int .i64 ((rd_T25 l0 (rd t160 x12_1)).f4)) ∧ w'.cell? (ad168.add (x12_1).toNat) = some (.int .i64 (rd t163 x12_1)) ∧ w'.cell? (ad169.add (((rd t163 x12_1)).toNat * 7)) = some (.int .i64 ((rd_T28 l1 (rd t163 x12_1)).f0)) ∧ w'.cell? ⟨(ad169.add (((rd t163 x12_1)).toNat * 7)).block, (ad169.add (((rd t163 x12_1)).toNat * 7)).off + 1, none⟩ = some (.int .i64 ((rd_T28 l1 (rd t163 x12_1)).f1)) ∧ w'.cell? ⟨(ad169.add (((rd t163 x12_1)).toNat * 7)).block, (ad169.add (((rd t163 x12_1)).toNat * 7)).off + 2, none⟩ = some (.int .i64 ((rd_T28 l1 (rd t163 x12_1)).f2)) ∧ w'.cell? ⟨(ad169.add (((rd t163 x12_1)).toNat * 7)).block, (ad169.add (((rd t163 x12_1)).toNat * 7)).off + 3, none⟩ = some (.int .i64 ((rd_T28 l1 (rd t163 x12_1)).f3)) ∧ w'.cell? ⟨(ad169.add (((rd t163 x12_1)).toNat * 7)).block, (ad169.add (((rd t163 x12_1)).toNat * 7)).off + 4, none⟩ = some (.int .i64 ((rd_T28 l1 (rd t163 x12_1)).f4)) ∧ w'.cell? ⟨(ad169.add (((rd t163 x12_1)).toNat * 7)).block, (ad169.add (((rd t163 x12_1)).toNat * 7)).off + 5, none⟩ = some (.int .i64 ((rd_T28 l1 (rd t163 x12_1)).f5)) ∧ w'.cell? ⟨(ad169.add (((rd t163 x12_1)).toNat * 7)).block, (ad169.add (((rd t163 x12_1)).toNat * 7)).off + 6, none⟩ = some (.int .i64 ((rd_T28 l1 (rd t163 x12_1)).f6))) (ds := []) #[false, false, false, false, false, false, false, false, false, false, false, false, false, false, false, false, false, false, false, false, false, false] (by kernel_rfl) rfl rfl ⟨hx166_0, ((HB.out.cell (wblt w hw167_0)).trans hw167_0), ((HB.out.cell (wblt w hw167_1)).trans hw167_1), ((HB.out.cell (wblt w hw167_2)).trans hw167_2), ((HB.out.cell (wblt w hw167_3)).trans hw167_3), ((HB.out.cell (wblt w hw167_4)).trans hw167_4), hx168_0, ((HB.out.cell (wblt w hw169_0)).trans hw169_0), ((HB.out.cell (wblt w hw169_1)).trans hw169_1), ((HB.out.cell (wblt w hw169_2)).trans hw169_2), ((HB.out.cell (wblt w hw169_3)).trans hw169_3), ((HB.out.cell (wblt w hw169_4)).trans hw169_4), ((HB.out.cell (wblt w hw169_5)).trans hw169_5), ((HB.out.cell (wblt w hw169_6)).trans hw169_6)⟩ (fun hHeld => ?_); refine with_tabW regcertref13_Code.tab9 regcertref13_Code.bits9 (fun HT_ HW_ => ?_)
            generalize wr.drew = w20 at HO_7 HO_8 HO_9 HB hx166_0 hx167_0 hx167_1 hx167_2 hx167_3 hx167_4 hx168_0 hx169_0 hx169_1 hx169_2 hx169_3 hx169_4 hx169_5 hx169_6 hHeld ⊢
            refine pure_ (i := 0) (N := some 23) (v := ?_) (a' := ?_) #[true, false, false, false, false, false, false, false, false, false, false, false, false, false, false, false, false, false, false, false, false, false] rfl rfl (any_of HT_.out (by kernel_rfl)) (fun _ _ _ h => h) (Or.inl ⟨by rfl, ?_⟩) ?_ ?_
            rotate_left
            ·intro w'
             go_simp
             with_reducible rfl
            rotate_left
            ·simp only [Act.put, sL1, sL2, sL3, i64_w, i32_w]
             rfl
            refine pure_ (i := 1) (N := some 24) (v := ?_) (a' := ?_) #[true, true, false, false, false, false, false, false, false, false, false, false, false, false, false, false, false, false, false, false, false, false] rfl rfl (any_of HT_.out (by kernel_rfl)) (fun _ _ _ h => h) (Or.inl ⟨by rfl, ?_⟩) ?_ ?_
            rotate_left
            ·intro w'
             go_simp
             with_reducible rfl
            rotate_left
            ·simp only [Act.put, sL1, sL2, sL3, i64_w, i32_w]
             rfl
            refine pure_ (i := 2) (N := some 25) (v := ?_) (a' := ?_) #[true, true, true, false, false, false, false, false, false, false, false, false, false, false, false, false, false, false, false, false, false, false] rfl rfl (any_of HT_.out (by kernel_rfl)) (fun _ _ _ h => h) (Or.inl ⟨by rfl, ?_⟩) ?_ ?_
            rotate_left
            ·intro w'
             go_simp
             with_reducible rfl
            rotate_left
            ·simp only [Act.put, sL1, sL2, sL3, i64_w, i32_w]
             rfl
            refine pure_ (i := 3) (N := some 26) (v := ?_) (a' := ?_) #[true, true, true, true, false, false, false, false, false, false, false, false, false, false, false, false, false, false, false, false, false, false] rfl rfl (any_of HT_.out (by kernel_rfl)) (fun _ _ _ h => h) (Or.inl ⟨by rfl, ?_⟩) ?_ ?_
            rotate_left
            ·intro w'
             go_simp
             with_reducible rfl
            rotate_left
            ·simp only [Act.put, sL1, sL2, sL3, i64_w, i32_w]
             rfl
            refine pure_ (i := 4) (N := some 27) (v := ?_) (a' := ?_) #[true, true, true, true, true, false, false, false, false, false, false, false, false, false, false, false, false, false, false, false, false, false] rfl rfl (any_of HT_.out (by kernel_rfl)) (fun _ _ _ h => h) (Or.inl ⟨by rfl, ?_⟩) ?_ ?_
            rotate_left
            ·intro w'
             go_simp
             with_reducible rfl
            rotate_left
            ·simp only [Act.put, sL1, sL2, sL3, i64_w, i32_w]
             rfl
            refine pure_ (i := 5) (N := some 28) (v := ?_) (a' := ?_) #[true, true, true, true, true, true, false, false, false, false, false, false, false, false, false, false, false, false, false, false, false, false] rfl rfl (any_of HT_.out (by kernel_rfl)) (fun _ _ _ h => h) (Or.inl ⟨by rfl, ?_⟩) ?_ ?_
            rotate_left
            ·intro w'
             go_simp
             with_reducible rfl
            rotate_left
            ·simp only [Act.put, sL1, sL2, sL3, i64_w, i32_w]
             rfl
            refine pure_ (i := 6) (N := some 29) (v := ?_) (a' := ?_) #[true, true, true, true, true, true, true, false, false, false, false, false, false, false, false, false, false, false, false, false, false, false] rfl rfl (any_of HT_.out (by kernel_rfl)) (fun _ _ _ h => h) (Or.inl ⟨by rfl, ?_⟩) ?_ ?_
            rotate_left
            ·intro w'
             go_simp
             with_reducible rfl
            rotate_left
            ·simp only [Act.put, sL1, sL2, sL3, i64_w, i32_w]
             rfl
            refine pure_ (i := 7) (N := some 30) (v := ?_) (a' := ?_) #[true, true, true, true, true, true, true, true, false, false, false, false, false, false, false, false, false, false, false, false, false, false] rfl rfl (any_of HT_.out (by kernel_rfl)) (fun _ _ _ h => h) (Or.inl ⟨by rfl, ?_⟩) ?_ ?_
            rotate_left
            ·intro w'
             go_simp
             with_reducible rfl
            rotate_left
            ·simp only [Act.put, sL1, sL2, sL3, i64_w, i32_w]
             rfl
            refine pure_ (i := 8) (N := some 31) (v := ?_) (a' := ?_) #[true, true, true, true, true, true, true, true, true, false, false, false, false, false, false, false, false, false, false, false, false, false] rfl rfl (any_of HT_.out (by kernel_rfl)) (fun _ _ _ h => h) (Or.inl ⟨by rfl, ?_⟩) ?_ ?_
            rotate_left
            ·intro w'
             go_simp
             with_reducible rfl
            rotate_left
            ·simp only [Act.put, sL1, sL2, sL3, i64_w, i32_w]
             rfl
            refine pure_ (i := 12) (N := some 35) (v := ?_) (a' := ?_) #[true, true, true, true, true, true, true, true, true, false, false, false, true, false, false, false, false, false, false, false, false, false] rfl rfl (any_of HT_.out (by kernel_rfl)) (fun _ _ _ h => h) (Or.inl ⟨by rfl, ?_⟩) ?_ ?_
            rotate_left
            ·intro w'
             go_simp
             with_reducible rfl
            rotate_left
            ·simp only [Act.put, sL1, sL2, sL3, i64_w, i32_w]
             rfl
            refine pure_ (i := 13) (N := some 36) (v := ?_) (a' := ?_) #[true, true, true, true, true, true, true, true, true, false, false, false, true, true, false, false, false, false, false, false, false, false] rfl rfl (any_of HT_.out (by kernel_rfl)) (fun _ _ _ h => h) (Or.inl ⟨by rfl, ?_⟩) ?_ ?_
            rotate_left
            ·intro w'
             go_simp
             with_reducible rfl
            rotate_left
            ·simp only [Act.put, sL1, sL2, sL3, i64_w, i32_w]
             rfl
            refine pure_ (i := 14) (N := some 37) (v := ?_) (a' := ?_) #[true, true, true, true, true, true, true, true, true, false, false, false, true, true, true, false, false, false, false, false, false, false] rfl rfl (any_of HT_.out (by kernel_rfl)) (fun _ _ _ h => h) (Or.inl ⟨by rfl, ?_⟩) ?_ ?_
            rotate_left
            ·intro w'
             go_simp
             with_reducible rfl
            rotate_left
            ·simp only [Act.put, sL1, sL2, sL3, i64_w, i32_w]
             rfl
            refine pure_ (i := 15) (N := some 38) (v := ?_) (a' := ?_) #[true, true, true, true, true, true, true, true, true, false, false, false, true, true, true, true, false, false, false, false, false, false] rfl rfl (any_of HT_.out (by kernel_rfl)) (fun _ _ _ h => h) (Or.inl ⟨by rfl, ?_⟩) ?_ ?_
            rotate_left
            ·intro w'
             go_simp
             with_reducible rfl
            rotate_left
            ·simp only [Act.put, sL1, sL2, sL3, i64_w, i32_w]
             rfl
            refine take_ (i := 9) (N := some 32) (v := ?_) (a' := ?_) #[true, true, true, true, true, true, true, true, true, true, false, false, true, true, true, true, false, false, false, false, false, false] rfl rfl (take_ofW HT_.out HW_.out (by kernel_rfl)) (fun _ _ _ h => h) (Or.inl ⟨by rfl, ?_⟩) hHeld ?_ ?_
            rotate_left
            ·rintro w' ⟨s0, s1, s2, s3, s4, s5, s6, s7, s8, s9, s10, s11, s12, s13⟩
             go_simp
             with_reducible rfl
            rotate_left
            ·simp only [Act.put, sL1, sL2, sL3, i64_w, i32_w]
             rfl
            refine pure_ (i := 10) (N := some 33) (v := ?_) (a' := ?_) #[true, true, true, true, true, true, true, true, true, true, true, false, true, true, true, true, false, false, false, false, false, false] rfl rfl (any_of HT_.out (by kernel_rfl)) (fun _ _ _ h => h) (Or.inl ⟨by rfl, ?_⟩) ?_ ?_
            rotate_left
            ·intro w'
             go_simp
             with_reducible rfl
            rotate_left
            ·simp only [Act.put, sL1, sL2, sL3, i64_w, i32_w]
             rfl
            refine take_ (i := 11) (N := some 34) (v := ?_) (a' := ?_) #[true, true, true, true, true, true, true, true, true, true, true, true, true, true, true, true, false, false, false, false, false, false] rfl rfl (take_ofW HT_.out HW_.out (by kernel_rfl)) (fun _ _ _ h => h) (Or.inl ⟨by rfl, ?_⟩) hHeld ?_ ?_
            rotate_left
            ·rintro w' ⟨s0, s1, s2, s3, s4, s5, s6, s7, s8, s9, s10, s11, s12, s13⟩
             go_simp
             with_reducible rfl
            rotate_left
            ·simp only [Act.put, sL1, sL2, sL3, i64_w, i32_w]
             rfl
            refine take_ (i := 16) (N := some 39) (v := ?_) (a' := ?_) #[true, true, true, true, true, true, true, true, true, true, true, true, true, true, true, true, true, false, false, false, false, false] rfl rfl (take_ofW HT_.out HW_.out (by kernel_rfl)) (fun _ _ _ h => h) (Or.inl ⟨by rfl, ?_⟩) hHeld ?_ ?_
            rotate_left
            ·rintro w' ⟨s0, s1, s2, s3, s4, s5, s6, s7, s8, s9, s10, s11, s12, s13⟩
             go_simp
             with_reducible rfl
            rotate_left
            ·simp only [Act.put, sL1, sL2, sL3, i64_w, i32_w]
             rfl
            refine pure_ (i := 17) (N := some 40) (v := ?_) (a' := ?_) #[true, true, true, true, true, true, true, true, true, true, true, true, true, true, true, true, true, true, false, false, false, false] rfl rfl (any_of HT_.out (by kernel_rfl)) (fun _ _ _ h => h) (Or.inl ⟨by rfl, ?_⟩) ?_ ?_
            rotate_left
            ·intro w'
             go_simp
             with_reducible rfl
            rotate_left
            ·simp only [Act.put, sL1, sL2, sL3, i64_w, i32_w]
             rfl
            refine take_ (i := 18) (N := some 41) (v := ?_) (a' := ?_) #[true, true, true, true, true, true, true, true, true, true, true, true, true, true, true, true, true, true, true, false, false, false] rfl rfl (take_ofW HT_.out HW_.out (by kernel_rfl)) (fun _ _ _ h => h) (Or.inl ⟨by rfl, ?_⟩) hHeld ?_ ?_
            rotate_left
            ·rintro w' ⟨s0, s1, s2, s3, s4, s5, s6, s7, s8, s9, s10, s11, s12, s13⟩
             go_simp
             with_reducible rfl
            rotate_left
            ·simp only [Act.put, sL1, sL2, sL3, i64_w, i32_w]
             rfl
            refine one_ (i := 19) (N := some 42) #[true, true, true, true, true, true, true, true, true, true, true, true, true, true, true, true, true, true, true, true, false, false] rfl rfl (one_of HT_.out (by kernel_rfl)) (by decide) (fun K hK => ?_)
            refine goes_ Try.func14 (by kernel_rfl) rfl #[.agg #[.int .i64 ((rd_T25 l0 (rd t160 x12_1)).f0), .int .i64 ((rd_T25 l0 (rd t160 x12_1)).f1), .int .i64 ((rd_T25 l0 (rd t160 x12_1)).f2), .int .i64 ((rd_T25 l0 (rd t160 x12_1)).f3), .int .i64 ((rd_T25 l0 (rd t160 x12_1)).f4)], .agg #[.int .i64 ((rd_T28 l1 (rd t163 x12_1)).f0), .int .i64 ((rd_T28 l1 (rd t163 x12_1)).f1), .int .i64 ((rd_T28 l1 (rd t163 x12_1)).f2), .int .i64 ((rd_T28 l1 (rd t163 x12_1)).f3), .int .i64 ((rd_T28 l1 (rd t163 x12_1)).f4), .int .i64 ((rd_T28 l1 (rd t163 x12_1)).f5), .int .i64 ((rd_T28 l1 (rd t163 x12_1)).f6)]] (by rfl) rfl rfl (by (try simp only [List.map_toArray, List.map_cons, List.map_nil]); first | done | rfl | (simp only [List.length_drop, List.length_take]; rfl)) ?_
            with_reducible refine (regcertref13_Same.calls ((rd_T25 l0 (rd t160 x12_1)).f0) ((rd_T25 l0 (rd t160 x12_1)).f1) ((rd_T25 l0 (rd t160 x12_1)).f2) ((rd_T25 l0 (rd t160 x12_1)).f3) ((rd_T25 l0 (rd t160 x12_1)).f4) ((rd_T28 l1 (rd t163 x12_1)).f0) ((rd_T28 l1 (rd t163 x12_1)).f1) ((rd_T28 l1 (rd t163 x12_1)).f2) ((rd_T28 l1 (rd t163 x12_1)).f3) ((rd_T28 l1 (rd t163 x12_1)).f4) ((rd_T28 l1 (rd t163 x12_1)).f5) ((rd_T28 l1 (rd t163 x12_1)).f6) t170 _ A19.out).mono ?_
            rintro e w22 ⟨rfl, hb⟩
            have HS0_ := (hb.cell (World.block_lt_of_cell? _ _ (hHeld.1))).trans (hHeld.1)
            have HS6_ := (hb.cell (World.block_lt_of_cell? _ _ (hHeld.2.2.2.2.2.2.1))).trans (hHeld.2.2.2.2.2.2.1)
            refine ⟨_, rfl, ?_⟩
            have n0_ := As0 (Kd.R_below (by (with_reducible repeat (first | apply Kd.R_alloc | apply Kd.R_drewN | apply Kd.R_drew)); exact HO_7.out) hb)
            have n1_ := As0 (Kd.R_below (by (with_reducible repeat (first | apply Kd.R_alloc | apply Kd.R_drewN | apply Kd.R_drew)); exact HO_8.out) hb)
            have n2_ := As0 (Kd.R_below (by (with_reducible repeat (first | apply Kd.R_alloc | apply Kd.R_drewN | apply Kd.R_drew)); exact HO_9.out) hb)
            have n3_ := As0 (below_step (by repeat (first | (with_reducible first | exact HB.out | apply below_alloc | apply bdN | apply bd1) | exact HB.out)) hb)
            clear HO_7
            clear HO_8
            clear HO_9
            clear HB
            have HO_7 := n0_
            have HO_8 := n1_
            have HO_9 := n2_
            have HB := n3_
            clear n0_ n1_ n2_ n3_
            (try clear hb)
            (try clear hb2)
            (try clear hk)
            (try clear hi)
            refine hK.out _ _ ⟨HS0_, ((HB.out.cell (wblt w hw167_0)).trans hw167_0), ((HB.out.cell (wblt w hw167_1)).trans hw167_1), ((HB.out.cell (wblt w hw167_2)).trans hw167_2), ((HB.out.cell (wblt w hw167_3)).trans hw167_3), ((HB.out.cell (wblt w hw167_4)).trans hw167_4), HS6_, ((HB.out.cell (wblt w hw169_0)).trans hw169_0), ((HB.out.cell (wblt w hw169_1)).trans hw169_1), ((HB.out.cell (wblt w hw169_2)).trans hw169_2), ((HB.out.cell (wblt w hw169_3)).trans hw169_3), ((HB.out.cell (wblt w hw169_4)).trans hw169_4), ((HB.out.cell (wblt w hw169_5)).trans hw169_5), ((HB.out.cell (wblt w hw169_6)).trans hw169_6)⟩ (fun hHeld => ?_)
            clear hK K
            refine norm_ (a' := ?_) ?_ ?_
            rotate_left
            ·show Act.put _ (some 42) _ = _
             simp only [Act.put, sL1, sL2, sL3, i64_w, i32_w]
             rfl
            refine pure_ (i := 20) (N := some 43) (v := ?_) (a' := ?_) #[true, true, true, true, true, true, true, true, true, true, true, true, true, true, true, true, true, true, true, true, true, false] rfl rfl (any_of HT_.out (by kernel_rfl)) (fun _ _ _ h => h) (Or.inl ⟨by rfl, ?_⟩) ?_ ?_
            rotate_left
            ·intro w'
             go_simp
             with_reducible rfl
            rotate_left
            ·simp only [Act.put, sL1, sL2, sL3, i64_w, i32_w]
             rfl
            refine pure_ (i := 21) (N := some 44) (v := ?_) (a' := ?_) #[true, true, true, true, true, true, true, true, true, true, true, true, true, true, true, true, true, true, true, true, true, true] rfl rfl (any_of HT_.out (by kernel_rfl)) (fun _ _ _ h => h) (Or.inl ⟨by rfl, ?_⟩) ?_ ?_
            rotate_left
            ·intro w'
             go_simp
             with_reducible rfl
            rotate_left
            ·simp only [Act.put, sL1, sL2, sL3, i64_w, i32_w]
             rfl
            refine done_ (done_of HT_.out (by kernel_rfl)) ?_
            try go_wp2
            go_meet
            case rel => exact ⟨_, (!t170), (by first | rfl | (simp; done) | (simp [*]; done)), H', ⟨by have := HK1.out; first | omega | exact Nat.le_refl _⟩, ⟨by (with_reducible repeat (first | apply Kd.R_alloc | apply Kd.R_drewN | apply Kd.R_drew)); exact HO_7.out⟩, ⟨by (with_reducible repeat (first | apply Kd.R_alloc | apply Kd.R_drewN | apply Kd.R_drew)); exact HO_8.out⟩, ⟨by (with_reducible repeat (first | apply Kd.R_alloc | apply Kd.R_drewN | apply Kd.R_drew)); exact HO_9.out⟩, ⟨by repeat (first | (with_reducible first | exact HB.out | apply below_alloc | apply bdN | apply bd1) | exact HB.out)⟩⟩
           ·rw [if_neg c18] at H
            exact absurd H (by simp)
          ·rw [if_neg c17] at H
           exact absurd H (by simp)
         ·rw [if_neg c16] at H
          exact absurd H (by simp)
        ·rw [if_neg c15] at H
         exact absurd H (by simp)
       ·rw [if_neg c14] at H
        exact absurd H (by simp)
      ·rw [if_neg c13] at H
       exact absurd H (by simp)
    case rest =>
     clear HC8
     try clear c1
     try clear p1
     try clear q1
     try clear hx1
     try clear c2
     try clear p2
     try clear c7
     try clear c7b0
     try clear c10
     try clear c10b0
     try clear c13
     try clear c13b0
     try clear c14
     try clear c14b0
     try clear c15
     try clear c15b0
     try clear c16
     try clear c16b0
     try clear p16
     try clear q16
     try clear hx16
     try clear c17
     try clear c17b0
     try clear c18
     try clear c18b0
     try clear c21
     try clear c22
     try clear hx166_0
     try clear hx167_0
     try clear hx167_1
     try clear hx167_2
     try clear hx167_3
     try clear hx167_4
     try clear hx168_0
     try clear hx169_0
     try clear hx169_1
     try clear hx169_2
     try clear hx169_3
     try clear hx169_4
     try clear hx169_5
     try clear hx169_6
     try clear p166
     try clear p167
     try clear p168
     try clear p169
     try clear p2
     try clear q166
     try clear q167
     try clear q168
     try clear q169
     obtain ⟨kq, x44_7, rfl, HA, HJ7, HO_7, HO_8, HO_9, HB⟩ := hcut
     cases kq with
     | zero => exact absurd HA.out (by simp [regcertref13_Code.j1])
     | succ kj7 =>
      have H := HA.out
      clear HA
      simp only [regcertref13_Code.j1] at H
      by_cases c23 : x44_7 = true
      ·subst c23
       have H1 : (if 0 ≤ x12_1 then (if x12_1 < (t163.length : Int) then (some (([] : List (S58)), rd t163 x12_1, 20)) else (none)) else (none)) = some (r1, r2, r3) := by rw [if_pos rfl] at H; exact H
       clear H
       have H := H1
       clear H1
       by_cases c24 : 0 ≤ x12_1
       ·rw [if_pos c24] at H
        have c24b0 : decide (0 ≤ x12_1) = true := decide_eq_true c24
        clear c24
        by_cases c25 : x12_1 < (t163.length : Int)
        ·rw [if_pos c25] at H
         have c25b0 : decide (x12_1 < (t163.length : Int)) = true := decide_eq_true c25
         clear c25
         simp only [Option.some.injEq, Prod.mk.injEq] at H
         obtain ⟨rfl, rfl, rfl⟩ := H
         try go_wp2
         have n0_ := As0 (Kd.R_drew HO_7.out)
         have n1_ := As0 (Kd.R_drew HO_8.out)
         have n2_ := As0 (Kd.R_drew HO_9.out)
         have n3_ := As0 (bd1 HB.out)
         clear HO_7
         clear HO_8
         clear HO_9
         clear HB
         have HO_7 := n0_
         have HO_8 := n1_
         have HO_9 := n2_
         have HB := n3_
         clear n0_ n1_ n2_ n3_
         have p171 : 0 ≤ (x12_1 : Int) := of_decide_eq_true (by first | (with_reducible assumption) | assumption)
         have q171 : x12_1 < (t163.length : Int) := of_decide_eq_true (by first | (with_reducible assumption) | assumption)
         obtain ⟨ad171, e171, hx171_0⟩ := Kd.at_int (Kd.R_reads' HO_8.out).2.2 x12_1 p171 q171
         cases e171
         replace p171 := eq_true p171
         replace q171 := eq_true q171
         refine start_ (n := 7) (S := fun w' => w'.cell? (ad171.add (x12_1).toNat) = some (.int .i64 (rd t163 x12_1))) (ds := []) #[false, false, false, false, false, false, false] (by kernel_rfl) rfl rfl (hx171_0) (fun hHeld => ?_)
         generalize wc.drew = w26 at HO_7 HO_8 HO_9 HB hx171_0 hHeld ⊢
         refine pure_ (i := 0) (N := some 45) (v := ?_) (a' := ?_) #[true, false, false, false, false, false, false] rfl rfl (by kernel_rfl) (fun _ _ _ h => h) (Or.inl ⟨by rfl, ?_⟩) ?_ ?_
         rotate_left
         ·intro w'
          go_simp
          with_reducible rfl
         rotate_left
         ·simp only [Act.put, sL1, sL2, sL3, i64_w, i32_w]
          rfl
         refine pure_ (i := 1) (N := some 46) (v := ?_) (a' := ?_) #[true, true, false, false, false, false, false] rfl rfl (by kernel_rfl) (fun _ _ _ h => h) (Or.inl ⟨by rfl, ?_⟩) ?_ ?_
         rotate_left
         ·intro w'
          go_simp
          with_reducible rfl
         rotate_left
         ·simp only [Act.put, sL1, sL2, sL3, i64_w, i32_w]
          rfl
         refine pure_ (i := 2) (N := some 47) (v := ?_) (a' := ?_) #[true, true, true, false, false, false, false] rfl rfl (by kernel_rfl) (fun _ _ _ h => h) (Or.inl ⟨by rfl, ?_⟩) ?_ ?_
         rotate_left
         ·intro w'
          go_simp
          with_reducible rfl
         rotate_left
         ·simp only [Act.put, sL1, sL2, sL3, i64_w, i32_w]
          rfl
         refine pure_ (i := 4) (N := some 4) (v := ?_) (a' := ?_) #[true, true, true, false, true, false, false] rfl rfl (by kernel_rfl) (fun _ _ _ h => h) (Or.inl ⟨by rfl, ?_⟩) ?_ ?_
         rotate_left
         ·intro w'
          go_simp
          with_reducible rfl
         rotate_left
         ·simp only [Act.put, sL1, sL2, sL3, i64_w, i32_w]
          rfl
         refine take_ (i := 3) (N := some 48) (v := ?_) (a' := ?_) #[true, true, true, true, true, false, false] rfl rfl (by kernel_rfl) (fun _ _ _ h => h) (Or.inl ⟨by rfl, ?_⟩) hHeld ?_ ?_
         rotate_left
         ·intro w' s0
          go_simp
          with_reducible rfl
         rotate_left
         ·simp only [Act.put, sL1, sL2, sL3, i64_w, i32_w]
          rfl
         refine pure_ (i := 5) (N := some 5) (v := ?_) (a' := ?_) #[true, true, true, true, true, true, false] rfl rfl (by kernel_rfl) (fun _ _ _ h => h) (Or.inl ⟨by rfl, ?_⟩) ?_ ?_
         rotate_left
         ·intro w'
          go_simp
          with_reducible rfl
         rotate_left
         ·simp only [Act.put, sL1, sL2, sL3, i64_w, i32_w]
          rfl
         refine pure_ (i := 6) (N := some 6) (v := ?_) (a' := ?_) #[true, true, true, true, true, true, true] rfl rfl (by kernel_rfl) (fun _ _ _ h => h) (Or.inl ⟨by rfl, ?_⟩) ?_ ?_
         rotate_left
         ·intro w'
          go_simp
          with_reducible rfl
         rotate_left
         ·simp only [Act.put, sL1, sL2, sL3, i64_w, i32_w]
          rfl
         refine done_ (by kernel_rfl) ?_
         try go_wp2
         go_ret3
         exact ⟨_, by first | rfl | (simp [errW_none, errW_some] <;> rfl) | (simp [*, errW_none, errW_some] <;> rfl), by first | exact Kd.R_nil _ _ _ _ _ | exact Kd.N_nil _ _ _ _ _ | exact Kd.V_nil _ _ _ _ _ | exact Kd.Q_nil _ _ _ _ _ | exact Kd.S_nil _ _ _ _ _, by repeat (first | (with_reducible first | exact HB.out | apply below_alloc | apply bdN | apply bd1) | exact HB.out)⟩
        ·rw [if_neg c25] at H
         exact absurd H (by simp)
       ·rw [if_neg c24] at H
        exact absurd H (by simp)
      ·replace c23 := Bool.eq_false_iff.mpr c23
       subst c23
       have H1 : (if 0 ≤ x12_1 then (if x12_1 < (t160.length : Int) then (if x12_1 < (t163.length : Int) then (if x9_1.length < 2932031007402 then (regcertref13_Code.l0 kj7 l0 l1 t160 t163 (x9_1 ++ [(⟨x10_1, rd t160 x12_1, x11_1, rd t163 x12_1, rd t160 x12_1, rd t163 x12_1⟩ : S58)]) (wrap64 ((rd t160 x12_1) + 1)) (wrap64 ((rd t163 x12_1) + 1)) (wrap64 (x12_1 + 1))) else (none)) else (none)) else (none)) else (none)) = some (r1, r2, r3) := by rw [if_neg (show ¬ (false = true) by decide)] at H; exact H
       clear H
       have H := H1
       clear H1
       by_cases c27 : 0 ≤ x12_1
       ·rw [if_pos c27] at H
        have c27b0 : decide (0 ≤ x12_1) = true := decide_eq_true c27
        clear c27
        by_cases c28 : x12_1 < (t160.length : Int)
        ·rw [if_pos c28] at H
         have c28b0 : decide (x12_1 < (t160.length : Int)) = true := decide_eq_true c28
         clear c28
         by_cases c29 : x12_1 < (t163.length : Int)
         ·rw [if_pos c29] at H
          have c29b0 : decide (x12_1 < (t163.length : Int)) = true := decide_eq_true c29
          clear c29
          by_cases c30 : x9_1.length < 2932031007402
          ·rw [if_pos c30] at H
           have LMc30 := As0 c30
           clear c30
           obtain ⟨y176, hy176⟩ : ∃ y_ : List (S58), y_ = (x9_1 ++ [(⟨x10_1, rd t160 x12_1, x11_1, rd t163 x12_1, rd t160 x12_1, rd t163 x12_1⟩ : S58)]) := ⟨_, rfl⟩
           replace H : (regcertref13_Code.l0 kj7 l0 l1 t160 t163 y176 (wrap64 ((rd t160 x12_1) + 1)) (wrap64 ((rd t163 x12_1) + 1)) (wrap64 (x12_1 + 1))) = some (r1, r2, r3) := by first | (rw [hy176]; with_reducible exact H) | (have H2_ := (Option.bind_some _ _).symm.trans H; rw [hy176]; with_reducible exact H2_) | (have H2_ := (Option.bind_some _ _).symm.trans H; with_reducible exact H2_) | with_reducible exact H | (rw [hy176]; exact H) | exact H
           have Ny176 := As0 hy176
           clear hy176
           have H' := As0 H
           clear H
           try go_wp2
           have n0_ := As0 (Kd.R_drew HO_7.out)
           have n1_ := As0 (Kd.R_drew HO_8.out)
           have n2_ := As0 (Kd.R_drew HO_9.out)
           have n3_ := As0 (bd1 HB.out)
           clear HO_7
           clear HO_8
           clear HO_9
           clear HB
           have HO_7 := n0_
           have HO_8 := n1_
           have HO_9 := n2_
           have HB := n3_
           clear n0_ n1_ n2_ n3_
           obtain ⟨Ao32, co32, eo32⟩ := Kd.R_slice HO_7.out
           (first | subst eo32 | (injection eo32 with f1_ f2_ f3_; have f4_ := f1_.symm; have f5_ := f3_.symm; clear f1_ f2_ f3_; subst f4_; subst f5_))
           have p172 : 0 ≤ (x12_1 : Int) := of_decide_eq_true (by first | (with_reducible assumption) | assumption)
           have q172 : x12_1 < (t160.length : Int) := of_decide_eq_true (by first | (with_reducible assumption) | assumption)
           obtain ⟨ad172, e172, hx172_0⟩ := Kd.at_int (Kd.R_reads' HO_7.out).2.2 x12_1 p172 q172
           cases e172
           replace p172 := eq_true p172
           replace q172 := eq_true q172
           have p173 : 0 ≤ (x12_1 : Int) := of_decide_eq_true (by first | (with_reducible assumption) | assumption)
           have q173 : x12_1 < (t163.length : Int) := of_decide_eq_true (by first | (with_reducible assumption) | assumption)
           obtain ⟨ad173, e173, hx173_0⟩ := Kd.at_int (Kd.R_reads' HO_8.out).2.2 x12_1 p173 q173
           cases e173
           replace p173 := eq_true p173
           replace q173 := eq_true q173
           have p174 : 0 ≤ (x12_1 : Int) := of_decide_eq_true (by first | (with_reducible assumption) | assumption)
           have q174 : x12_1 < (t160.length : Int) := of_decide_eq_true (by first | (with_reducible assumption) | assumption)
           obtain ⟨ad174, e174, hx174_0⟩ := Kd.at_int (Kd.R_reads' HO_7.out).2.2 x12_1 p174 q174
           obtain rfl : ad172 = ad174 := (by injection e174)
           replace p174 := eq_true p174
           replace q174 := eq_true q174
           have p175 : 0 ≤ (x12_1 : Int) := of_decide_eq_true (by first | (with_reducible assumption) | assumption)
           have q175 : x12_1 < (t163.length : Int) := of_decide_eq_true (by first | (with_reducible assumption) | assumption)
           obtain ⟨ad175, e175, hx175_0⟩ := Kd.at_int (Kd.R_reads' HO_8.out).2.2 x12_1 p175 q175
           obtain rfl : ad173 = ad175 := (by injection e175)
           replace p175 := eq_true p175
           replace q175 := eq_true q175
           refine start_ (n := 23) (S := fun w' => w'.cell? (ad172.add (x12_1).toNat) = some (.int .i64 (rd t160 x12_1)) ∧ w'.cell? (ad173.add (x12_1).toNat) = some (.int .i64 (rd t163 x12_1)) ∧ w'.cell? (ad172.add (x12_1).toNat) = some (.int .i64 (rd t160 x12_1)) ∧ w'.cell? (ad173.add (x12_1).toNat) = some (.int .i64 (rd t163 x12_1))) (ds := [20, 21]) #[false, false, false, false, false, false, false, false, false, false, false, false, false, false, false, false, false, false, false, false, false, false, false] (by kernel_rfl) rfl rfl ⟨hx172_0, hx173_0, hx174_0, hx175_0⟩ (fun hHeld => ?_); refine with_tabW regcertref13_Code.tab11 regcertref13_Code.bits11 (fun HT_ HW_ => ?_)
           generalize wc.drew = w31 at HO_7 HO_8 HO_9 HB hx172_0 hx173_0 hx174_0 hx175_0 hHeld ⊢
           refine pure_ (i := 0) (N := some 49) (v := ?_) (a' := ?_) #[true, false, false, false, false, false, false, false, false, false, false, false, false, false, false, false, false, false, false, false, false, false, false] rfl rfl (any_of HT_.out (by kernel_rfl)) (fun _ _ _ h => h) (Or.inl ⟨by rfl, ?_⟩) ?_ ?_
           rotate_left
           ·intro w'
            go_simp
            with_reducible rfl
           rotate_left
           ·simp only [Act.put, sL1, sL2, sL3, i64_w, i32_w]
            rfl
           refine pure_ (i := 1) (N := some 50) (v := ?_) (a' := ?_) #[true, true, false, false, false, false, false, false, false, false, false, false, false, false, false, false, false, false, false, false, false, false, false] rfl rfl (any_of HT_.out (by kernel_rfl)) (fun _ _ _ h => h) (Or.inl ⟨by rfl, ?_⟩) ?_ ?_
           rotate_left
           ·intro w'
            go_simp
            with_reducible rfl
           rotate_left
           ·simp only [Act.put, sL1, sL2, sL3, i64_w, i32_w]
            rfl
           refine pure_ (i := 2) (N := some 51) (v := ?_) (a' := ?_) #[true, true, true, false, false, false, false, false, false, false, false, false, false, false, false, false, false, false, false, false, false, false, false] rfl rfl (any_of HT_.out (by kernel_rfl)) (fun _ _ _ h => h) (Or.inl ⟨by rfl, ?_⟩) ?_ ?_
           rotate_left
           ·intro w'
            go_simp
            with_reducible rfl
           rotate_left
           ·simp only [Act.put, sL1, sL2, sL3, i64_w, i32_w]
            rfl
           refine pure_ (i := 3) (N := some 52) (v := ?_) (a' := ?_) #[true, true, true, true, false, false, false, false, false, false, false, false, false, false, false, false, false, false, false, false, false, false, false] rfl rfl (any_of HT_.out (by kernel_rfl)) (fun _ _ _ h => h) (Or.inl ⟨by rfl, ?_⟩) ?_ ?_
           rotate_left
           ·intro w'
            go_simp
            with_reducible rfl
           rotate_left
           ·simp only [Act.put, sL1, sL2, sL3, i64_w, i32_w]
            rfl
           refine pure_ (i := 4) (N := some 53) (v := ?_) (a' := ?_) #[true, true, true, true, true, false, false, false, false, false, false, false, false, false, false, false, false, false, false, false, false, false, false] rfl rfl (any_of HT_.out (by kernel_rfl)) (fun _ _ _ h => h) (Or.inl ⟨by rfl, ?_⟩) ?_ ?_
           rotate_left
           ·intro w'
            go_simp
            with_reducible rfl
           rotate_left
           ·simp only [Act.put, sL1, sL2, sL3, i64_w, i32_w]
            rfl
           refine pure_ (i := 6) (N := some 55) (v := ?_) (a' := ?_) #[true, true, true, true, true, false, true, false, false, false, false, false, false, false, false, false, false, false, false, false, false, false, false] rfl rfl (any_of HT_.out (by kernel_rfl)) (fun _ _ _ h => h) (Or.inl ⟨by rfl, ?_⟩) ?_ ?_
           rotate_left
           ·intro w'
            go_simp
            with_reducible rfl
           rotate_left
           ·simp only [Act.put, sL1, sL2, sL3, i64_w, i32_w]
            rfl
           refine pure_ (i := 7) (N := some 56) (v := ?_) (a' := ?_) #[true, true, true, true, true, false, true, true, false, false, false, false, false, false, false, false, false, false, false, false, false, false, false] rfl rfl (any_of HT_.out (by kernel_rfl)) (fun _ _ _ h => h) (Or.inl ⟨by rfl, ?_⟩) ?_ ?_
           rotate_left
           ·intro w'
            go_simp
            with_reducible rfl
           rotate_left
           ·simp only [Act.put, sL1, sL2, sL3, i64_w, i32_w]
            rfl
           refine pure_ (i := 8) (N := some 57) (v := ?_) (a' := ?_) #[true, true, true, true, true, false, true, true, true, false, false, false, false, false, false, false, false, false, false, false, false, false, false] rfl rfl (any_of HT_.out (by kernel_rfl)) (fun _ _ _ h => h) (Or.inl ⟨by rfl, ?_⟩) ?_ ?_
           rotate_left
           ·intro w'
            go_simp
            with_reducible rfl
           rotate_left
           ·simp only [Act.put, sL1, sL2, sL3, i64_w, i32_w]
            rfl
           refine pure_ (i := 9) (N := some 58) (v := ?_) (a' := ?_) #[true, true, true, true, true, false, true, true, true, true, false, false, false, false, false, false, false, false, false, false, false, false, false] rfl rfl (any_of HT_.out (by kernel_rfl)) (fun _ _ _ h => h) (Or.inl ⟨by rfl, ?_⟩) ?_ ?_
           rotate_left
           ·intro w'
            go_simp
            with_reducible rfl
           rotate_left
           ·simp only [Act.put, sL1, sL2, sL3, i64_w, i32_w]
            rfl
           refine pure_ (i := 11) (N := some 60) (v := ?_) (a' := ?_) #[true, true, true, true, true, false, true, true, true, true, false, true, false, false, false, false, false, false, false, false, false, false, false] rfl rfl (any_of HT_.out (by kernel_rfl)) (fun _ _ _ h => h) (Or.inl ⟨by rfl, ?_⟩) ?_ ?_
           rotate_left
           ·intro w'
            go_simp
            with_reducible rfl
           rotate_left
           ·simp only [Act.put, sL1, sL2, sL3, i64_w, i32_w]
            rfl
           refine pure_ (i := 12) (N := some 61) (v := ?_) (a' := ?_) #[true, true, true, true, true, false, true, true, true, true, false, true, true, false, false, false, false, false, false, false, false, false, false] rfl rfl (any_of HT_.out (by kernel_rfl)) (fun _ _ _ h => h) (Or.inl ⟨by rfl, ?_⟩) ?_ ?_
           rotate_left
           ·intro w'
            go_simp
            with_reducible rfl
           rotate_left
           ·simp only [Act.put, sL1, sL2, sL3, i64_w, i32_w]
            rfl
           refine pure_ (i := 13) (N := some 62) (v := ?_) (a' := ?_) #[true, true, true, true, true, false, true, true, true, true, false, true, true, true, false, false, false, false, false, false, false, false, false] rfl rfl (any_of HT_.out (by kernel_rfl)) (fun _ _ _ h => h) (Or.inl ⟨by rfl, ?_⟩) ?_ ?_
           rotate_left
           ·intro w'
            go_simp
            with_reducible rfl
           rotate_left
           ·simp only [Act.put, sL1, sL2, sL3, i64_w, i32_w]
            rfl
           refine pure_ (i := 15) (N := some 64) (v := ?_) (a' := ?_) #[true, true, true, true, true, false, true, true, true, true, false, true, true, true, false, true, false, false, false, false, false, false, false] rfl rfl (any_of HT_.out (by kernel_rfl)) (fun _ _ _ h => h) (Or.inl ⟨by rfl, ?_⟩) ?_ ?_
           rotate_left
           ·intro w'
            go_simp
            with_reducible rfl
           rotate_left
           ·simp only [Act.put, sL1, sL2, sL3, i64_w, i32_w]
            rfl
           refine pure_ (i := 16) (N := some 65) (v := ?_) (a' := ?_) #[true, true, true, true, true, false, true, true, true, true, false, true, true, true, false, true, true, false, false, false, false, false, false] rfl rfl (any_of HT_.out (by kernel_rfl)) (fun _ _ _ h => h) (Or.inl ⟨by rfl, ?_⟩) ?_ ?_
           rotate_left
           ·intro w'
            go_simp
            with_reducible rfl
           rotate_left
           ·simp only [Act.put, sL1, sL2, sL3, i64_w, i32_w]
            rfl
           refine pure_ (i := 17) (N := some 66) (v := ?_) (a' := ?_) #[true, true, true, true, true, false, true, true, true, true, false, true, true, true, false, true, true, true, false, false, false, false, false] rfl rfl (any_of HT_.out (by kernel_rfl)) (fun _ _ _ h => h) (Or.inl ⟨by rfl, ?_⟩) ?_ ?_
           rotate_left
           ·intro w'
            go_simp
            with_reducible rfl
           rotate_left
           ·simp only [Act.put, sL1, sL2, sL3, i64_w, i32_w]
            rfl
           refine take_ (i := 5) (N := some 54) (v := ?_) (a' := ?_) #[true, true, true, true, true, true, true, true, true, true, false, true, true, true, false, true, true, true, false, false, false, false, false] rfl rfl (take_ofW HT_.out HW_.out (by kernel_rfl)) (fun _ _ _ h => h) (Or.inl ⟨by rfl, ?_⟩) hHeld ?_ ?_
           rotate_left
           ·rintro w' ⟨s0, s1, s2, s3⟩
            go_simp
            with_reducible rfl
           rotate_left
           ·simp only [Act.put, sL1, sL2, sL3, i64_w, i32_w]
            rfl
           refine take_ (i := 10) (N := some 59) (v := ?_) (a' := ?_) #[true, true, true, true, true, true, true, true, true, true, true, true, true, true, false, true, true, true, false, false, false, false, false] rfl rfl (take_ofW HT_.out HW_.out (by kernel_rfl)) (fun _ _ _ h => h) (Or.inl ⟨by rfl, ?_⟩) hHeld ?_ ?_
           rotate_left
           ·rintro w' ⟨s0, s1, s2, s3⟩
            go_simp
            with_reducible rfl
           rotate_left
           ·simp only [Act.put, sL1, sL2, sL3, i64_w, i32_w]
            rfl
           refine take_ (i := 14) (N := some 63) (v := ?_) (a' := ?_) #[true, true, true, true, true, true, true, true, true, true, true, true, true, true, true, true, true, true, false, false, false, false, false] rfl rfl (take_ofW HT_.out HW_.out (by kernel_rfl)) (fun _ _ _ h => h) (Or.inl ⟨by rfl, ?_⟩) hHeld ?_ ?_
           rotate_left
           ·rintro w' ⟨s0, s1, s2, s3⟩
            go_simp
            with_reducible rfl
           rotate_left
           ·simp only [Act.put, sL1, sL2, sL3, i64_w, i32_w]
            rfl
           refine take_ (i := 18) (N := some 67) (v := ?_) (a' := ?_) #[true, true, true, true, true, true, true, true, true, true, true, true, true, true, true, true, true, true, true, false, false, false, false] rfl rfl (take_ofW HT_.out HW_.out (by kernel_rfl)) (fun _ _ _ h => h) (Or.inl ⟨by rfl, ?_⟩) hHeld ?_ ?_
           rotate_left
           ·rintro w' ⟨s0, s1, s2, s3⟩
            go_simp
            with_reducible rfl
           rotate_left
           ·simp only [Act.put, sL1, sL2, sL3, i64_w, i32_w]
            rfl
           refine pure_ (i := 19) (N := some 68) (v := ?_) (a' := ?_) #[true, true, true, true, true, true, true, true, true, true, true, true, true, true, true, true, true, true, true, true, false, false, false] rfl rfl (any_of HT_.out (by kernel_rfl)) (fun _ _ _ h => h) (Or.inl ⟨by rfl, ?_⟩) ?_ ?_
           rotate_left
           ·intro w'
            go_simp
            with_reducible rfl
           rotate_left
           ·simp only [Act.put, sL1, sL2, sL3, i64_w, i32_w]
            rfl
           refine last_ (i := 20) (N := some 69) #[true, true, true, true, true, true, true, true, true, true, true, true, true, true, true, true, true, true, true, true, true, false, false] rfl rfl (one_of HT_.out (by kernel_rfl)) (by decide) (fun K hK => ?_)
           refine value_ (w1 := ?_) (v := ?_) (by rfl) rfl ?_ ?_
           rotate_left 2
           ·go_simp
            constructor
            ·rfl
            ·rfl
           refine hK.out _ _ ?_
           clear hK K
           refine norm_ (a' := ?_) ?_ ?_
           rotate_left
           ·show Act.put _ (some 69) _ = _
            simp only [Act.put, sL1, sL2, sL3, i64_w, i32_w]
            rfl
           refine last_ (i := 21) (N := some 70) #[true, true, true, true, true, true, true, true, true, true, true, true, true, true, true, true, true, true, true, true, true, true, false] rfl rfl (one_of HT_.out (by kernel_rfl)) (by decide) (fun K hK => ?_)
           refine Kd.R_append_step k58 (w0 := w) w.heap.size (by rfl) (.tmp 49) (.tmp 69) 36 58 (.agg #[(.int .i64 0), (.int .i64 0), (.int .i64 0), (.int .i64 0), (.int .i64 0), (.int .i64 0)]) 48 rfl Try.underlying36 info58 rfl (by decide) (by omega) u9 x9_1 (⟨x10_1, rd t160 x12_1, x11_1, rd t163 x12_1, rd t160 x12_1, rd t163 x12_1⟩ : S58) [.int .i64 x10_1, .int .i64 (rd t160 x12_1), .int .i64 x11_1, .int .i64 (rd t163 x12_1), .int .i64 (rd t160 x12_1), .int .i64 (rd t163 x12_1)] (fun _ => True) (fun _ => False) rfl rfl ?aP (fun _ hk => hk.elim) ?aF ?aO ?aB ?aS ?aL ?_
           (case aP => exact k58_mkM _ _ _ (⟨x10_1, rd t160 x12_1, x11_1, rd t163 x12_1, rd t160 x12_1, rd t163 x12_1⟩ : S58))
           (case aB => exact (by repeat (first | (with_reducible first | exact HB.out | apply below_alloc | apply bdN | apply bd1) | exact HB.out)))
           (case aF => exact (fun _ _ => trivial))
           (case aO => exact (by (with_reducible repeat (first | apply Kd.R_alloc | apply Kd.R_drewN | apply Kd.R_drew)); exact HO_9.out))
           (case aS => exact (below_size (by repeat (first | (with_reducible first | exact HB.out | apply below_alloc | apply bdN | apply bd1) | exact HB.out))))
           (case aL => have := LMc30.out; omega)
           intro v177 w33 ho hb hg hat
           rw [← Ny176.out] at ho
           have n0_ := As0 (Kd.R_over' (by (with_reducible repeat (first | apply Kd.R_alloc | apply Kd.R_drewN | apply Kd.R_drew)); exact HO_7.out) (Kd.R_typed (by (with_reducible repeat (first | apply Kd.R_alloc | apply Kd.R_drewN | apply Kd.R_drew)); exact HO_9.out)) (by decide) hg)
           have n1_ := As0 (Kd.R_over' (by (with_reducible repeat (first | apply Kd.R_alloc | apply Kd.R_drewN | apply Kd.R_drew)); exact HO_8.out) (Kd.R_typed (by (with_reducible repeat (first | apply Kd.R_alloc | apply Kd.R_drewN | apply Kd.R_drew)); exact HO_9.out)) (by decide) hg)
           have n2_ := As0 (hb)
           have n3_ := As0 (ho)
           clear HO_7
           clear HO_8
           clear HB
           clear HO_9
           have HO_7 := n0_
           have HO_8 := n1_
           have HB := n2_
           have HO178 := n3_
           clear n0_ n1_ n2_ n3_
           clear ho hb hg hat
           refine hK.out _ _ ?_
           clear hK K
           refine norm_ (a' := ?_) ?_ ?_
           rotate_left
           ·show Act.put _ (some 70) _ = _
            simp only [Act.put, sL1, sL2, sL3, i64_w, i32_w]
            rfl
           refine pure_ (i := 22) (N := some 9) (v := ?_) (a' := ?_) #[true, true, true, true, true, true, true, true, true, true, true, true, true, true, true, true, true, true, true, true, true, true, true] rfl rfl (any_of HT_.out (by kernel_rfl)) (fun _ _ _ h => h) (Or.inl ⟨by rfl, ?_⟩) ?_ ?_
           rotate_left
           ·intro w'
            go_simp
            with_reducible rfl
           rotate_left
           ·simp only [Act.put, sL1, sL2, sL3, i64_w, i32_w]
            rfl
           refine done_ (done_of HT_.out (by kernel_rfl)) ?_
           have p179 : 0 ≤ (x12_1 : Int) := of_decide_eq_true (by first | (with_reducible assumption) | assumption)
           have q179 : x12_1 < (t160.length : Int) := of_decide_eq_true (by first | (with_reducible assumption) | assumption)
           obtain ⟨ad179, e179, hx179_0⟩ := Kd.at_int (Kd.R_reads' HO_7.out).2.2 x12_1 p179 q179
           obtain rfl : ad172 = ad179 := (by injection e179)
           replace p179 := eq_true p179
           replace q179 := eq_true q179
           have p180 : 0 ≤ (x12_1 : Int) := of_decide_eq_true (by first | (with_reducible assumption) | assumption)
           have q180 : x12_1 < (t163.length : Int) := of_decide_eq_true (by first | (with_reducible assumption) | assumption)
           obtain ⟨ad180, e180, hx180_0⟩ := Kd.at_int (Kd.R_reads' HO_8.out).2.2 x12_1 p180 q180
           obtain rfl : ad173 = ad180 := (by injection e180)
           replace p180 := eq_true p180
           replace q180 := eq_true q180
           try go_wp2
           go_roundg kj7
           case measure => have := HK1.out; have := HJ7.out; omega
           case rel => exact ⟨(y176), (wrap64 ((rd t160 x12_1) + 1)), (wrap64 ((rd t163 x12_1) + 1)), (wrap64 (x12_1 + 1)), (by first | rfl | (simp; done) | (simp [*]; done)), (by first | rfl | (simp; done) | (simp [*]; done)), (by first | rfl | (simp; done) | (simp [*]; done)), H', ⟨by have := HK1.out; have := HJ7.out; omega⟩, ⟨by (with_reducible repeat (first | apply Kd.R_alloc | apply Kd.R_drewN | apply Kd.R_drew)); exact HO_7.out⟩, ⟨by (with_reducible repeat (first | apply Kd.R_alloc | apply Kd.R_drewN | apply Kd.R_drew)); exact HO_8.out⟩, ⟨by (with_reducible repeat (first | apply Kd.R_alloc | apply Kd.R_drewN | apply Kd.R_drew)); exact HO178.out⟩, ⟨by repeat (first | (with_reducible first | exact HB.out | apply below_alloc | apply bdN | apply bd1) | exact HB.out)⟩⟩
          ·rw [if_neg c30] at H
           exact absurd H (by simp)
         ·rw [if_neg c29] at H
          exact absurd H (by simp)
        ·rw [if_neg c28] at H
         exact absurd H (by simp)
       ·rw [if_neg c27] at H
        exact absurd H (by simp)
   ·rw [if_neg c7] at H
    have c7b0 : decide (x12_1 < (t163.length : Int)) = false := decide_eq_false c7
    clear c7
    by_cases c34 : (t160.length : Int) > (t163.length : Int)
    ·rw [if_pos c34] at H
     have c34b0 : decide ((t163.length : Int) < (t160.length : Int)) = true := decide_eq_true c34
     have c34b1 : decide (t163.length < t160.length) = true := decide_eq_true (Int.ofNat_lt.mp c34)
     clear c34
     simp only [Option.some.injEq, Prod.mk.injEq] at H
     obtain ⟨rfl, rfl, rfl⟩ := H
     obtain ⟨Ao35, co35, eo35⟩ := Kd.R_slice HO_8.out
     subst eo35
     obtain ⟨Ao36, co36, eo36⟩ := Kd.R_slice HO_7.out
     subst eo36
     go_wp2
     go_ret3
     exact ⟨_, by first | rfl | (simp [errW_none, errW_some] <;> rfl) | (simp [*, errW_none, errW_some] <;> rfl), by first | exact Kd.R_nil _ _ _ _ _ | exact Kd.N_nil _ _ _ _ _ | exact Kd.V_nil _ _ _ _ _ | exact Kd.Q_nil _ _ _ _ _ | exact Kd.S_nil _ _ _ _ _, by repeat (first | (with_reducible first | exact HB.out | apply below_alloc | apply bdN | apply bd1) | exact HB.out)⟩
    ·rw [if_neg c34] at H
     have c34b0 : decide ((t163.length : Int) < (t160.length : Int)) = false := decide_eq_false c34
     have c34b1 : decide (t163.length < t160.length) = false := decide_eq_false (fun h => c34 (Int.ofNat_lt.mpr h))
     clear c34
     by_cases c37 : x9_1.length < 2932031007402
     ·rw [if_pos c37] at H
      have LMc37 := As0 c37
      clear c37
      obtain ⟨y181, hy181⟩ : ∃ y_ : List (S58), y_ = (x9_1 ++ [(⟨x10_1, (l0.length : Int), x11_1, (l1.length : Int), (-1), (-1)⟩ : S58)]) := ⟨_, rfl⟩
      replace H : (some (y181, (l1.length : Int), 0)) = some (r1, r2, r3) := by first | (rw [hy181]; with_reducible exact H) | (have H2_ := (Option.bind_some _ _).symm.trans H; rw [hy181]; with_reducible exact H2_) | (have H2_ := (Option.bind_some _ _).symm.trans H; with_reducible exact H2_) | with_reducible exact H | (rw [hy181]; exact H) | exact H
      have Ny181 := As0 hy181
      clear hy181
      simp only [Option.some.injEq, Prod.mk.injEq] at H
      obtain ⟨rfl, rfl, rfl⟩ := H
      obtain ⟨Ao38, co38, eo38⟩ := Kd.R_slice HO_8.out
      subst eo38
      obtain ⟨Ao39, co39, eo39⟩ := Kd.R_slice HO_7.out
      subst eo39
      go_wp2_with (first | ((with_reducible refine gate_builtin (b := .append) (xs := #[.tmp 88, .tmp 96]) rfl ?_); at_builtin; refine Kd.R_append k58 (w0 := w) w.heap.size rfl (.tmp 88) (.tmp 96) 36 58 (.agg #[(.int .i64 0), (.int .i64 0), (.int .i64 0), (.int .i64 0), (.int .i64 0), (.int .i64 0)]) 48 rfl Try.underlying36 info58 rfl (by decide) (by omega) u9 x9_1 (⟨x10_1, (l0.length : Int), x11_1, (l1.length : Int), (-1), (-1)⟩ : S58) [.int .i64 x10_1, .int .i64 (l0.length : Int), .int .i64 x11_1, .int .i64 (l1.length : Int), .int .i64 (-1), .int .i64 (-1)] (fun _ => True) (fun _ => False) rfl rfl ?aP (fun _ hk => hk.elim) ?aF ?aO ?aB ?aS ?aL ?_; (case aP => exact k58_mkM _ _ _ (⟨x10_1, (l0.length : Int), x11_1, (l1.length : Int), (-1), (-1)⟩ : S58)); (case aB => exact (by repeat (first | (with_reducible first | exact HB.out | apply below_alloc | apply bdN | apply bd1) | exact HB.out))); (case aF => exact (fun _ _ => trivial)); (case aO => exact (by (with_reducible repeat (first | apply Kd.R_alloc | apply Kd.R_drewN | apply Kd.R_drew)); exact HO_9.out)); (case aS => exact (below_size (by repeat (first | (with_reducible first | exact HB.out | apply below_alloc | apply bdN | apply bd1) | exact HB.out)))); (case aL => have := LMc37.out; omega); intro v182 w40 ho hb hg hat; rw [← Ny181.out] at ho; have n0_ := As0 (Kd.R_over' (by (with_reducible repeat (first | apply Kd.R_alloc | apply Kd.R_drewN | apply Kd.R_drew)); exact HO_7.out) (Kd.R_typed (by (with_reducible repeat (first | apply Kd.R_alloc | apply Kd.R_drewN | apply Kd.R_drew)); exact HO_9.out)) (by decide) hg); have n1_ := As0 (Kd.R_over' (by (with_reducible repeat (first | apply Kd.R_alloc | apply Kd.R_drewN | apply Kd.R_drew)); exact HO_8.out) (Kd.R_typed (by (with_reducible repeat (first | apply Kd.R_alloc | apply Kd.R_drewN | apply Kd.R_drew)); exact HO_9.out)) (by decide) hg); have n2_ := As0 (hb); have n3_ := As0 (ho); clear HO_7; clear HO_8; clear HB; clear HO_9; have HO_7 := n0_; have HO_8 := n1_; have HB := n2_; have HO183 := n3_; clear n0_ n1_ n2_ n3_; clear ho hb hg hat))
      go_ret3
      exact ⟨_, by first | rfl | (simp [errW_none, errW_some] <;> rfl) | (simp [*, errW_none, errW_some] <;> rfl), by (with_reducible repeat (first | apply Kd.R_alloc | apply Kd.R_drewN | apply Kd.R_drew)); exact HO183.out, by repeat (first | (with_reducible first | exact HB.out | apply below_alloc | apply bdN | apply bd1) | exact HB.out)⟩
     ·rw [if_neg c37] at H
      exact absurd H (by simp)

/-! ### regcertref13_Rows: function 11 -/
def regcertref13_Rows.l0 : Nat → List (S58) → List (S58) → Int → Option (Bool)
 | 0, _, _, _ => none
 | k + 1, x0, x1, x5 => if x5 < (x0.length : Int) then (if 0 ≤ x5 then (if x5 < (x1.length : Int) then (if (!(((rd_T58 x0 x5).f0) == ((rd_T58 x1 x5).f0)) || (!(((rd_T58 x0 x5).f1) == ((rd_T58 x1 x5).f1)) || (!(((rd_T58 x0 x5).f2) == ((rd_T58 x1 x5).f2)) || (!(((rd_T58 x0 x5).f3) == ((rd_T58 x1 x5).f3)) || (!(((rd_T58 x0 x5).f4) == ((rd_T58 x1 x5).f4)) || (!(((rd_T58 x0 x5).f5) == ((rd_T58 x1 x5).f5)))))))) = true then (some false) else (regcertref13_Rows.l0 k x0 x1 (wrap64 (x5 + 1)))) else (none)) else (none)) else (some true)
def regcertref13_Rows.f (k : Nat) (l0 : List (S58)) (l1 : List (S58)) : Option (Bool) := if (l0.length : Int) = (l1.length : Int) then (regcertref13_Rows.l0 k l0 l1 0) else (some false)
theorem regcertref13_Rows.mono_l : ∀ k, (∀ y0 y1 y2, LeO (regcertref13_Rows.l0 k y0 y1 y2) (regcertref13_Rows.l0 (k + 1) y0 y1 y2))
 | 0 => fun _ _ _ r h => by simp [regcertref13_Rows.l0] at h
 | k + 1 => by
  have ih0 := regcertref13_Rows.mono_l k
  ·intro y0 y1 y2
   unfold regcertref13_Rows.l0
   repeat' first
   | (with_reducible exact ih0 _ _ _)
   | (with_reducible exact LeO.refl _)
   | (with_reducible exact LeO.none _)
   | (with_reducible refine LeO.ite ?_ ?_)
   | (with_reducible refine LeO.bind ?_ (fun _ => ?_))
   | exact ih0 _ _ _
   | exact LeO.none _
   | refine LeO.ite ?_ ?_
   | refine LeO.bind ?_ (fun _ => ?_)
theorem regcertref13_Rows.mono : ∀ a0 a1 k, LeO (regcertref13_Rows.f k a0 a1) (regcertref13_Rows.f (k + 1) a0 a1) := by
 intro a0 a1 k
 have ih0 := regcertref13_Rows.mono_l k
 unfold regcertref13_Rows.f
 repeat' first
   | (with_reducible exact ih0 _ _ _)
   | (with_reducible exact LeO.refl _)
   | (with_reducible exact LeO.none _)
   | (with_reducible refine LeO.ite ?_ ?_)
   | (with_reducible refine LeO.bind ?_ (fun _ => ?_))
   | exact ih0 _ _ _
   | exact LeO.none _
   | refine LeO.ite ?_ ?_
   | refine LeO.bind ?_ (fun _ => ?_)
set_option maxHeartbeats 8000000 in
set_option maxRecDepth 100000 in
theorem regcertref13_Rows.calls (k : Nat) (A0 : Option Addr) (c0 : Nat) (l0 : List (S58)) (A1 : Option Addr) (c1 : Nat) (l1 : List (S58)) (r : Bool) (w : World) (hr0 : Kd.C k58 w A0 l0.length l0) (hc0 : l0.length ≤ c0) (hr1 : Kd.C k58 w A1 l1.length l1) (hc1 : l1.length ≤ c1) (h : regcertref13_Rows.f k l0 l1 = some r) :
  Calls Try.prog 11 #[.slice A0 l0.length c0, .slice A1 l1.length c1] w fun e w' => e = .returned (.bool r) ∧ Drawn0 w w' := by
 have hu58 := Try.underlying58
 have HR0 := As0 hr0
 have HC0 := As0 hc0
 clear hr0 hc0
 have HR1 := As0 hr1
 have HC1 := As0 hc1
 clear hr1 hc1
 have H : (if (l0.length : Int) = (l1.length : Int) then (regcertref13_Rows.l0 k l0 l1 0) else (some false)) = some r := h
 clear h
 by_cases c3 : (l0.length : Int) = (l1.length : Int)
 ·rw [if_pos c3] at H
  have c3b0 : ((l0.length : Int) == (l1.length : Int)) = true := beq_iff_eq.mpr c3
  have c3b1 : ((l0.length : Int) != (l1.length : Int)) = false := bne_eq_false_iff_eq.mpr c3
  have c3b2 : (l0.length == l1.length) = true := by first | simpa using c3 | (simp at c3 ⊢; omega)
  clear c3
  have H' := As0 H
  clear H
  go_enter Try.func11, Try.ntmps11
  go_wp2
  repeat (go_quiet (fail); try go_wp2)
  go_loopg [5] k (fun kq v5 w' => ∃ (x5_1 : Int), v5 = .int .i64 x5_1 ∧ Aside0 (regcertref13_Rows.l0 kq l0 l1 x5_1 = some r) ∧ Aside0 (kq ≤ k) ∧ Drawn0 w w')
  case atStart => exact ⟨(0), (by first | rfl | (simp; done) | (simp [*]; done)), H', ⟨Nat.le_refl _⟩, by repeat (first | exact Drawn0.refl _ | apply Drawn0.step)⟩
  case round =>
   clear H'
   try clear c1
   try clear p2
   try clear c3
   try clear c3b0
   try clear c3b1
   try clear c3b2
   obtain ⟨x5_1, rfl, HA, HK1, ⟨m1, rfl⟩⟩ := hrel
   cases gk with
   | zero => exact absurd HA.out (by simp [regcertref13_Rows.l0])
   | succ k1 =>
    have H := HA.out
    clear HA
    simp only [regcertref13_Rows.l0] at H
    by_cases c4 : x5_1 < (l0.length : Int)
    ·rw [if_pos c4] at H
     have c4b0 : decide (x5_1 < (l0.length : Int)) = true := decide_eq_true c4
     clear c4
     by_cases c5 : 0 ≤ x5_1
     ·rw [if_pos c5] at H
      have c5b0 : decide (0 ≤ x5_1) = true := decide_eq_true c5
      clear c5
      by_cases c6 : x5_1 < (l1.length : Int)
      ·rw [if_pos c6] at H
       have c6b0 : decide (x5_1 < (l1.length : Int)) = true := decide_eq_true c6
       clear c6
       by_cases c7 : (!(((rd_T58 l0 x5_1).f0) == ((rd_T58 l1 x5_1).f0)) || (!(((rd_T58 l0 x5_1).f1) == ((rd_T58 l1 x5_1).f1)) || (!(((rd_T58 l0 x5_1).f2) == ((rd_T58 l1 x5_1).f2)) || (!(((rd_T58 l0 x5_1).f3) == ((rd_T58 l1 x5_1).f3)) || (!(((rd_T58 l0 x5_1).f4) == ((rd_T58 l1 x5_1).f4)) || (!(((rd_T58 l0 x5_1).f5) == ((rd_T58 l1 x5_1).f5)))))))) = true
       ·rw [if_pos c7] at H
        have c7b0 : (!(((rd_T58 l0 x5_1).f0) == ((rd_T58 l1 x5_1).f0)) || (!(((rd_T58 l0 x5_1).f1) == ((rd_T58 l1 x5_1).f1)) || (!(((rd_T58 l0 x5_1).f2) == ((rd_T58 l1 x5_1).f2)) || (!(((rd_T58 l0 x5_1).f3) == ((rd_T58 l1 x5_1).f3)) || (!(((rd_T58 l0 x5_1).f4) == ((rd_T58 l1 x5_1).f4)) || (!(((rd_T58 l0 x5_1).f5) == ((rd_T58 l1 x5_1).f5)))))))) = true := c7
        clear c7
        obtain rfl := Option.some.inj H
        have p184 : 0 ≤ (x5_1 : Int) := of_decide_eq_true (by first | (with_reducible assumption) | assumption)
        have q184 : x5_1 < (l0.length : Int) := of_decide_eq_true (by first | (with_reducible assumption) | assumption)
        obtain ⟨ad184, e184, hx184_0, hx184_1, hx184_2, hx184_3, hx184_4, hx184_5⟩ := at_T58 HR0.out x5_1 p184 q184
        cases e184
        replace p184 := eq_true p184
        replace q184 := eq_true q184
        have p185 : 0 ≤ (x5_1 : Int) := of_decide_eq_true (by first | (with_reducible assumption) | assumption)
        have q185 : x5_1 < (l1.length : Int) := of_decide_eq_true (by first | (with_reducible assumption) | assumption)
        obtain ⟨ad185, e185, hx185_0, hx185_1, hx185_2, hx185_3, hx185_4, hx185_5⟩ := at_T58 HR1.out x5_1 p185 q185
        cases e185
        replace p185 := eq_true p185
        replace q185 := eq_true q185
        go_wp2
        repeat (go_quiet (fail); try go_wp2)
        go_ret
        exact ⟨by first | rfl | (simp; done) | (simp [*]; done), by repeat (first | exact Drawn0.refl _ | apply Drawn0.step)⟩
       ·rw [if_neg c7] at H
        have c7b0 : (!(((rd_T58 l0 x5_1).f0) == ((rd_T58 l1 x5_1).f0)) || (!(((rd_T58 l0 x5_1).f1) == ((rd_T58 l1 x5_1).f1)) || (!(((rd_T58 l0 x5_1).f2) == ((rd_T58 l1 x5_1).f2)) || (!(((rd_T58 l0 x5_1).f3) == ((rd_T58 l1 x5_1).f3)) || (!(((rd_T58 l0 x5_1).f4) == ((rd_T58 l1 x5_1).f4)) || (!(((rd_T58 l0 x5_1).f5) == ((rd_T58 l1 x5_1).f5)))))))) = false := by simpa using c7
        clear c7
        have H' := As0 H
        clear H
        have p184 : 0 ≤ (x5_1 : Int) := of_decide_eq_true (by first | (with_reducible assumption) | assumption)
        have q184 : x5_1 < (l0.length : Int) := of_decide_eq_true (by first | (with_reducible assumption) | assumption)
        obtain ⟨ad184, e184, hx184_0, hx184_1, hx184_2, hx184_3, hx184_4, hx184_5⟩ := at_T58 HR0.out x5_1 p184 q184
        cases e184
        replace p184 := eq_true p184
        replace q184 := eq_true q184
        have p185 : 0 ≤ (x5_1 : Int) := of_decide_eq_true (by first | (with_reducible assumption) | assumption)
        have q185 : x5_1 < (l1.length : Int) := of_decide_eq_true (by first | (with_reducible assumption) | assumption)
        obtain ⟨ad185, e185, hx185_0, hx185_1, hx185_2, hx185_3, hx185_4, hx185_5⟩ := at_T58 HR1.out x5_1 p185 q185
        cases e185
        replace p185 := eq_true p185
        replace q185 := eq_true q185
        go_wp2
        repeat (go_quiet (fail); try go_wp2)
        go_roundg k1
        case measure => have := HK1.out; omega
        case rel => exact ⟨(wrap64 (x5_1 + 1)), (by first | rfl | (simp; done) | (simp [*]; done)), H', ⟨by have := HK1.out; omega⟩, by repeat (first | exact Drawn0.refl _ | apply Drawn0.step)⟩
      ·rw [if_neg c6] at H
       exact absurd H (by simp)
     ·rw [if_neg c5] at H
      exact absurd H (by simp)
    ·rw [if_neg c4] at H
     have c4b0 : decide (x5_1 < (l0.length : Int)) = false := decide_eq_false c4
     clear c4
     obtain rfl := Option.some.inj H
     go_wp2
     repeat (go_quiet (fail); try go_wp2)
     go_ret
     exact ⟨by first | rfl | (simp; done) | (simp [*]; done), by repeat (first | exact Drawn0.refl _ | apply Drawn0.step)⟩
 ·rw [if_neg c3] at H
  have c3b0 : ((l0.length : Int) == (l1.length : Int)) = false := beq_eq_false_iff_ne.mpr c3
  have c3b1 : ((l0.length : Int) != (l1.length : Int)) = true := bne_iff_ne.mpr c3
  have c3b2 : (l0.length == l1.length) = false := by first | simpa using c3 | (simp at c3 ⊢; omega)
  obtain rfl := Option.some.inj H
  go_enter Try.func11, Try.ntmps11
  go_wp2
  repeat (go_quiet (fail); try go_wp2)
  go_ret
  exact ⟨by first | rfl | (simp; done) | (simp [*]; done), by repeat (first | exact Drawn0.refl _ | apply Drawn0.step)⟩

/-! ### regcertlaw13_rows: function 12 -/
def regcertlaw13_rows.l0 : Nat → List (S45) → List (S58) → Int → Option ((List (S58)))
 | 0, _, _, _ => none
 | k + 1, x0, x3, x4 => if x4 < (x0.length : Int) then (if 0 ≤ x4 then (if x3.length < 2932031007402 then (regcertlaw13_rows.l0 k x0 (x3 ++ [(⟨(rd_T45 x0 x4).f0, (rd_T45 x0 x4).f1, (rd_T45 x0 x4).f2, (rd_T45 x0 x4).f3, (rd_T45 x0 x4).f4, (rd_T45 x0 x4).f5⟩ : S58)]) (wrap64 (x4 + 1))) else (none)) else (none)) else (some x3)
def regcertlaw13_rows.f (k : Nat) (l0 : List (S45)) : Option ((List (S58))) := regcertlaw13_rows.l0 k l0 ([] : List (S58)) 0
theorem regcertlaw13_rows.mono_l : ∀ k, (∀ y0 y1 y2, LeO (regcertlaw13_rows.l0 k y0 y1 y2) (regcertlaw13_rows.l0 (k + 1) y0 y1 y2))
 | 0 => fun _ _ _ r h => by simp [regcertlaw13_rows.l0] at h
 | k + 1 => by
  have ih0 := regcertlaw13_rows.mono_l k
  ·intro y0 y1 y2
   unfold regcertlaw13_rows.l0
   repeat' first
   | (with_reducible exact ih0 _ _ _)
   | (with_reducible exact LeO.refl _)
   | (with_reducible exact LeO.none _)
   | (with_reducible refine LeO.ite ?_ ?_)
   | (with_reducible refine LeO.bind ?_ (fun _ => ?_))
   | exact ih0 _ _ _
   | exact LeO.none _
   | refine LeO.ite ?_ ?_
   | refine LeO.bind ?_ (fun _ => ?_)
theorem regcertlaw13_rows.mono : ∀ a0 k, LeO (regcertlaw13_rows.f k a0) (regcertlaw13_rows.f (k + 1) a0) := by
 intro a0 k
 have ih0 := regcertlaw13_rows.mono_l k
 unfold regcertlaw13_rows.f
 repeat' first
   | (with_reducible exact ih0 _ _ _)
   | (with_reducible exact LeO.refl _)
   | (with_reducible exact LeO.none _)
   | (with_reducible refine LeO.ite ?_ ?_)
   | (with_reducible refine LeO.bind ?_ (fun _ => ?_))
   | exact ih0 _ _ _
   | exact LeO.none _
   | refine LeO.ite ?_ ?_
   | refine LeO.bind ?_ (fun _ => ?_)
def regcertlaw13_rows.T5 : Bool × List (List Nat × List Nat) := (true, [([], []), ([], []), ([], []), ([1, 2], [1, 2]), ([3], [3]), ([4], [4]), ([], []), ([], []), ([6, 7], [6, 7]), ([8], [8]), ([9], [9]), ([], []), ([], []), ([11, 12], [11, 12]), ([13], [13]), ([14], [14]), ([], []), ([], []), ([16, 17], [16, 17]), ([18], [18]), ([19], [19]), ([], []), ([], []), ([21, 22], [21, 22]), ([23], [23]), ([24], [24]), ([], []), ([], []), ([26, 27], [26, 27]), ([28], [28]), ([29], [29]), ([5, 10, 15, 20, 25, 30], [5, 10, 15, 20, 25, 30]), ([31], [31]), ([0, 32], [0, 32]), ([33, 33, 0, 1, 2, 3, 4, 5, 6, 7, 8, 9, 10, 11, 12, 13, 14, 15, 16, 17, 18, 19, 20, 21, 22, 23, 24, 25, 26, 27, 28, 29, 30, 31, 32, 33], [0, 33])])
def regcertlaw13_rows.B5 : List Nat := [0, 0, 0, 6, 14, 30, 0, 0, 192, 448, 960, 0, 0, 6144, 14336, 30720, 0, 0, 196608, 458752, 983040, 0, 0, 6291456, 14680064, 31457280, 0, 0, 201326592, 469762048, 1006632960, 2147483646, 4294967294, 8589934591, 17179869183]
theorem regcertlaw13_rows.tab5 : rtab .any (opsOf Try.f12 5) = regcertlaw13_rows.T5 := by kernel_rfl
theorem regcertlaw13_rows.bits5 : waitsOk regcertlaw13_rows.T5.2 regcertlaw13_rows.B5 = true := by kernel_rfl
set_option maxHeartbeats 8000000 in
set_option maxRecDepth 100000 in
theorem regcertlaw13_rows.calls (k : Nat) (A0 : Option Addr) (c0 : Nat) (l0 : List (S45)) (r : List (S58)) (w : World) (hr0 : Kd.C k45 w A0 l0.length l0) (hc0 : l0.length ≤ c0) (h : regcertlaw13_rows.f k l0 = some r) :
  Calls Try.prog 12 #[.slice A0 l0.length c0] w fun e w' => ∃ v0_ : Value, e = .returned (v0_) ∧ Kd.R k58 58 w' w.heap.size (fun _ => True) v0_ r ∧ Below w.heap.size w w' := by
 have hu58 := Try.underlying58
 have HR0 := As0 hr0
 have HC0 := As0 hc0
 clear hr0 hc0
 have HB := As0 (Below.refl w.heap.size w)
 have H : (regcertlaw13_rows.l0 k l0 ([] : List (S58)) 0) = some r := h
 clear h
 have H' := As0 H
 clear H
 go_enter Try.func12, Try.ntmps12
 go_wp2
 go_loopg [3, 4] k (fun kq v3 v4 w' => ∃ (x3_1 : List (S58)) (x4_1 : Int), v4 = .int .i64 x4_1 ∧ Aside0 (regcertlaw13_rows.l0 kq l0 x3_1 x4_1 = some r) ∧ Aside0 (kq ≤ k) ∧ Aside0 (Kd.R k58 58 w' w.heap.size (fun _ => True) v3 x3_1) ∧ Aside0 (Below w.heap.size w w'))
 case atStart => exact ⟨(([] : List (S58))), (0), (by first | rfl | (simp; done) | (simp [*]; done)), H', ⟨Nat.le_refl _⟩, ⟨by first | exact Kd.R_nil _ _ _ _ _ | exact Kd.N_nil _ _ _ _ _ | exact Kd.V_nil _ _ _ _ _ | exact Kd.Q_nil _ _ _ _ _ | exact Kd.S_nil _ _ _ _ _⟩, ⟨by repeat (first | (with_reducible first | exact HB.out | apply below_alloc | apply bdN | apply bd1) | exact HB.out)⟩⟩
 case round =>
  clear H'
  try clear c1
  obtain ⟨x3_1, x4_1, rfl, HA, HK1, HO_3, HB⟩ := hrel
  cases gk with
  | zero => exact absurd HA.out (by simp [regcertlaw13_rows.l0])
  | succ k1 =>
   have H := HA.out
   clear HA
   simp only [regcertlaw13_rows.l0] at H
   by_cases c2 : x4_1 < (l0.length : Int)
   ·rw [if_pos c2] at H
    have c2b0 : decide (x4_1 < (l0.length : Int)) = true := decide_eq_true c2
    clear c2
    by_cases c3 : 0 ≤ x4_1
    ·rw [if_pos c3] at H
     have c3b0 : decide (0 ≤ x4_1) = true := decide_eq_true c3
     clear c3
     by_cases c4 : x3_1.length < 2932031007402
     ·rw [if_pos c4] at H
      have LMc4 := As0 c4
      clear c4
      obtain ⟨y192, hy192⟩ : ∃ y_ : List (S58), y_ = (x3_1 ++ [(⟨(rd_T45 l0 x4_1).f0, (rd_T45 l0 x4_1).f1, (rd_T45 l0 x4_1).f2, (rd_T45 l0 x4_1).f3, (rd_T45 l0 x4_1).f4, (rd_T45 l0 x4_1).f5⟩ : S58)]) := ⟨_, rfl⟩
      replace H : (regcertlaw13_rows.l0 k1 l0 y192 (wrap64 (x4_1 + 1))) = some r := by first | (rw [hy192]; with_reducible exact H) | (have H2_ := (Option.bind_some _ _).symm.trans H; rw [hy192]; with_reducible exact H2_) | (have H2_ := (Option.bind_some _ _).symm.trans H; with_reducible exact H2_) | with_reducible exact H | (rw [hy192]; exact H) | exact H
      have Ny192 := As0 hy192
      clear hy192
      have H' := As0 H
      clear H
      try go_wp2
      have n0_ := As0 (Kd.R_drew HO_3.out)
      have n1_ := As0 (bd1 HB.out)
      clear HO_3
      clear HB
      have HO_3 := n0_
      have HB := n1_
      clear n0_ n1_
      have p186 : 0 ≤ (x4_1 : Int) := of_decide_eq_true (by first | (with_reducible assumption) | assumption)
      have q186 : x4_1 < (l0.length : Int) := of_decide_eq_true (by first | (with_reducible assumption) | assumption)
      obtain ⟨ad186, e186, hx186_0, hx186_1, hx186_2, hx186_3, hx186_4, hx186_5⟩ := at_T45 HR0.out x4_1 p186 q186
      have hw186_5 := hx186_5
      have hw186_4 := hx186_4
      have hw186_3 := hx186_3
      have hw186_2 := hx186_2
      have hw186_1 := hx186_1
      have hw186_0 := hx186_0
      cases e186
      replace hx186_0 := (HB.out.cell (wblt w hx186_0)).trans hx186_0
      replace hx186_1 := (HB.out.cell (wblt w hx186_1)).trans hx186_1
      replace hx186_2 := (HB.out.cell (wblt w hx186_2)).trans hx186_2
      replace hx186_3 := (HB.out.cell (wblt w hx186_3)).trans hx186_3
      replace hx186_4 := (HB.out.cell (wblt w hx186_4)).trans hx186_4
      replace hx186_5 := (HB.out.cell (wblt w hx186_5)).trans hx186_5
      replace p186 := eq_true p186
      replace q186 := eq_true q186
      have p187 : 0 ≤ (x4_1 : Int) := of_decide_eq_true (by first | (with_reducible assumption) | assumption)
      have q187 : x4_1 < (l0.length : Int) := of_decide_eq_true (by first | (with_reducible assumption) | assumption)
      obtain ⟨ad187, e187, hx187_0, hx187_1, hx187_2, hx187_3, hx187_4, hx187_5⟩ := at_T45 HR0.out x4_1 p187 q187
      have hw187_5 := hx187_5
      have hw187_4 := hx187_4
      have hw187_3 := hx187_3
      have hw187_2 := hx187_2
      have hw187_1 := hx187_1
      have hw187_0 := hx187_0
      obtain rfl : ad186 = ad187 := (by injection e187)
      replace hx187_0 := (HB.out.cell (wblt w hx187_0)).trans hx187_0
      replace hx187_1 := (HB.out.cell (wblt w hx187_1)).trans hx187_1
      replace hx187_2 := (HB.out.cell (wblt w hx187_2)).trans hx187_2
      replace hx187_3 := (HB.out.cell (wblt w hx187_3)).trans hx187_3
      replace hx187_4 := (HB.out.cell (wblt w hx187_4)).trans hx187_4
      replace hx187_5 := (HB.out.cell (wblt w hx187_5)).trans hx187_5
      replace p187 := eq_true p187
      replace q187 := eq_true q187
      have p188 : 0 ≤ (x4_1 : Int) := of_decide_eq_true (by first | (with_reducible assumption) | assumption)
      have q188 : x4_1 < (l0.length : Int) := of_decide_eq_true (by first | (with_reducible assumption) | assumption)
      obtain ⟨ad188, e188, hx188_0, hx188_1, hx188_2, hx188_3, hx188_4, hx188_5⟩ := at_T45 HR0.out x4_1 p188 q188
      have hw188_5 := hx188_5
      have hw188_4 := hx188_4
      have hw188_3 := hx188_3
      have hw188_2 := hx188_2
      have hw188_1 := hx188_1
      have hw188_0 := hx188_0
      obtain rfl : ad186 = ad188 := (by injection e188)
      replace hx188_0 := (HB.out.cell (wblt w hx188_0)).trans hx188_0
      replace hx188_1 := (HB.out.cell (wblt w hx188_1)).trans hx188_1
      replace hx188_2 := (HB.out.cell (wblt w hx188_2)).trans hx188_2
      replace hx188_3 := (HB.out.cell (wblt w hx188_3)).trans hx188_3
      replace hx188_4 := (HB.out.cell (wblt w hx188_4)).trans hx188_4
      replace hx188_5 := (HB.out.cell (wblt w hx188_5)).trans hx188_5
      replace p188 := eq_true p188
      replace q188 := eq_true q188
      have p189 : 0 ≤ (x4_1 : Int) := of_decide_eq_true (by first | (with_reducible assumption) | assumption)
      have q189 : x4_1 < (l0.length : Int) := of_decide_eq_true (by first | (with_reducible assumption) | assumption)
      obtain ⟨ad189, e189, hx189_0, hx189_1, hx189_2, hx189_3, hx189_4, hx189_5⟩ := at_T45 HR0.out x4_1 p189 q189
      have hw189_5 := hx189_5
      have hw189_4 := hx189_4
      have hw189_3 := hx189_3
      have hw189_2 := hx189_2
      have hw189_1 := hx189_1
      have hw189_0 := hx189_0
      obtain rfl : ad186 = ad189 := (by injection e189)
      replace hx189_0 := (HB.out.cell (wblt w hx189_0)).trans hx189_0
      replace hx189_1 := (HB.out.cell (wblt w hx189_1)).trans hx189_1
      replace hx189_2 := (HB.out.cell (wblt w hx189_2)).trans hx189_2
      replace hx189_3 := (HB.out.cell (wblt w hx189_3)).trans hx189_3
      replace hx189_4 := (HB.out.cell (wblt w hx189_4)).trans hx189_4
      replace hx189_5 := (HB.out.cell (wblt w hx189_5)).trans hx189_5
      replace p189 := eq_true p189
      replace q189 := eq_true q189
      have p190 : 0 ≤ (x4_1 : Int) := of_decide_eq_true (by first | (with_reducible assumption) | assumption)
      have q190 : x4_1 < (l0.length : Int) := of_decide_eq_true (by first | (with_reducible assumption) | assumption)
      obtain ⟨ad190, e190, hx190_0, hx190_1, hx190_2, hx190_3, hx190_4, hx190_5⟩ := at_T45 HR0.out x4_1 p190 q190
      have hw190_5 := hx190_5
      have hw190_4 := hx190_4
      have hw190_3 := hx190_3
      have hw190_2 := hx190_2
      have hw190_1 := hx190_1
      have hw190_0 := hx190_0
      obtain rfl : ad186 = ad190 := (by injection e190)
      replace hx190_0 := (HB.out.cell (wblt w hx190_0)).trans hx190_0
      replace hx190_1 := (HB.out.cell (wblt w hx190_1)).trans hx190_1
      replace hx190_2 := (HB.out.cell (wblt w hx190_2)).trans hx190_2
      replace hx190_3 := (HB.out.cell (wblt w hx190_3)).trans hx190_3
      replace hx190_4 := (HB.out.cell (wblt w hx190_4)).trans hx190_4
      replace hx190_5 := (HB.out.cell (wblt w hx190_5)).trans hx190_5
      replace p190 := eq_true p190
      replace q190 := eq_true q190
      have p191 : 0 ≤ (x4_1 : Int) := of_decide_eq_true (by first | (with_reducible assumption) | assumption)
      have q191 : x4_1 < (l0.length : Int) := of_decide_eq_true (by first | (with_reducible assumption) | assumption)
      obtain ⟨ad191, e191, hx191_0, hx191_1, hx191_2, hx191_3, hx191_4, hx191_5⟩ := at_T45 HR0.out x4_1 p191 q191
      have hw191_5 := hx191_5
      have hw191_4 := hx191_4
      have hw191_3 := hx191_3
      have hw191_2 := hx191_2
      have hw191_1 := hx191_1
      have hw191_0 := hx191_0
      obtain rfl : ad186 = ad191 := (by injection e191)
      replace hx191_0 := (HB.out.cell (wblt w hx191_0)).trans hx191_0
      replace hx191_1 := (HB.out.cell (wblt w hx191_1)).trans hx191_1
      replace hx191_2 := (HB.out.cell (wblt w hx191_2)).trans hx191_2
      replace hx191_3 := (HB.out.cell (wblt w hx191_3)).trans hx191_3
      replace hx191_4 := (HB.out.cell (wblt w hx191_4)).trans hx191_4
      replace hx191_5 := (HB.out.cell (wblt w hx191_5)).trans hx191_5
      replace p191 := eq_true p191
      replace q191 := eq_true q191
      refine start_ (n := 35) (S := fun w' => w'.cell? (ad186.add ((x4_1).toNat * 6)) = some (.int .i64 ((rd_T45 l0 x4_1).f0)) ∧ w'.cell? ⟨(ad186.add ((x4_1).toNat * 6)).block, (ad186.add ((x4_1).toNat * 6)).off + 1, none⟩ = some (.int .i64 ((rd_T45 l0 x4_1).f1)) ∧ w'.cell? ⟨(ad186.add ((x4_1).toNat * 6)).block, (ad186.add ((x4_1).toNat * 6)).off + 2, none⟩ = some (.int .i64 ((rd_T45 l0 x4_1).f2)) ∧ w'.cell? ⟨(ad186.add ((x4_1).toNat * 6)).block, (ad186.add ((x4_1).toNat * 6)).off + 3, none⟩ = some (.int .i64 ((rd_T45 l0 x4_1).f3)) ∧ w'.cell? ⟨(ad186.add ((x4_1).toNat * 6)).block, (ad186.add ((x4_1).toNat * 6)).off + 4, none⟩ = some (.int .i64 ((rd_T45 l0 x4_1).f4)) ∧ w'.cell? ⟨(ad186.add ((x4_1).toNat * 6)).block, (ad186.add ((x4_1).toNat * 6)).off + 5, none⟩ = some (.int .i64 ((rd_T45 l0 x4_1).f5)) ∧ w'.cell? (ad186.add ((x4_1).toNat * 6)) = some (.int .i64 ((rd_T45 l0 x4_1).f0)) ∧ w'.cell? ⟨(ad186.add ((x4_1).toNat * 6)).block, (ad186.add ((x4_1).toNat * 6)).off + 1, none⟩ = some (.int .i64 ((rd_T45 l0 x4_1).f1)) ∧ w'.cell? ⟨(ad186.add ((x4_1).toNat * 6)).block, (ad186.add ((x4_1).toNat * 6)).off + 2, none⟩ = some (.int .i64 ((rd_T45 l0 x4_1).f2)) ∧ w'.cell? ⟨(ad186.add ((x4_1).toNat * 6)).block, (ad186.add ((x4_1).toNat * 6)).off + 3, none⟩ = some (.int .i64 ((rd_T45 l0 x4_1).f3)) ∧ w'.cell? ⟨(ad186.add ((x4_1).toNat * 6)).block, (ad186.add ((x4_1).toNat * 6)).off + 4, none⟩ = some (.int .i64 ((rd_T45 l0 x4_1).f4)) ∧ w'.cell? ⟨(ad186.add ((x4_1).toNat * 6)).block, (ad186.add ((x4_1).toNat * 6)).off + 5, none⟩ = some (.int .i64 ((rd_T45 l0 x4_1).f5)) ∧ w'.cell? (ad186.add ((x4_1).toNat * 6)) = some (.int .i64 ((rd_T45 l0 x4_1).f0)) ∧ w'.cell? ⟨(ad186.add ((x4_1).toNat * 6)).block, (ad186.add ((x4_1).toNat * 6)).off + 1, none⟩ = some (.int .i64 ((rd_T45 l0 x4_1).f1)) ∧ w'.cell? ⟨(ad186.add ((x4_1).toNat * 6)).block, (ad186.add ((x4_1).toNat * 6)).off + 2, none⟩ = some (.int .i64 ((rd_T45 l0 x4_1).f2)) ∧ w'.cell? ⟨(ad186.add ((x4_1).toNat * 6)).block, (ad186.add ((x4_1).toNat * 6)).off + 3, none⟩ = some (.int .i64 ((rd_T45 l0 x4_1).f3)) ∧ w'.cell? ⟨(ad186.add ((x4_1).toNat * 6)).block, (ad186.add ((x4_1).toNat * 6)).off + 4, none⟩ = some (.int .i64 ((rd_T45 l0 x4_1).f4)) ∧ w'.cell? ⟨(ad186.add ((x4_1).toNat * 6)).block, (ad186.add ((x4_1).toNat * 6)).off + 5, none⟩ = some (.int .i64 ((rd_T45 l0 x4_1).f5)) ∧ w'.cell? (ad186.add ((x4_1).toNat * 6)) = some (.int .i64 ((rd_T45 l0 x4_1).f0)) ∧ w'.cell? ⟨(ad186.add ((x4_1).toNat * 6)).block, (ad186.add ((x4_1).toNat * 6)).off + 1, none⟩ = some (.int .i64 ((rd_T45 l0 x4_1).f1)) ∧ w'.cell? ⟨(ad186.add ((x4_1).toNat * 6)).block, (ad186.add ((x4_1).toNat * 6)).off + 2, none⟩ = some (.int .i64 ((rd_T45 l0 x4_1).f2)) ∧ w'.cell? ⟨(ad186.add ((x4_1).toNat * 6)).block, (ad186.add ((x4_1).toNat * 6)).off + 3, none⟩ = some (.int .i64 ((rd_T45 l0 x4_1).f3)) ∧ w'.cell? ⟨(ad186.add ((x4_1).toNat * 6)).block, (ad186.add ((x4_1).toNat * 6)).off + 4, none⟩ = some (.int .i64 ((rd_T45 l0 x4_1).f4)) ∧ w'.cell? ⟨(ad186.add ((x4_1).toNat * 6)).block, (ad186.add ((x4_1).toNat * 6)).off + 5, none⟩ = some (.int .i64 ((rd_T45 l0 x4_1).f5)) ∧ w'.cell? (ad186.add ((x4_1).toNat * 6)) = some (.int .i64 ((rd_T45 l0 x4_1).f0)) ∧ w'.cell? ⟨(ad186.add ((x4_1).toNat * 6)).block, (ad186.add ((x4_1).toNat * 6)).off + 1, none⟩ = some (.int .i64 ((rd_T45 l0 x4_1).f1)) ∧ w'.cell? ⟨(ad186.add ((x4_1).toNat * 6)).block, (ad186.add ((x4_1).toNat * 6)).off + 2, none⟩ = some (.int .i64 ((rd_T45 l0 x4_1).f2)) ∧ w'.cell? ⟨(ad186.add ((x4_1).toNat * 6)).block, (ad186.add ((x4_1).toNat * 6)).off + 3, none⟩ = some (.int .i64 ((rd_T45 l0 x4_1).f3)) ∧ w'.cell? ⟨(ad186.add ((x4_1).toNat * 6)).block, (ad186.add ((x4_1).toNat * 6)).off + 4, none⟩ = some (.int .i64 ((rd_T45 l0 x4_1).f4)) ∧ w'.cell? ⟨(ad186.add ((x4_1).toNat * 6)).block, (ad186.add ((x4_1).toNat * 6)).off + 5, none⟩ = some (.int .i64 ((rd_T45 l0 x4_1).f5)) ∧ w'.cell? (ad186.add ((x4_1).toNat * 6)) = some (.int .i64 ((rd_T45 l0 x4_1).f0)) ∧ w'.cell? ⟨(ad186.add ((x4_1).toNat * 6)).block, (ad186.add ((x4_1).toNat * 6)).off + 1, none⟩ = some (.int .i64 ((rd_T45 l0 x4_1).f1)) ∧ w'.cell? ⟨(ad186.add ((x4_1).toNat * 6)).block, (ad186.add ((x4_1).toNat * 6)).off + 2, none⟩ = some (.int .i64 ((rd_T45 l0 x4_1).f2)) ∧ w'.cell? ⟨(ad186.add ((x4_1).toNat * 6)).block, (ad186.add ((x4_1).toNat * 6)).off + 3, none⟩ = some (.int .i64 ((rd_T45 l0 x4_1).f3)) ∧ w'.cell? ⟨(ad186.add ((x4_1).toNat * 6)).block, (ad186.add ((x4_1).toNat * 6)).off + 4, none⟩ = some (.int .i64 ((rd_T45 l0 x4_1).f4)) ∧ w'.cell? ⟨(ad186.add ((x4_1).toNat * 6)).block, (ad186.add ((x4_1).toNat * 6)).off + 5, none⟩ = some (.int .i64 ((rd_T45 l0 x4_1).f5))) (ds := []) #[false, false, false, false, false, false, false, false, false, false, false, false, false, false, false, false, false, false, false, false, false, false, false, false, false, false, false, false, false, false, false, false, false, false, false] (by kernel_rfl) rfl rfl ⟨((HB.out.cell (wblt w hw186_0)).trans hw186_0), ((HB.out.cell (wblt w hw186_1)).trans hw186_1), ((HB.out.cell (wblt w hw186_2)).trans hw186_2), ((HB.out.cell (wblt w hw186_3)).trans hw186_3), ((HB.out.cell (wblt w hw186_4)).trans hw186_4), ((HB.out.cell (wblt w hw186_5)).trans hw186_5), ((HB.out.cell (wblt w hw187_0)).trans hw187_0), ((HB.out.cell (wblt w hw187_1)).trans hw187_1), ((HB.out.cell (wblt w hw187_2)).trans hw187_2), ((HB.out.cell (wblt w hw187_3)).trans hw187_3), ((HB.out.cell (wblt w hw187_4)).trans hw187_4), ((HB.out.cell (wblt w hw187_5)).trans hw187_5), ((HB.out.cell (wblt w hw188_0)).trans hw188_0), ((HB.out.cell (wblt w hw188_1)).trans hw188_1), ((HB.out.cell (wblt w hw188_2)).trans hw188_2), ((HB.out.cell (wblt w hw188_3)).trans hw188_3), ((HB.out.cell (wblt w hw188_4)).trans hw188_4), ((HB.out.cell (wblt w hw188_5)).trans hw188_5), ((HB.out.cell (wblt w hw189_0)).trans hw189_0), ((HB.out.cell (wblt w hw189_1)).trans hw189_1), ((HB.out.cell (wblt w hw189_2)).trans hw189_2), ((HB.out.cell (wblt w hw189_3)).trans hw189_3), ((HB.out.cell (wblt w hw189_4)).trans hw189_4), ((HB.out.cell (wblt w hw189_5)).trans hw189_5), ((HB.out.cell (wblt w hw190_0)).trans hw190_0), ((HB.out.cell (wblt w hw190_1)).trans hw190_1), ((HB.out.cell (wblt w hw190_2)).trans hw190_2), ((HB.out.cell (wblt w hw190_3)).trans hw190_3), ((HB.out.cell (wblt w hw190_4)).trans hw190_4), ((HB.out.cell (wblt w hw190_5)).trans hw190_5), ((HB.out.cell (wblt w hw191_0)).trans hw191_0), ((HB.out.cell (wblt w hw191_1)).trans hw191_1), ((HB.out.cell (wblt w hw191_2)).trans hw191_2), ((HB.out.cell (wblt w hw191_3)).trans hw191_3), ((HB.out.cell (wblt w hw191_4)).trans hw191_4), ((HB.out.cell (wblt w hw191_5)).trans hw191_5)⟩ (fun hHeld => ?_); refine with_tabW regcertlaw13_rows.tab5 regcertlaw13_rows.bits5 (fun HT_ HW_ => ?_)
      generalize wr.drew = w5 at HO_3 HB hx186_0 hx186_1 hx186_2 hx186_3 hx186_4 hx186_5 hx187_0 hx187_1 hx187_2 hx187_3 hx187_4 hx187_5 hx188_0 hx188_1 hx188_2 hx188_3 hx188_4 hx188_5 hx189_0 hx189_1 hx189_2 hx189_3 hx189_4 hx189_5 hx190_0 hx190_1 hx190_2 hx190_3 hx190_4 hx190_5 hx191_0 hx191_1 hx191_2 hx191_3 hx191_4 hx191_5 hHeld ⊢
      refine pure_ (i := 0) (N := some 11) (v := ?_) (a' := ?_) #[true, false, false, false, false, false, false, false, false, false, false, false, false, false, false, false, false, false, false, false, false, false, false, false, false, false, false, false, false, false, false, false, false, false, false] rfl rfl (any_of HT_.out (by kernel_rfl)) (fun _ _ _ h => h) (Or.inl ⟨by rfl, ?_⟩) ?_ ?_
      rotate_left
      ·intro w'
       go_simp
       with_reducible rfl
      rotate_left
      ·simp only [Act.put, sL1, sL2, sL3, i64_w, i32_w]
       rfl
      refine pure_ (i := 1) (N := some 12) (v := ?_) (a' := ?_) #[true, true, false, false, false, false, false, false, false, false, false, false, false, false, false, false, false, false, false, false, false, false, false, false, false, false, false, false, false, false, false, false, false, false, false] rfl rfl (any_of HT_.out (by kernel_rfl)) (fun _ _ _ h => h) (Or.inl ⟨by rfl, ?_⟩) ?_ ?_
      rotate_left
      ·intro w'
       go_simp
       with_reducible rfl
      rotate_left
      ·simp only [Act.put, sL1, sL2, sL3, i64_w, i32_w]
       rfl
      refine pure_ (i := 2) (N := some 13) (v := ?_) (a' := ?_) #[true, true, true, false, false, false, false, false, false, false, false, false, false, false, false, false, false, false, false, false, false, false, false, false, false, false, false, false, false, false, false, false, false, false, false] rfl rfl (any_of HT_.out (by kernel_rfl)) (fun _ _ _ h => h) (Or.inl ⟨by rfl, ?_⟩) ?_ ?_
      rotate_left
      ·intro w'
       go_simp
       with_reducible rfl
      rotate_left
      ·simp only [Act.put, sL1, sL2, sL3, i64_w, i32_w]
       rfl
      refine pure_ (i := 3) (N := some 14) (v := ?_) (a' := ?_) #[true, true, true, true, false, false, false, false, false, false, false, false, false, false, false, false, false, false, false, false, false, false, false, false, false, false, false, false, false, false, false, false, false, false, false] rfl rfl (any_of HT_.out (by kernel_rfl)) (fun _ _ _ h => h) (Or.inl ⟨by rfl, ?_⟩) ?_ ?_
      rotate_left
      ·intro w'
       go_simp
       with_reducible rfl
      rotate_left
      ·simp only [Act.put, sL1, sL2, sL3, i64_w, i32_w]
       rfl
      refine pure_ (i := 4) (N := some 15) (v := ?_) (a' := ?_) #[true, true, true, true, true, false, false, false, false, false, false, false, false, false, false, false, false, false, false, false, false, false, false, false, false, false, false, false, false, false, false, false, false, false, false] rfl rfl (any_of HT_.out (by kernel_rfl)) (fun _ _ _ h => h) (Or.inl ⟨by rfl, ?_⟩) ?_ ?_
      rotate_left
      ·intro w'
       go_simp
       with_reducible rfl
      rotate_left
      ·simp only [Act.put, sL1, sL2, sL3, i64_w, i32_w]
       rfl
      refine pure_ (i := 6) (N := some 17) (v := ?_) (a' := ?_) #[true, true, true, true, true, false, true, false, false, false, false, false, false, false, false, false, false, false, false, false, false, false, false, false, false, false, false, false, false, false, false, false, false, false, false] rfl rfl (any_of HT_.out (by kernel_rfl)) (fun _ _ _ h => h) (Or.inl ⟨by rfl, ?_⟩) ?_ ?_
      rotate_left
      ·intro w'
       go_simp
       with_reducible rfl
      rotate_left
      ·simp only [Act.put, sL1, sL2, sL3, i64_w, i32_w]
       rfl
      refine pure_ (i := 7) (N := some 18) (v := ?_) (a' := ?_) #[true, true, true, true, true, false, true, true, false, false, false, false, false, false, false, false, false, false, false, false, false, false, false, false, false, false, false, false, false, false, false, false, false, false, false] rfl rfl (any_of HT_.out (by kernel_rfl)) (fun _ _ _ h => h) (Or.inl ⟨by rfl, ?_⟩) ?_ ?_
      rotate_left
      ·intro w'
       go_simp
       with_reducible rfl
      rotate_left
      ·simp only [Act.put, sL1, sL2, sL3, i64_w, i32_w]
       rfl
      refine pure_ (i := 8) (N := some 19) (v := ?_) (a' := ?_) #[true, true, true, true, true, false, true, true, true, false, false, false, false, false, false, false, false, false, false, false, false, false, false, false, false, false, false, false, false, false, false, false, false, false, false] rfl rfl (any_of HT_.out (by kernel_rfl)) (fun _ _ _ h => h) (Or.inl ⟨by rfl, ?_⟩) ?_ ?_
      rotate_left
      ·intro w'
       go_simp
       with_reducible rfl
      rotate_left
      ·simp only [Act.put, sL1, sL2, sL3, i64_w, i32_w]
       rfl
      refine pure_ (i := 9) (N := some 20) (v := ?_) (a' := ?_) #[true, true, true, true, true, false, true, true, true, true, false, false, false, false, false, false, false, false, false, false, false, false, false, false, false, false, false, false, false, false, false, false, false, false, false] rfl rfl (any_of HT_.out (by kernel_rfl)) (fun _ _ _ h => h) (Or.inl ⟨by rfl, ?_⟩) ?_ ?_
      rotate_left
      ·intro w'
       go_simp
       with_reducible rfl
      rotate_left
      ·simp only [Act.put, sL1, sL2, sL3, i64_w, i32_w]
       rfl
      refine pure_ (i := 11) (N := some 22) (v := ?_) (a' := ?_) #[true, true, true, true, true, false, true, true, true, true, false, true, false, false, false, false, false, false, false, false, false, false, false, false, false, false, false, false, false, false, false, false, false, false, false] rfl rfl (any_of HT_.out (by kernel_rfl)) (fun _ _ _ h => h) (Or.inl ⟨by rfl, ?_⟩) ?_ ?_
      rotate_left
      ·intro w'
       go_simp
       with_reducible rfl
      rotate_left
      ·simp only [Act.put, sL1, sL2, sL3, i64_w, i32_w]
       rfl
      refine pure_ (i := 12) (N := some 23) (v := ?_) (a' := ?_) #[true, true, true, true, true, false, true, true, true, true, false, true, true, false, false, false, false, false, false, false, false, false, false, false, false, false, false, false, false, false, false, false, false, false, false] rfl rfl (any_of HT_.out (by kernel_rfl)) (fun _ _ _ h => h) (Or.inl ⟨by rfl, ?_⟩) ?_ ?_
      rotate_left
      ·intro w'
       go_simp
       with_reducible rfl
      rotate_left
      ·simp only [Act.put, sL1, sL2, sL3, i64_w, i32_w]
       rfl
      refine pure_ (i := 13) (N := some 24) (v := ?_) (a' := ?_) #[true, true, true, true, true, false, true, true, true, true, false, true, true, true, false, false, false, false, false, false, false, false, false, false, false, false, false, false, false, false, false, false, false, false, false] rfl rfl (any_of HT_.out (by kernel_rfl)) (fun _ _ _ h => h) (Or.inl ⟨by rfl, ?_⟩) ?_ ?_
      rotate_left
      ·intro w'
       go_simp
       with_reducible rfl
      rotate_left
      ·simp only [Act.put, sL1, sL2, sL3, i64_w, i32_w]
       rfl
      refine pure_ (i := 14) (N := some 25) (v := ?_) (a' := ?_) #[true, true, true, true, true, false, true, true, true, true, false, true, true, true, true, false, false, false, false, false, false, false, false, false, false, false, false, false, false, false, false, false, false, false, false] rfl rfl (any_of HT_.out (by kernel_rfl)) (fun _ _ _ h => h) (Or.inl ⟨by rfl, ?_⟩) ?_ ?_
      rotate_left
      ·intro w'
       go_simp
       with_reducible rfl
      rotate_left
      ·simp only [Act.put, sL1, sL2, sL3, i64_w, i32_w]
       rfl
      refine pure_ (i := 16) (N := some 27) (v := ?_) (a' := ?_) #[true, true, true, true, true, false, true, true, true, true, false, true, true, true, true, false, true, false, false, false, false, false, false, false, false, false, false, false, false, false, false, false, false, false, false] rfl rfl (any_of HT_.out (by kernel_rfl)) (fun _ _ _ h => h) (Or.inl ⟨by rfl, ?_⟩) ?_ ?_
      rotate_left
      ·intro w'
       go_simp
       with_reducible rfl
      rotate_left
      ·simp only [Act.put, sL1, sL2, sL3, i64_w, i32_w]
       rfl
      refine pure_ (i := 17) (N := some 28) (v := ?_) (a' := ?_) #[true, true, true, true, true, false, true, true, true, true, false, true, true, true, true, false, true, true, false, false, false, false, false, false, false, false, false, false, false, false, false, false, false, false, false] rfl rfl (any_of HT_.out (by kernel_rfl)) (fun _ _ _ h => h) (Or.inl ⟨by rfl, ?_⟩) ?_ ?_
      rotate_left
      ·intro w'
       go_simp
       with_reducible rfl
      rotate_left
      ·simp only [Act.put, sL1, sL2, sL3, i64_w, i32_w]
       rfl
      refine pure_ (i := 18) (N := some 29) (v := ?_) (a' := ?_) #[true, true, true, true, true, false, true, true, true, true, false, true, true, true, true, false, true, true, true, false, false, false, false, false, false, false, false, false, false, false, false, false, false, false, false] rfl rfl (any_of HT_.out (by kernel_rfl)) (fun _ _ _ h => h) (Or.inl ⟨by rfl, ?_⟩) ?_ ?_
      rotate_left
      ·intro w'
       go_simp
       with_reducible rfl
      rotate_left
      ·simp only [Act.put, sL1, sL2, sL3, i64_w, i32_w]
       rfl
      refine pure_ (i := 19) (N := some 30) (v := ?_) (a' := ?_) #[true, true, true, true, true, false, true, true, true, true, false, true, true, true, true, false, true, true, true, true, false, false, false, false, false, false, false, false, false, false, false, false, false, false, false] rfl rfl (any_of HT_.out (by kernel_rfl)) (fun _ _ _ h => h) (Or.inl ⟨by rfl, ?_⟩) ?_ ?_
      rotate_left
      ·intro w'
       go_simp
       with_reducible rfl
      rotate_left
      ·simp only [Act.put, sL1, sL2, sL3, i64_w, i32_w]
       rfl
      refine pure_ (i := 21) (N := some 32) (v := ?_) (a' := ?_) #[true, true, true, true, true, false, true, true, true, true, false, true, true, true, true, false, true, true, true, true, false, true, false, false, false, false, false, false, false, false, false, false, false, false, false] rfl rfl (any_of HT_.out (by kernel_rfl)) (fun _ _ _ h => h) (Or.inl ⟨by rfl, ?_⟩) ?_ ?_
      rotate_left
      ·intro w'
       go_simp
       with_reducible rfl
      rotate_left
      ·simp only [Act.put, sL1, sL2, sL3, i64_w, i32_w]
       rfl
      refine pure_ (i := 22) (N := some 33) (v := ?_) (a' := ?_) #[true, true, true, true, true, false, true, true, true, true, false, true, true, true, true, false, true, true, true, true, false, true, true, false, false, false, false, false, false, false, false, false, false, false, false] rfl rfl (any_of HT_.out (by kernel_rfl)) (fun _ _ _ h => h) (Or.inl ⟨by rfl, ?_⟩) ?_ ?_
      rotate_left
      ·intro w'
       go_simp
       with_reducible rfl
      rotate_left
      ·simp only [Act.put, sL1, sL2, sL3, i64_w, i32_w]
       rfl
      refine pure_ (i := 23) (N := some 34) (v := ?_) (a' := ?_) #[true, true, true, true, true, false, true, true, true, true, false, true, true, true, true, false, true, true, true, true, false, true, true, true, false, false, false, false, false, false, false, false, false, false, false] rfl rfl (any_of HT_.out (by kernel_rfl)) (fun _ _ _ h => h) (Or.inl ⟨by rfl, ?_⟩) ?_ ?_
      rotate_left
      ·intro w'
       go_simp
       with_reducible rfl
      rotate_left
      ·simp only [Act.put, sL1, sL2, sL3, i64_w, i32_w]
       rfl
      refine pure_ (i := 24) (N := some 35) (v := ?_) (a' := ?_) #[true, true, true, true, true, false, true, true, true, true, false, true, true, true, true, false, true, true, true, true, false, true, true, true, true, false, false, false, false, false, false, false, false, false, false] rfl rfl (any_of HT_.out (by kernel_rfl)) (fun _ _ _ h => h) (Or.inl ⟨by rfl, ?_⟩) ?_ ?_
      rotate_left
      ·intro w'
       go_simp
       with_reducible rfl
      rotate_left
      ·simp only [Act.put, sL1, sL2, sL3, i64_w, i32_w]
       rfl
      refine pure_ (i := 26) (N := some 37) (v := ?_) (a' := ?_) #[true, true, true, true, true, false, true, true, true, true, false, true, true, true, true, false, true, true, true, true, false, true, true, true, true, false, true, false, false, false, false, false, false, false, false] rfl rfl (any_of HT_.out (by kernel_rfl)) (fun _ _ _ h => h) (Or.inl ⟨by rfl, ?_⟩) ?_ ?_
      rotate_left
      ·intro w'
       go_simp
       with_reducible rfl
      rotate_left
      ·simp only [Act.put, sL1, sL2, sL3, i64_w, i32_w]
       rfl
      refine pure_ (i := 27) (N := some 38) (v := ?_) (a' := ?_) #[true, true, true, true, true, false, true, true, true, true, false, true, true, true, true, false, true, true, true, true, false, true, true, true, true, false, true, true, false, false, false, false, false, false, false] rfl rfl (any_of HT_.out (by kernel_rfl)) (fun _ _ _ h => h) (Or.inl ⟨by rfl, ?_⟩) ?_ ?_
      rotate_left
      ·intro w'
       go_simp
       with_reducible rfl
      rotate_left
      ·simp only [Act.put, sL1, sL2, sL3, i64_w, i32_w]
       rfl
      refine pure_ (i := 28) (N := some 39) (v := ?_) (a' := ?_) #[true, true, true, true, true, false, true, true, true, true, false, true, true, true, true, false, true, true, true, true, false, true, true, true, true, false, true, true, true, false, false, false, false, false, false] rfl rfl (any_of HT_.out (by kernel_rfl)) (fun _ _ _ h => h) (Or.inl ⟨by rfl, ?_⟩) ?_ ?_
      rotate_left
      ·intro w'
       go_simp
       with_reducible rfl
      rotate_left
      ·simp only [Act.put, sL1, sL2, sL3, i64_w, i32_w]
       rfl
      refine pure_ (i := 29) (N := some 40) (v := ?_) (a' := ?_) #[true, true, true, true, true, false, true, true, true, true, false, true, true, true, true, false, true, true, true, true, false, true, true, true, true, false, true, true, true, true, false, false, false, false, false] rfl rfl (any_of HT_.out (by kernel_rfl)) (fun _ _ _ h => h) (Or.inl ⟨by rfl, ?_⟩) ?_ ?_
      rotate_left
      ·intro w'
       go_simp
       with_reducible rfl
      rotate_left
      ·simp only [Act.put, sL1, sL2, sL3, i64_w, i32_w]
       rfl
      refine take_ (i := 5) (N := some 16) (v := ?_) (a' := ?_) #[true, true, true, true, true, true, true, true, true, true, false, true, true, true, true, false, true, true, true, true, false, true, true, true, true, false, true, true, true, true, false, false, false, false, false] rfl rfl (take_ofW HT_.out HW_.out (by kernel_rfl)) (fun _ _ _ h => h) (Or.inl ⟨by rfl, ?_⟩) hHeld ?_ ?_
      rotate_left
      ·rintro w' ⟨s0, s1, s2, s3, s4, s5, s6, s7, s8, s9, s10, s11, s12, s13, s14, s15, s16, s17, s18, s19, s20, s21, s22, s23, s24, s25, s26, s27, s28, s29, s30, s31, s32, s33, s34, s35⟩
       go_simp
       with_reducible rfl
      rotate_left
      ·simp only [Act.put, sL1, sL2, sL3, i64_w, i32_w]
       rfl
      refine take_ (i := 10) (N := some 21) (v := ?_) (a' := ?_) #[true, true, true, true, true, true, true, true, true, true, true, true, true, true, true, false, true, true, true, true, false, true, true, true, true, false, true, true, true, true, false, false, false, false, false] rfl rfl (take_ofW HT_.out HW_.out (by kernel_rfl)) (fun _ _ _ h => h) (Or.inl ⟨by rfl, ?_⟩) hHeld ?_ ?_
      rotate_left
      ·rintro w' ⟨s0, s1, s2, s3, s4, s5, s6, s7, s8, s9, s10, s11, s12, s13, s14, s15, s16, s17, s18, s19, s20, s21, s22, s23, s24, s25, s26, s27, s28, s29, s30, s31, s32, s33, s34, s35⟩
       go_simp
       with_reducible rfl
      rotate_left
      ·simp only [Act.put, sL1, sL2, sL3, i64_w, i32_w]
       rfl
      refine take_ (i := 15) (N := some 26) (v := ?_) (a' := ?_) #[true, true, true, true, true, true, true, true, true, true, true, true, true, true, true, true, true, true, true, true, false, true, true, true, true, false, true, true, true, true, false, false, false, false, false] rfl rfl (take_ofW HT_.out HW_.out (by kernel_rfl)) (fun _ _ _ h => h) (Or.inl ⟨by rfl, ?_⟩) hHeld ?_ ?_
      rotate_left
      ·rintro w' ⟨s0, s1, s2, s3, s4, s5, s6, s7, s8, s9, s10, s11, s12, s13, s14, s15, s16, s17, s18, s19, s20, s21, s22, s23, s24, s25, s26, s27, s28, s29, s30, s31, s32, s33, s34, s35⟩
       go_simp
       with_reducible rfl
      rotate_left
      ·simp only [Act.put, sL1, sL2, sL3, i64_w, i32_w]
       rfl
      refine take_ (i := 20) (N := some 31) (v := ?_) (a' := ?_) #[true, true, true, true, true, true, true, true, true, true, true, true, true, true, true, true, true, true, true, true, true, true, true, true, true, false, true, true, true, true, false, false, false, false, false] rfl rfl (take_ofW HT_.out HW_.out (by kernel_rfl)) (fun _ _ _ h => h) (Or.inl ⟨by rfl, ?_⟩) hHeld ?_ ?_
      rotate_left
      ·rintro w' ⟨s0, s1, s2, s3, s4, s5, s6, s7, s8, s9, s10, s11, s12, s13, s14, s15, s16, s17, s18, s19, s20, s21, s22, s23, s24, s25, s26, s27, s28, s29, s30, s31, s32, s33, s34, s35⟩
       go_simp
       with_reducible rfl
      rotate_left
      ·simp only [Act.put, sL1, sL2, sL3, i64_w, i32_w]
       rfl
      refine take_ (i := 25) (N := some 36) (v := ?_) (a' := ?_) #[true, true, true, true, true, true, true, true, true, true, true, true, true, true, true, true, true, true, true, true, true, true, true, true, true, true, true, true, true, true, false, false, false, false, false] rfl rfl (take_ofW HT_.out HW_.out (by kernel_rfl)) (fun _ _ _ h => h) (Or.inl ⟨by rfl, ?_⟩) hHeld ?_ ?_
      rotate_left
      ·rintro w' ⟨s0, s1, s2, s3, s4, s5, s6, s7, s8, s9, s10, s11, s12, s13, s14, s15, s16, s17, s18, s19, s20, s21, s22, s23, s24, s25, s26, s27, s28, s29, s30, s31, s32, s33, s34, s35⟩
       go_simp
       with_reducible rfl
      rotate_left
      ·simp only [Act.put, sL1, sL2, sL3, i64_w, i32_w]
       rfl
      refine take_ (i := 30) (N := some 41) (v := ?_) (a' := ?_) #[true, true, true, true, true, true, true, true, true, true, true, true, true, true, true, true, true, true, true, true, true, true, true, true, true, true, true, true, true, true, true, false, false, false, false] rfl rfl (take_ofW HT_.out HW_.out (by kernel_rfl)) (fun _ _ _ h => h) (Or.inl ⟨by rfl, ?_⟩) hHeld ?_ ?_
      rotate_left
      ·rintro w' ⟨s0, s1, s2, s3, s4, s5, s6, s7, s8, s9, s10, s11, s12, s13, s14, s15, s16, s17, s18, s19, s20, s21, s22, s23, s24, s25, s26, s27, s28, s29, s30, s31, s32, s33, s34, s35⟩
       go_simp
       with_reducible rfl
      rotate_left
      ·simp only [Act.put, sL1, sL2, sL3, i64_w, i32_w]
       rfl
      refine pure_ (i := 31) (N := some 42) (v := ?_) (a' := ?_) #[true, true, true, true, true, true, true, true, true, true, true, true, true, true, true, true, true, true, true, true, true, true, true, true, true, true, true, true, true, true, true, true, false, false, false] rfl rfl (any_of HT_.out (by kernel_rfl)) (fun _ _ _ h => h) (Or.inl ⟨by rfl, ?_⟩) ?_ ?_
      rotate_left
      ·intro w'
       go_simp
       with_reducible rfl
      rotate_left
      ·simp only [Act.put, sL1, sL2, sL3, i64_w, i32_w]
       rfl
      refine one_ (i := 32) (N := some 43) #[true, true, true, true, true, true, true, true, true, true, true, true, true, true, true, true, true, true, true, true, true, true, true, true, true, true, true, true, true, true, true, true, true, false, false] rfl rfl (one_of HT_.out (by kernel_rfl)) (by decide) (fun K hK => ?_)
      refine value_ (w1 := ?_) (v := ?_) (by rfl) rfl ?_ ?_
      rotate_left 2
      ·go_simp
       constructor
       ·rfl
       ·rfl
      refine hK.out _ _ ⟨(World.cell?_alloc_lt _ _ _ (World.block_lt_of_cell? _ _ (((HB.out.cell (wblt w hw186_0)).trans hw186_0)))).trans (((HB.out.cell (wblt w hw186_0)).trans hw186_0)), (World.cell?_alloc_lt _ _ _ (World.block_lt_of_cell? _ _ (((HB.out.cell (wblt w hw186_1)).trans hw186_1)))).trans (((HB.out.cell (wblt w hw186_1)).trans hw186_1)), (World.cell?_alloc_lt _ _ _ (World.block_lt_of_cell? _ _ (((HB.out.cell (wblt w hw186_2)).trans hw186_2)))).trans (((HB.out.cell (wblt w hw186_2)).trans hw186_2)), (World.cell?_alloc_lt _ _ _ (World.block_lt_of_cell? _ _ (((HB.out.cell (wblt w hw186_3)).trans hw186_3)))).trans (((HB.out.cell (wblt w hw186_3)).trans hw186_3)), (World.cell?_alloc_lt _ _ _ (World.block_lt_of_cell? _ _ (((HB.out.cell (wblt w hw186_4)).trans hw186_4)))).trans (((HB.out.cell (wblt w hw186_4)).trans hw186_4)), (World.cell?_alloc_lt _ _ _ (World.block_lt_of_cell? _ _ (((HB.out.cell (wblt w hw186_5)).trans hw186_5)))).trans (((HB.out.cell (wblt w hw186_5)).trans hw186_5)), (World.cell?_alloc_lt _ _ _ (World.block_lt_of_cell? _ _ (((HB.out.cell (wblt w hw187_0)).trans hw187_0)))).trans (((HB.out.cell (wblt w hw187_0)).trans hw187_0)), (World.cell?_alloc_lt _ _ _ (World.block_lt_of_cell? _ _ (((HB.out.cell (wblt w hw187_1)).trans hw187_1)))).trans (((HB.out.cell (wblt w hw187_1)).trans hw187_1)), (World.cell?_alloc_lt _ _ _ (World.block_lt_of_cell? _ _ (((HB.out.cell (wblt w hw187_2)).trans hw187_2)))).trans (((HB.out.cell (wblt w hw187_2)).trans hw187_2)), (World.cell?_alloc_lt _ _ _ (World.block_lt_of_cell? _ _ (((HB.out.cell (wblt w hw187_3)).trans hw187_3)))).trans (((HB.out.cell (wblt w hw187_3)).trans hw187_3)), (World.cell?_alloc_lt _ _ _ (World.block_lt_of_cell? _ _ (((HB.out.cell (wblt w hw187_4)).trans hw187_4)))).trans (((HB.out.cell (wblt w hw187_4)).trans hw187_4)), (World.cell?_alloc_lt _ _ _ (World.block_lt_of_cell? _ _ (((HB.out.cell (wblt w hw187_5)).trans hw187_5)))).trans (((HB.out.cell (wblt w hw187_5)).trans hw187_5)), (World.cell?_alloc_lt _ _ _ (World.block_lt_of_cell? _ _ (((HB.out.cell (wblt w hw188_0)).trans hw188_0)))).trans (((HB.out.cell (wblt w hw188_0)).trans hw188_0)), (World.cell?_alloc_lt _ _ _ (World.block_lt_of_cell? _ _ (((HB.out.cell (wblt w hw188_1)).trans hw188_1)))).trans (((HB.out.cell (wblt w hw188_1)).trans hw188_1)), (World.cell?_alloc_lt _ _ _ (World.block_lt_of_cell? _ _ (((HB.out.cell (wblt w hw188_2)).trans hw188_2)))).trans (((HB.out.cell (wblt w hw188_2)).trans hw188_2)), (World.cell?_alloc_lt _ _ _ (World.block_lt_of_cell? _ _ (((HB.out.cell (wblt w hw188_3)).trans hw188_3)))).trans (((HB.out.cell (wblt w hw188_3)).trans hw188_3)), (World.cell?_alloc_lt _ _ _ (World.block_lt_of_cell? _ _ (((HB.out.cell (wblt w hw188_4)).trans hw188_4)))).trans (((HB.out.cell (wblt w hw188_4)).trans hw188_4)), (World.cell?_alloc_lt _ _ _ (World.block_lt_of_cell? _ _ (((HB.out.cell (wblt w hw188_5)).trans hw188_5)))).trans (((HB.out.cell (wblt w hw188_5)).trans hw188_5)), (World.cell?_alloc_lt _ _ _ (World.block_lt_of_cell? _ _ (((HB.out.cell (wblt w hw189_0)).trans hw189_0)))).trans (((HB.out.cell (wblt w hw189_0)).trans hw189_0)), (World.cell?_alloc_lt _ _ _ (World.block_lt_of_cell? _ _ (((HB.out.cell (wblt w hw189_1)).trans hw189_1)))).trans (((HB.out.cell (wblt w hw189_1)).trans hw189_1)), (World.cell?_alloc_lt _ _ _ (World.block_lt_of_cell? _ _ (((HB.out.cell (wblt w hw189_2)).trans hw189_2)))).trans (((HB.out.cell (wblt w hw189_2)).trans hw189_2)), (World.cell?_alloc_lt _ _ _ (World.block_lt_of_cell? _ _ (((HB.out.cell (wblt w hw189_3)).trans hw189_3)))).trans (((HB.out.cell (wblt w hw189_3)).trans hw189_3)), (World.cell?_alloc_lt _ _ _ (World.block_lt_of_cell? _ _ (((HB.out.cell (wblt w hw189_4)).trans hw189_4)))).trans (((HB.out.cell (wblt w hw189_4)).trans hw189_4)), (World.cell?_alloc_lt _ _ _ (World.block_lt_of_cell? _ _ (((HB.out.cell (wblt w hw189_5)).trans hw189_5)))).trans (((HB.out.cell (wblt w hw189_5)).trans hw189_5)), (World.cell?_alloc_lt _ _ _ (World.block_lt_of_cell? _ _ (((HB.out.cell (wblt w hw190_0)).trans hw190_0)))).trans (((HB.out.cell (wblt w hw190_0)).trans hw190_0)), (World.cell?_alloc_lt _ _ _ (World.block_lt_of_cell? _ _ (((HB.out.cell (wblt w hw190_1)).trans hw190_1)))).trans (((HB.out.cell (wblt w hw190_1)).trans hw190_1)), (World.cell?_alloc_lt _ _ _ (World.block_lt_of_cell? _ _ (((HB.out.cell (wblt w hw190_2)).trans hw190_2)))).trans (((HB.out.cell (wblt w hw190_2)).trans hw190_2)), (World.cell?_alloc_lt _ _ _ (World.block_lt_of_cell? _ _ (((HB.out.cell (wblt w hw190_3)).trans hw190_3)))).trans (((HB.out.cell (wblt w hw190_3)).trans hw190_3)), (World.cell?_alloc_lt _ _ _ (World.block_lt_of_cell? _ _ (((HB.out.cell (wblt w hw190_4)).trans hw190_4)))).trans (((HB.out.cell (wblt w hw190_4)).trans hw190_4)), (World.cell?_alloc_lt _ _ _ (World.block_lt_of_cell? _ _ (((HB.out.cell (wblt w hw190_5)).trans hw190_5)))).trans (((HB.out.cell (wblt w hw190_5)).trans hw190_5)), (World.cell?_alloc_lt _ _ _ (World.block_lt_of_cell? _ _ (((HB.out.cell (wblt w hw191_0)).trans hw191_0)))).trans (((HB.out.cell (wblt w hw191_0)).trans hw191_0)), (World.cell?_alloc_lt _ _ _ (World.block_lt_of_cell? _ _ (((HB.out.cell (wblt w hw191_1)).trans hw191_1)))).trans (((HB.out.cell (wblt w hw191_1)).trans hw191_1)), (World.cell?_alloc_lt _ _ _ (World.block_lt_of_cell? _ _ (((HB.out.cell (wblt w hw191_2)).trans hw191_2)))).trans (((HB.out.cell (wblt w hw191_2)).trans hw191_2)), (World.cell?_alloc_lt _ _ _ (World.block_lt_of_cell? _ _ (((HB.out.cell (wblt w hw191_3)).trans hw191_3)))).trans (((HB.out.cell (wblt w hw191_3)).trans hw191_3)), (World.cell?_alloc_lt _ _ _ (World.block_lt_of_cell? _ _ (((HB.out.cell (wblt w hw191_4)).trans hw191_4)))).trans (((HB.out.cell (wblt w hw191_4)).trans hw191_4)), (World.cell?_alloc_lt _ _ _ (World.block_lt_of_cell? _ _ (((HB.out.cell (wblt w hw191_5)).trans hw191_5)))).trans (((HB.out.cell (wblt w hw191_5)).trans hw191_5))⟩ (fun hHeld => ?_)
      clear hK K
      refine norm_ (a' := ?_) ?_ ?_
      rotate_left
      ·show Act.put _ (some 43) _ = _
       simp only [Act.put, sL1, sL2, sL3, i64_w, i32_w]
       rfl
      refine one_ (i := 33) (N := some 44) #[true, true, true, true, true, true, true, true, true, true, true, true, true, true, true, true, true, true, true, true, true, true, true, true, true, true, true, true, true, true, true, true, true, true, false] rfl rfl (one_of HT_.out (by kernel_rfl)) (by decide) (fun K hK => ?_)
      refine Kd.R_append_step k58 (w0 := w) w.heap.size (by rfl) (.tmp 11) (.tmp 43) 36 58 (.agg #[(.int .i64 0), (.int .i64 0), (.int .i64 0), (.int .i64 0), (.int .i64 0), (.int .i64 0)]) 48 rfl Try.underlying36 info58 rfl (by decide) (by omega) u3 x3_1 (⟨(rd_T45 l0 x4_1).f0, (rd_T45 l0 x4_1).f1, (rd_T45 l0 x4_1).f2, (rd_T45 l0 x4_1).f3, (rd_T45 l0 x4_1).f4, (rd_T45 l0 x4_1).f5⟩ : S58) [.int .i64 ((rd_T45 l0 x4_1).f0), .int .i64 ((rd_T45 l0 x4_1).f1), .int .i64 ((rd_T45 l0 x4_1).f2), .int .i64 ((rd_T45 l0 x4_1).f3), .int .i64 ((rd_T45 l0 x4_1).f4), .int .i64 ((rd_T45 l0 x4_1).f5)] (fun _ => True) (fun _ => False) rfl rfl ?aP (fun _ hk => hk.elim) ?aF ?aO ?aB ?aS ?aL ?_
      (case aP => exact k58_mkM _ _ _ (⟨(rd_T45 l0 x4_1).f0, (rd_T45 l0 x4_1).f1, (rd_T45 l0 x4_1).f2, (rd_T45 l0 x4_1).f3, (rd_T45 l0 x4_1).f4, (rd_T45 l0 x4_1).f5⟩ : S58))
      (case aB => exact (by repeat (first | (with_reducible first | exact HB.out | apply below_alloc | apply bdN | apply bd1) | exact HB.out)))
      (case aF => exact (fun _ _ => trivial))
      (case aO => exact (by (with_reducible repeat (first | apply Kd.R_alloc | apply Kd.R_drewN | apply Kd.R_drew)); exact HO_3.out))
      (case aS => exact (below_size (by repeat (first | (with_reducible first | exact HB.out | apply below_alloc | apply bdN | apply bd1) | exact HB.out))))
      (case aL => have := LMc4.out; omega)
      intro v193 w6 ho hb hg hat
      rw [← Ny192.out] at ho
      have n0_ := As0 (hb)
      have n1_ := As0 (ho)
      clear HB
      clear HO_3
      have HB := n0_
      have HO194 := n1_
      clear n0_ n1_
      clear ho hb hg hat
      refine hK.out _ _ ⟨((HB.out.cell (wblt w hw186_0)).trans hw186_0), ((HB.out.cell (wblt w hw186_1)).trans hw186_1), ((HB.out.cell (wblt w hw186_2)).trans hw186_2), ((HB.out.cell (wblt w hw186_3)).trans hw186_3), ((HB.out.cell (wblt w hw186_4)).trans hw186_4), ((HB.out.cell (wblt w hw186_5)).trans hw186_5), ((HB.out.cell (wblt w hw187_0)).trans hw187_0), ((HB.out.cell (wblt w hw187_1)).trans hw187_1), ((HB.out.cell (wblt w hw187_2)).trans hw187_2), ((HB.out.cell (wblt w hw187_3)).trans hw187_3), ((HB.out.cell (wblt w hw187_4)).trans hw187_4), ((HB.out.cell (wblt w hw187_5)).trans hw187_5), ((HB.out.cell (wblt w hw188_0)).trans hw188_0), ((HB.out.cell (wblt w hw188_1)).trans hw188_1), ((HB.out.cell (wblt w hw188_2)).trans hw188_2), ((HB.out.cell (wblt w hw188_3)).trans hw188_3), ((HB.out.cell (wblt w hw188_4)).trans hw188_4), ((HB.out.cell (wblt w hw188_5)).trans hw188_5), ((HB.out.cell (wblt w hw189_0)).trans hw189_0), ((HB.out.cell (wblt w hw189_1)).trans hw189_1), ((HB.out.cell (wblt w hw189_2)).trans hw189_2), ((HB.out.cell (wblt w hw189_3)).trans hw189_3), ((HB.out.cell (wblt w hw189_4)).trans hw189_4), ((HB.out.cell (wblt w hw189_5)).trans hw189_5), ((HB.out.cell (wblt w hw190_0)).trans hw190_0), ((HB.out.cell (wblt w hw190_1)).trans hw190_1), ((HB.out.cell (wblt w hw190_2)).trans hw190_2), ((HB.out.cell (wblt w hw190_3)).trans hw190_3), ((HB.out.cell (wblt w hw190_4)).trans hw190_4), ((HB.out.cell (wblt w hw190_5)).trans hw190_5), ((HB.out.cell (wblt w hw191_0)).trans hw191_0), ((HB.out.cell (wblt w hw191_1)).trans hw191_1), ((HB.out.cell (wblt w hw191_2)).trans hw191_2), ((HB.out.cell (wblt w hw191_3)).trans hw191_3), ((HB.out.cell (wblt w hw191_4)).trans hw191_4), ((HB.out.cell (wblt w hw191_5)).trans hw191_5)⟩ (fun hHeld => ?_)
      clear hK K
      refine norm_ (a' := ?_) ?_ ?_
      rotate_left
      ·show Act.put _ (some 44) _ = _
       simp only [Act.put, sL1, sL2, sL3, i64_w, i32_w]
       rfl
      refine pure_ (i := 34) (N := some 3) (v := ?_) (a' := ?_) #[true, true, true, true, true, true, true, true, true, true, true, true, true, true, true, true, true, true, true, true, true, true, true, true, true, true, true, true, true, true, true, true, true, true, true] rfl rfl (any_of HT_.out (by kernel_rfl)) (fun _ _ _ h => h) (Or.inl ⟨by rfl, ?_⟩) ?_ ?_
      rotate_left
      ·intro w'
       go_simp
       with_reducible rfl
      rotate_left
      ·simp only [Act.put, sL1, sL2, sL3, i64_w, i32_w]
       rfl
      refine done_ (done_of HT_.out (by kernel_rfl)) ?_
      try go_wp2
      go_roundg k1
      case measure => have := HK1.out; omega
      case rel => exact ⟨(y192), (wrap64 (x4_1 + 1)), (by first | rfl | (simp; done) | (simp [*]; done)), H', ⟨by have := HK1.out; omega⟩, ⟨by (with_reducible repeat (first | apply Kd.R_alloc | apply Kd.R_drewN | apply Kd.R_drew)); exact HO194.out⟩, ⟨by repeat (first | (with_reducible first | exact HB.out | apply below_alloc | apply bdN | apply bd1) | exact HB.out)⟩⟩
     ·rw [if_neg c4] at H
      exact absurd H (by simp)
    ·rw [if_neg c3] at H
     exact absurd H (by simp)
   ·rw [if_neg c2] at H
    have c2b0 : decide (x4_1 < (l0.length : Int)) = false := decide_eq_false c2
    clear c2
    obtain rfl := Option.some.inj H
    go_wp2
    go_ret
    exact ⟨_, by first | rfl | (simp [errW_none, errW_some] <;> rfl) | (simp [*, errW_none, errW_some] <;> rfl), by (with_reducible repeat (first | apply Kd.R_alloc | apply Kd.R_drewN | apply Kd.R_drew)); exact HO_3.out, by repeat (first | (with_reducible first | exact HB.out | apply below_alloc | apply bdN | apply bd1) | exact HB.out)⟩

/-! ### regcertref13_Terms: function 16 -/
def regcertref13_Terms.f (a0_0 : Int) (a0_1 : Int) (a0_2 : Int) (a0_3 : Int) (a1_0 : Int) (a1_1 : Int) (a1_2 : Int) (a1_3 : Int) : Option (Bool) := some (a0_0 == a1_0 && (a0_2 == a1_2 && (a0_3 == a1_3)))
set_option maxHeartbeats 8000000 in
set_option maxRecDepth 100000 in
theorem regcertref13_Terms.calls (a0_0 : Int) (a0_1 : Int) (a0_2 : Int) (a0_3 : Int) (a1_0 : Int) (a1_1 : Int) (a1_2 : Int) (a1_3 : Int) (r : Bool) (w : World) (h : regcertref13_Terms.f a0_0 a0_1 a0_2 a0_3 a1_0 a1_1 a1_2 a1_3 = some r) :
  Calls Try.prog 16 #[.agg #[.int .i64 a0_0, .int .i64 a0_1, .int .i64 a0_2, .int .i64 a0_3], .agg #[.int .i64 a1_0, .int .i64 a1_1, .int .i64 a1_2, .int .i64 a1_3]] w fun e w' => e = .returned (.bool r) ∧ Below w.heap.size w w' := by
 have hu30 := Try.underlying30
 have HB := As0 (Below.refl w.heap.size w)
 have H : (some (a0_0 == a1_0 && (a0_2 == a1_2 && (a0_3 == a1_3)))) = some r := h
 clear h
 obtain rfl := Option.some.inj H
 go_enter Try.func16, Try.ntmps16
 go_wp2_with (first | ((with_reducible refine gate_dst (N := 2) rfl ?_); refine box_event ?hg (N := 2) ?hd (cs := #[.int .i64 a0_0, .int .i64 a0_1, .int .i64 a0_2, .int .i64 a0_3]) (t := 30) ?hr ?_; (case hd => rfl); (case hg => rfl); (case hr => first | (go_simp; done) | (go_simp; rfl)); intro gb195 hg w3 hbox hb; have n0_ := As0 (below_step (by repeat (first | (with_reducible first | exact HB.out | apply below_alloc | apply bdN | apply bd1) | exact HB.out)) hb); have n1_ := As0 (hbox); have n2_ := As0 ((by rw [hg]; exact (below_size (by repeat (first | (with_reducible first | exact HB.out | apply below_alloc | apply bdN | apply bd1) | exact HB.out))) : w.heap.size ≤ gb195)); have n3_ := As0 ((by rw [hg]; exact (below_size (by repeat (first | (with_reducible first | exact HB.out | apply below_alloc | apply bdN | apply bd1) | exact HB.out))) : w.heap.size ≤ gb195)); clear HB; have HB := n0_; have BK195 := n1_; have GW195 := n2_; have GE195 := n3_; clear n0_ n1_ n2_ n3_; clear hb hbox hg) | ((with_reducible refine gate_dst (N := 3) rfl ?_); refine box_event ?hg (N := 3) ?hd (cs := #[.int .i64 a1_0, .int .i64 a1_1, .int .i64 a1_2, .int .i64 a1_3]) (t := 30) ?hr ?_; (case hd => rfl); (case hg => rfl); (case hr => first | (go_simp; done) | (go_simp; rfl)); intro gb196 hg w4 hbox hb; have n0_ := As0 (blk_below (g := gb195) (o := .cells #[.int .i64 a0_0, .int .i64 a0_1, .int .i64 a0_2, .int .i64 a0_3] 30 (0, 0)) (by (with_reducible repeat (first | refine blk_drewN ?_ _ | refine blk_drew ?_ | refine blk_alloc ?_ _)); exact BK195.out) hb); have n1_ := As0 (below_step (by repeat (first | (with_reducible first | exact HB.out | apply below_alloc | apply bdN | apply bd1 | refine below_set ?_ GE195.out) | exact HB.out)) hb); have n2_ := As0 (hbox); have n3_ := As0 ((by rw [hg]; exact (below_size (by repeat (first | (with_reducible first | exact HB.out | apply below_alloc | apply bdN | apply bd1 | refine below_set ?_ GE195.out) | exact HB.out))) : w.heap.size ≤ gb196)); have n4_ := As0 ((by rw [hg]; exact (below_size (by repeat (first | (with_reducible first | exact HB.out | apply below_alloc | apply bdN | apply bd1 | refine below_set ?_ GE195.out) | exact HB.out))) : w.heap.size ≤ gb196)); have n5_ := As0 ((by rw [hg]; exact Nat.ne_of_lt (blk_lt (g := gb195) (o := .cells #[.int .i64 a0_0, .int .i64 a0_1, .int .i64 a0_2, .int .i64 a0_3] 30 (0, 0)) (by (with_reducible repeat (first | refine blk_drewN ?_ _ | refine blk_drew ?_ | refine blk_alloc ?_ _)); exact BK195.out)) : gb195 ≠ gb196)); have n6_ := As0 ((by rw [hg]; exact Nat.ne_of_gt (blk_lt (g := gb195) (o := .cells #[.int .i64 a0_0, .int .i64 a0_1, .int .i64 a0_2, .int .i64 a0_3] 30 (0, 0)) (by (with_reducible repeat (first | refine blk_drewN ?_ _ | refine blk_drew ?_ | refine blk_alloc ?_ _)); exact BK195.out)) : gb196 ≠ gb195)); clear BK195; clear HB; have BK195 := n0_; have HB := n1_; have BK196 := n2_; have GW196 := n3_; have GE196 := n4_; have NB195_196 := n5_; have NB196_195 := n6_; clear n0_ n1_ n2_ n3_ n4_ n5_ n6_; clear hb hbox hg; have hnb5 := NB195_196.out; have hnc5 := NB196_195.out; have hcz6_0 : w4.cell? ⟨gb195, 0, none⟩ = some (.int .i64 a0_0) := (blk_cell BK195.out 0).trans rfl; have hcz6_1 : w4.cell? ⟨gb195, 1, none⟩ = some (.int .i64 a0_1) := (blk_cell BK195.out 1).trans rfl; have hcz6_2 : w4.cell? ⟨gb195, 2, none⟩ = some (.int .i64 a0_2) := (blk_cell BK195.out 2).trans rfl; have hcz6_3 : w4.cell? ⟨gb195, 3, none⟩ = some (.int .i64 a0_3) := (blk_cell BK195.out 3).trans rfl; have hfz6_0 := blk_frozen BK195.out 0; have hfz6_1 := blk_frozen BK195.out 1; have hfz6_2 := blk_frozen BK195.out 2; have hfz6_3 := blk_frozen BK195.out 3; have hcz7_0 : w4.cell? ⟨gb196, 0, none⟩ = some (.int .i64 a1_0) := (blk_cell BK196.out 0).trans rfl; have hcz7_1 : w4.cell? ⟨gb196, 1, none⟩ = some (.int .i64 a1_1) := (blk_cell BK196.out 1).trans rfl; have hcz7_2 : w4.cell? ⟨gb196, 2, none⟩ = some (.int .i64 a1_2) := (blk_cell BK196.out 2).trans rfl; have hcz7_3 : w4.cell? ⟨gb196, 3, none⟩ = some (.int .i64 a1_3) := (blk_cell BK196.out 3).trans rfl; have hfz7_0 := blk_frozen BK196.out 0; have hfz7_1 := blk_frozen BK196.out 1; have hfz7_2 := blk_frozen BK196.out 2; have hfz7_3 := blk_frozen BK196.out 3))
 go_ret
 exact ⟨by first | rfl | (simp [errW_none, errW_some] <;> rfl) | (simp [*, errW_none, errW_some] <;> rfl), by repeat (first | (with_reducible first | exact HB.out | apply below_alloc | apply bdN | apply bd1 | refine below_set ?_ GE195.out | refine below_set ?_ GE196.out) | exact HB.out)⟩

end Go.Proofs.Ytchlilkhgagdeaa.X
