/- TB -/
import Derived.Test.YtchpkjgibloleaaGreatTA
import Derived.Shelf.Abstract
set_option linter.unusedVariables false
set_option linter.unusedSimpArgs false
namespace Go.Proofs.YtchpkjgibloleaaGreat.Z
set_option maxRecDepth 100000
set_option maxHeartbeats 8000000
open Go.RowKit Go.Proofs.YtchpkjgibloleaaGreatW.PrintWords Go.Proofs.YtchpkjgibloleaaGreatW.PrintLast Go.Proofs.YtchpkjgibloleaaGreatW.PrintMore
attribute [local go_sem] Qbt Qb0
mutual
def Qa1.j0 : Nat → Bool → Int → Int → List (S39) → Option (Int)
 | 0, _, _, _, _ => none
 | k + 1, x6, hG, fC, eD => if x6 = true then (some 9) else (if fC > 1048576 then (some 6) else (if (eD.length : Int) = 0 then (some 14) else (if (eD.length : Int) > 1048576 then (Qa1.j1 k true hG fC eD) else ((source_Code.f k hG fC eD).bind fun t162 => (Qa1.j1 k (decide (t162 > 1048576)) hG fC eD)))))
def Qa1.j1 : Nat → Bool → Int → Int → List (S39) → Option (Int)
 | 0, _, _, _, _ => none
 | k + 1, x26, hG, fC, eD => if x26 = true then (some 6) else (Qa1.l0 k eD (eD.length : Int) 0 hG fC eD)
def Qa1.l0 : Nat → List (S39) → Int → Int → Int → Int → List (S39) → Option (Int)
 | 0, _, _, _, _, _, _ => none
 | k + 1, x37, x38, x39, hG, fC, eD => if x39 < x38 then (if 0 ≤ x39 then (if x39 < (x37.length : Int) then ((source_block.f k ((Qag x37 x39).f0) ((Qag x37 x39).f1.f0) ((Qag x37 x39).f1.f1) ((Qag x37 x39).f1.f2) ((Qag x37 x39).f1.f3) fC (eD.length : Int)).bind fun t165 => (if t165 = 0 then (Qa1.l0 k x37 x38 (wrap64 (x39 + 1)) hG fC eD) else (some t165))) else (none)) else (none)) else (some 0)
end
def Qa1.f (k : Nat) (a0_0 a0_1 : Int) (l0_2 : List (S39)) : Option (Int) := if a0_0 < 0 then (Qa1.j0 k true a0_0 a0_1 l0_2) else (Qa1.j0 k (decide (a0_0 > a0_1)) a0_0 a0_1 l0_2)
theorem Qa1.calls (k : Nat) (a0_0 a0_1 : Int) (A0_2 : Option Addr) (c0_2 : Nat) (l0_2 : List (S39)) (r : Int) (w : World) (hr0_2 : Kd.C k39 w A0_2 l0_2.length l0_2) (hc0_2 : l0_2.length ≤ c0_2) (h : Qa1.f k a0_0 a0_1 l0_2 = some r) :
 Calls Tryz.prog 59 #[.agg #[.int .i64 a0_0, .int .i64 a0_1, .slice A0_2 l0_2.length c0_2]] w fun e w' => e = .returned (.int .i64 r) ∧ Below w.heap.size w w' := by
 have hu24 := Tryz.underlying24
 have hu39 := Tryz.underlying39
 have R0_2 := As0 hr0_2
 have C0_2 := As0 hc0_2
 clear hr0_2 hc0_2
 have HB := As0 (Below.refl w.heap.size w)
 have H : (if a0_0 < 0 then (Qa1.j0 k true a0_0 a0_1 l0_2) else (Qa1.j0 k (decide (a0_0 > a0_1)) a0_0 a0_1 l0_2)) = some r := h
 clear h
 have C2 := As0 H
 clear H
 go_enter Tryz.func59, Tryz.ntmps59
 go_upto_region 1 with (first | ((with_reducible refine gD 1 ?_); refine bY HB.out ?_; intro gb161 w3 hg hb dX GW161 HB; clear hb hg))
 (try simp only [Act.put, sL1, sL2, sL3])
 go_cut [6] (fun v6 wc => ∃ (kq : Nat) (eF : Bool), v6 = .bool eF ∧ Qbf (Qa1.j0 kq eF a0_0 a0_1 l0_2 = some r) ∧ Qbf (kq ≤ k) ∧ Qbf (wc.heap[gb161]? = some (.cells #[.int .i64 a0_0, .int .i64 a0_1, (.slice A0_2 l0_2.length c0_2)] 24 (0, 0))) ∧ Qbf (Below w.heap.size w wc))
 case first =>
  have H := C2.out
  clear C2
  by_cases c4 : a0_0 < 0
  rotate_left
  ·rw [if_neg c4] at H
   have c4b0 := decide_eq_false c4
   clear c4
   (first | rw [c4b0] | (simp only [Qbo, Qbp]; rw [c4b0]) | skip)
   have H' := As0 H
   clear H
   have q6_ := cN3 dX.out
   go_wp2
   go_meet
   case rel => exact ⟨_, (decide (a0_0 > a0_1)), eR, H', ⟨by first | omega | exact Nat.le_refl _⟩, ⟨bU dX.out⟩, ⟨BU HB.out⟩⟩
  rw [if_pos c4] at H
  have c4b0 := decide_eq_true c4
  clear c4
  (first | rw [c4b0] | (simp only [Qbo, Qbp]; rw [c4b0]) | skip)
  have H' := As0 H
  clear H
  have q5_ := cN3 dX.out
  go_wp2
  go_meet
  case rel => exact ⟨_, (true), eR, H', ⟨by first | omega | exact Nat.le_refl _⟩, ⟨bU dX.out⟩, ⟨BU HB.out⟩⟩
 case rest =>
  clear C2
  obtain ⟨kq, eF, rfl, HA, HJ1, dX, HB⟩ := hcut
  cases kq with
  | zero => exact absurd HA.out (by simp [Qa1.j0])
  | succ kj1 =>
   have H := HA.out
   clear HA
   simp only [Qa1.j0] at H
   by_cases c7 : eF = true
   ·subst c7
    rw [if_pos rfl] at H
    obtain rfl := Option.some.inj H
    go_wp2
    go_ret
    exact ⟨oR, BU HB.out⟩
   replace c7 := Bool.eq_false_iff.mpr c7
   subst c7
   rw [if_neg bF] at H
   by_cases c8 : a0_1 > 1048576
   ·rw [if_pos c8] at H
    have c8b0 := decide_eq_true c8
    clear c8
    obtain rfl := Option.some.inj H
    have q9_ := cN3 dX.out
    go_wp2
    go_ret
    exact ⟨oR, BU HB.out⟩
   rw [if_neg c8] at H
   have c8b0 := decide_eq_false c8
   clear c8
   by_cases c10 : (l0_2.length : Int) = 0
   ·rw [if_pos c10] at H
    have c10b0 : ((l0_2.length : Int) == 0) = true := beq_iff_eq.mpr c10
    have c10b1 : ((l0_2.length : Int) != 0) = false := bne_eq_false_iff_eq.mpr c10
    clear c10
    obtain rfl := Option.some.inj H
    have q11_ := cN3 dX.out
    go_wp2
    go_ret
    exact ⟨oR, BU HB.out⟩
   rw [if_neg c10] at H
   have c10b0 : ((l0_2.length : Int) == 0) = false := beq_eq_false_iff_ne.mpr c10
   have c10b1 : ((l0_2.length : Int) != 0) = true := bne_iff_ne.mpr c10
   have c10b2 : ¬ (l0_2 = []) := fun h_ => c10 (by rw [h_]; rfl)
   have C12 := As0 H
   clear H
   have q13_ := cN3 dX.out
   go_upto_region 7 with (fail)
   go_cut [26] (fun v26 wc => ∃ (kq : Nat) (x26_11 : Bool), v26 = .bool x26_11 ∧ Qbf (Qa1.j1 kq x26_11 a0_0 a0_1 l0_2 = some r) ∧ Qbf (kq ≤ kj1) ∧ Qbf (wc.heap[gb161]? = some (.cells #[.int .i64 a0_0, .int .i64 a0_1, (.slice A0_2 l0_2.length c0_2)] 24 (0, 0))) ∧ Qbf (Below w.heap.size w wc))
   case first =>
    have H := C12.out
    clear C12
    by_cases c14 : (l0_2.length : Int) > 1048576
    ·rw [if_pos c14] at H
     have c14b0 := decide_eq_true c14
     have c14b1 : decide (1048576 < l0_2.length) = true := decide_eq_true (by omega)
     clear c14
     (first | rw [c14b0] | (simp only [Qbo, Qbp]; rw [c14b0]) | skip)
     have H' := As0 H
     clear H
     have q15_ := cN3 dX.out
     go_wp2
     go_meet
     case rel => exact ⟨_, (true), eR, H', ⟨by have := HJ1.out; first | omega | exact Nat.le_refl _⟩, ⟨bU dX.out⟩, ⟨BU HB.out⟩⟩
    rw [if_neg c14] at H
    have c14b0 := decide_eq_false c14
    have c14b1 : decide (1048576 < l0_2.length) = false := decide_eq_false (by omega)
    clear c14
    (first | rw [c14b0] | (simp only [Qbo, Qbp]; rw [c14b0]) | skip)
    replace H := Option.bind_eq_some_iff.mp H
    obtain ⟨t162, A160, H⟩ := H
    have A16 := As0 A160
    clear A160
    have H' := As0 H
    clear H
    have q17_ := cN3 dX.out
    go_wp2_with (first | (go_at_call 103; (with_reducible refine (source_Code.calls kj1 a0_0 a0_1 _ _ l0_2 t162 _ ?side1 ?side2 A16.out).mono ?_); (case side1 => exact CU (Kd.C_below R0_2.out HB.out)); (case side2 => exact C0_2.out); rintro e w18 ⟨rfl, hb⟩; replace dX := kB dX hb; replace HB := sB HB hb; (try clear hb)))
    go_meet
    case rel => exact ⟨_, (decide (t162 > 1048576)), eR, H', ⟨by have := HJ1.out; first | omega | exact Nat.le_refl _⟩, ⟨bU dX.out⟩, ⟨BU HB.out⟩⟩
   case rest =>
    clear C12
    obtain ⟨kq, x26_11, rfl, HA, HJ11, dX, HB⟩ := hcut
    cases kq with
    | zero => exact absurd HA.out (by simp [Qa1.j1])
    | succ kj11 =>
     have H := HA.out
     clear HA
     simp only [Qa1.j1] at H
     by_cases c19 : x26_11 = true
     ·subst c19
      rw [if_pos rfl] at H
      obtain rfl := Option.some.inj H
      go_wp2
      go_ret
      exact ⟨oR, BU HB.out⟩
     replace c19 := Bool.eq_false_iff.mpr c19
     subst c19
     rw [if_neg bF] at H
     have H' := As0 H
     clear H
     have q20_ := cN3 dX.out
     go_wp2
     go_loopg [39] kj11 (fun kq v39 w' => ∃ (cC : Int), v39 = .int .i64 cC ∧ Qbf (Qa1.l0 kq l0_2 (l0_2.length : Int) cC a0_0 a0_1 l0_2 = some r) ∧ Qbf (kq ≤ kj11) ∧ Qbf (w'.heap[gb161]? = some (.cells #[.int .i64 a0_0, .int .i64 a0_1, (.slice A0_2 l0_2.length c0_2)] 24 (0, 0))) ∧ Qbf (Below w.heap.size w w'))
     case atStart => exact ⟨(0), eR, H', ⟨Nat.le_refl _⟩, ⟨bU dX.out⟩, ⟨BU HB.out⟩⟩
     case round =>
      clear H'
      obtain ⟨cC, rfl, HA, HK3, dX, HB⟩ := hrel
      cases gk with
      | zero => exact absurd HA.out (by simp [Qa1.l0])
      | succ k3 =>
       have H := HA.out
       clear HA
       simp only [Qa1.l0] at H
       by_cases c21 : cC < (l0_2.length : Int)
       rotate_left
       ·rw [if_neg c21] at H
        have c21b0 := decide_eq_false c21
        clear c21
        obtain rfl := Option.some.inj H
        go_wp2
        go_ret
        exact ⟨oR, BU HB.out⟩
       rw [if_pos c21] at H
       have c21b0 := decide_eq_true c21
       clear c21
       by_cases c22 : 0 ≤ cC
       rotate_left
       ·rw [if_neg c22] at H
        exact absurd H (by simp)
       rw [if_pos c22] at H
       have c22b0 := decide_eq_true c22
       clear c22
       by_cases c23 : cC < (l0_2.length : Int)
       rotate_left
       ·rw [if_neg c23] at H
        exact absurd H (by simp)
       rw [if_pos c23] at H
       have c23b0 := decide_eq_true c23
       clear c23
       replace H := Option.bind_eq_some_iff.mp H
       obtain ⟨t165, A240, H⟩ := H
       have A24 := As0 A240
       clear A240
       by_cases c25 : t165 = 0
       rotate_left
       ·rw [if_neg c25] at H
        have c25b0 : (t165 == 0) = false := beq_eq_false_iff_ne.mpr c25
        have c25b1 : (t165 != 0) = true := bne_iff_ne.mpr c25
        obtain rfl := Option.some.inj H
        have p163 : 0 ≤ (cC : Int) := qR
        have q163 : cC < (l0_2.length : Int) := qR
        obtain ⟨ad163, A163_0, c163_0, e163, lP, lO, lN, lM, lL, hl163_0, hi163_0⟩ := Qed R0_2.out cC p163 q163
        cases e163
        replace lP := cl HB lP
        replace lO := cl HB lO
        replace lN := cl HB lN
        replace lM := cl HB lM
        replace lL := cl HB lL
        have R163_0 := As0 hi163_0
        have C163_0 := As0 hl163_0
        clear hi163_0 hl163_0
        replace p163 := eq_true p163
        replace q163 := eq_true q163
        go_wp2_with (first | ((with_reducible refine gD 4 ?_); refine bY HB.out ?_; intro gb164 w31 hg hb K164 GW164 HB; have N161_164 := pL hg dX; have N164_161 := pR hg dX; replace dX := kB dX hb; clear hb hg; have q33_ := cN5 K164.out; have q34_ := cN3 dX.out) | ((with_reducible refine Qbk (f := 104) rfl ?_); refine gL (some 49) Tryz.func104 #[.agg #[.slice A163_0 ((Qag l0_2 cC).f0).length c163_0, .int .i64 ((Qag l0_2 cC).f1.f0), .int .i64 ((Qag l0_2 cC).f1.f1), .int .i64 ((Qag l0_2 cC).f1.f2), .int .i64 ((Qag l0_2 cC).f1.f3)], .int .i64 a0_1, .int .i64 (l0_2.length : Int)] ?_; (with_reducible refine (source_block.calls k3 _ _ ((Qag l0_2 cC).f0) ((Qag l0_2 cC).f1.f0) ((Qag l0_2 cC).f1.f1) ((Qag l0_2 cC).f1.f2) ((Qag l0_2 cC).f1.f3) a0_1 (l0_2.length : Int) t165 _ ?side1 ?side2 A24.out).mono ?_); (case side1 => exact Kd.C_below R163_0.out (BU HB.out)); (case side2 => exact C163_0.out); rintro e w35 ⟨rfl, hb⟩; refine ⟨_, rfl, ?_⟩; replace dX := kF dX hb; replace K164 := kP (.cells #[.slice A163_0 ((Qag l0_2 cC).f0).length c163_0, .int .i64 ((Qag l0_2 cC).f1.f0), .int .i64 ((Qag l0_2 cC).f1.f1), .int .i64 ((Qag l0_2 cC).f1.f2), .int .i64 ((Qag l0_2 cC).f1.f3)] 39 (0, 0)) K164 hb; replace HB := sB HB hb; (try clear hb)))
        go_ret
        exact ⟨oR, BU HB.out⟩
       rw [if_pos c25] at H
       have c25b0 : (t165 == 0) = true := beq_iff_eq.mpr c25
       have c25b1 : (t165 != 0) = false := bne_eq_false_iff_eq.mpr c25
       clear c25
       have H' := As0 H
       clear H
       have p163 : 0 ≤ (cC : Int) := qR
       have q163 : cC < (l0_2.length : Int) := qR
       obtain ⟨ad163, A163_0, c163_0, e163, lP, lO, lN, lM, lL, hl163_0, hi163_0⟩ := Qed R0_2.out cC p163 q163
       cases e163
       replace lP := cl HB lP
       replace lO := cl HB lO
       replace lN := cl HB lN
       replace lM := cl HB lM
       replace lL := cl HB lL
       have R163_0 := As0 hi163_0
       have C163_0 := As0 hl163_0
       clear hi163_0 hl163_0
       replace p163 := eq_true p163
       replace q163 := eq_true q163
       go_wp2_with (first | ((with_reducible refine gD 4 ?_); refine bY HB.out ?_; intro gb164 w26 hg hb K164 GW164 HB; have N161_164 := pL hg dX; have N164_161 := pR hg dX; replace dX := kB dX hb; clear hb hg; have q28_ := cN5 K164.out; have q29_ := cN3 dX.out) | ((with_reducible refine Qbk (f := 104) rfl ?_); refine gL (some 49) Tryz.func104 #[.agg #[.slice A163_0 ((Qag l0_2 cC).f0).length c163_0, .int .i64 ((Qag l0_2 cC).f1.f0), .int .i64 ((Qag l0_2 cC).f1.f1), .int .i64 ((Qag l0_2 cC).f1.f2), .int .i64 ((Qag l0_2 cC).f1.f3)], .int .i64 a0_1, .int .i64 (l0_2.length : Int)] ?_; (with_reducible refine (source_block.calls k3 _ _ ((Qag l0_2 cC).f0) ((Qag l0_2 cC).f1.f0) ((Qag l0_2 cC).f1.f1) ((Qag l0_2 cC).f1.f2) ((Qag l0_2 cC).f1.f3) a0_1 (l0_2.length : Int) t165 _ ?side1 ?side2 A24.out).mono ?_); (case side1 => exact Kd.C_below R163_0.out (BU HB.out)); (case side2 => exact C163_0.out); rintro e w30 ⟨rfl, hb⟩; refine ⟨_, rfl, ?_⟩; replace dX := kF dX hb; replace K164 := kP (.cells #[.slice A163_0 ((Qag l0_2 cC).f0).length c163_0, .int .i64 ((Qag l0_2 cC).f1.f0), .int .i64 ((Qag l0_2 cC).f1.f1), .int .i64 ((Qag l0_2 cC).f1.f2), .int .i64 ((Qag l0_2 cC).f1.f3)] 39 (0, 0)) K164 hb; replace HB := sB HB hb; (try clear hb)))
       go_roundg k3
       case measure => have := HJ1.out; have := HJ11.out; have := HK3.out; omega
       case rel => exact ⟨(wrap64 (cC + 1)), eR, H', ⟨by have := HJ1.out; have := HJ11.out; have := HK3.out; omega⟩, ⟨bU dX.out⟩, ⟨BU HB.out⟩⟩
def machine_Code.l0 : Nat → Int → List (S57) → Int → Int → Option (Int)
 | 0, _, _, _, _ => none
 | k + 1, x3, x7, x8, x9 => if x9 < x8 then (if 0 ≤ x9 then (if x9 < (x7.length : Int) then (machine_Code.l0 k (wrap64 (x3 + (((Qaq x7 x9).f0).length : Int))) x7 x8 (wrap64 (x9 + 1))) else (none)) else (none)) else (some x3)
def machine_Code.f (k : Nat) (a0_0 a0_1 a0_2 : Int) (l0_3 : List (S57)) : Option (Int) := machine_Code.l0 k 0 l0_3 (l0_3.length : Int) 0
theorem machine_Code.calls (k : Nat) (a0_0 a0_1 a0_2 : Int) (A0_3 : Option Addr) (c0_3 : Nat) (l0_3 : List (S57)) (r : Int) (w : World) (hr0_3 : Kd.C k57 w A0_3 l0_3.length l0_3) (hc0_3 : l0_3.length ≤ c0_3) (h : machine_Code.f k a0_0 a0_1 a0_2 l0_3 = some r) :
 Calls Tryz.prog 105 #[.agg #[.int .i64 a0_0, .int .i64 a0_1, .int .i64 a0_2, .slice A0_3 l0_3.length c0_3]] w fun e w' => e = .returned (.int .i64 r) ∧ Below w.heap.size w w' := by
 have hu27 := Tryz.underlying27
 have hu57 := Tryz.underlying57
 have R0_3 := As0 hr0_3
 have C0_3 := As0 hc0_3
 clear hr0_3 hc0_3
 have HB := As0 (Below.refl w.heap.size w)
 have H : (machine_Code.l0 k 0 l0_3 (l0_3.length : Int) 0) = some r := h
 clear h
 have H' := As0 H
 clear H
 go_enter Tryz.func105, Tryz.ntmps105
 go_wp2_with (first | ((with_reducible refine gD 1 ?_); refine bY HB.out ?_; intro gb166 w2 hg hb K166 GW166 HB; clear hb hg; have q3_ := cN4 K166.out))
 go_loopg [3, 9] k (fun kq v3 v9 w' => ∃ (cI : Int) (cL : Int), v3 = .int .i64 cI ∧ v9 = .int .i64 cL ∧ Qbf (machine_Code.l0 kq cI l0_3 (l0_3.length : Int) cL = some r) ∧ Qbf (kq ≤ k) ∧ Qbf (w'.heap[gb166]? = some (.cells #[.int .i64 a0_0, .int .i64 a0_1, .int .i64 a0_2, (.slice A0_3 l0_3.length c0_3)] 27 (0, 0))) ∧ Qbf (Below w.heap.size w w'))
 case atStart => exact ⟨(0), (0), eR, eR, H', ⟨Nat.le_refl _⟩, ⟨bU K166.out⟩, ⟨BU HB.out⟩⟩
 case round =>
  clear H'
  obtain ⟨cI, cL, rfl, rfl, HA, HK1, K166, HB⟩ := hrel
  cases gk with
  | zero => exact absurd HA.out (by simp [machine_Code.l0])
  | succ k1 =>
   have H := HA.out
   clear HA
   simp only [machine_Code.l0] at H
   by_cases c4 : cL < (l0_3.length : Int)
   rotate_left
   ·rw [if_neg c4] at H
    have c4b0 := decide_eq_false c4
    clear c4
    obtain rfl := Option.some.inj H
    go_wp2
    go_ret
    exact ⟨oR, BU HB.out⟩
   rw [if_pos c4] at H
   have c4b0 := decide_eq_true c4
   clear c4
   by_cases c5 : 0 ≤ cL
   rotate_left
   ·rw [if_neg c5] at H
    exact absurd H (by simp)
   rw [if_pos c5] at H
   have c5b0 := decide_eq_true c5
   clear c5
   by_cases c6 : cL < (l0_3.length : Int)
   rotate_left
   ·rw [if_neg c6] at H
    exact absurd H (by simp)
   rw [if_pos c6] at H
   have c6b0 := decide_eq_true c6
   clear c6
   have H' := As0 H
   clear H
   have p167 : 0 ≤ (cL : Int) := qR
   have q167 : cL < (l0_3.length : Int) := qR
   obtain ⟨ad167, A167_0, c167_0, e167, hx167_0, hx167_1, hx167_2, hx167_3, hx167_4, hl167_0, hi167_0⟩ := Qep R0_3.out cL p167 q167
   cases e167
   replace hx167_0 := cl HB hx167_0
   replace hx167_1 := cl HB hx167_1
   replace hx167_2 := cl HB hx167_2
   replace hx167_3 := cl HB hx167_3
   replace hx167_4 := cl HB hx167_4
   have R167_0 := As0 hi167_0
   have C167_0 := As0 hl167_0
   clear hi167_0 hl167_0
   replace p167 := eq_true p167
   replace q167 := eq_true q167
   go_wp2_with (first | ((with_reducible refine gD 5 ?_); refine bY HB.out ?_; intro gb168 w7 hg hb K168 GW168 HB; have N166_168 := pL hg K166; have N168_166 := pR hg K166; replace K166 := kB K166 hb; clear hb hg; have q9_ := cN5 K168.out))
   go_roundg k1
   case measure => have := HK1.out; omega
   case rel => exact ⟨(wrap64 (cI + (((Qaq l0_3 cL).f0).length : Int))), (wrap64 (cL + 1)), eR, eR, H', ⟨by have := HK1.out; omega⟩, ⟨kV K166⟩, ⟨BU HB.out⟩⟩
mutual
def Qa7.l0 : Nat → Int → List (S59) → Int → Int → Int → Int → Int → List (S57) → List (S59) → Int → Int → Int → Int → Option (Int)
 | 0, _, _, _, _, _, _, _, _, _, _, _, _, _ => none
 | k + 1, x5, iY, fL, jU, x171000, iV, jS, jR, x172000, jQ, jP, jO, jN => if jU < fL then (if 0 ≤ jU then (if jU < (iY.length : Int) then ((machine_Instr.f k ((Qaj iY jU).f0) ((Qaj iY jU).f1) ((Qaj iY jU).f2) ((Qaj iY jU).f3) ((Qaj iY jU).f4) ((Qaj iY jU).f5) ((Qaj iY jU).f6) iV jS).bind fun t175 => (if t175 = 0 then (if ((Qaj iY jU).f0) = 18 then (Qa7.j1 k (wrap64 (x5 + 1)) iY fL jU x171000 iV jS jR x172000 jQ jP jO jN) else (Qa7.j1 k 0 iY fL jU x171000 iV jS jR x172000 jQ jP jO jN)) else (some t175))) else (none)) else (none)) else ((source_Term.f k jQ jP jO jN iV (jR.length : Int)).bind fun t172 => (some t172))
def Qa7.j1 : Nat → Int → List (S59) → Int → Int → Int → Int → Int → List (S57) → List (S59) → Int → Int → Int → Int → Option (Int)
 | 0, _, _, _, _, _, _, _, _, _, _, _, _, _ => none
 | k + 1, x5, iY, fL, jU, x171000, iV, jS, jR, x172000, jQ, jP, jO, jN => if x5 > 64 then (some 15) else (Qa7.l0 k x5 iY fL (wrap64 (jU + 1)) x171000 iV jS jR x172000 jQ jP jO jN)
end
def Qa7.f (k : Nat) (a0_0 a0_1 a0_2 : Int) (l0_3 : List (S57)) (l1_0 : List (S59)) (a1_1 a1_2 a1_3 a1_4 : Int) : Option (Int) := Qa7.l0 k 0 l1_0 (l1_0.length : Int) 0 a0_0 a0_1 a0_2 l0_3 l1_0 a1_1 a1_2 a1_3 a1_4
theorem Qa7.calls (k : Nat) (a0_0 a0_1 a0_2 : Int) (A0_3 : Option Addr) (c0_3 : Nat) (l0_3 : List (S57)) (A1_0 : Option Addr) (c1_0 : Nat) (l1_0 : List (S59)) (a1_1 a1_2 a1_3 a1_4 r : Int) (w : World) (hr0_3 : Kd.C k57 w A0_3 l0_3.length l0_3) (hc0_3 : l0_3.length ≤ c0_3) (hr1_0 : Kd.C k59 w A1_0 l1_0.length l1_0) (hc1_0 : l1_0.length ≤ c1_0) (h : Qa7.f k a0_0 a0_1 a0_2 l0_3 l1_0 a1_1 a1_2 a1_3 a1_4 = some r) :
 Calls Tryz.prog 106 #[.agg #[.int .i64 a0_0, .int .i64 a0_1, .int .i64 a0_2, .slice A0_3 l0_3.length c0_3], .agg #[.slice A1_0 l1_0.length c1_0, .int .i64 a1_1, .int .i64 a1_2, .int .i64 a1_3, .int .i64 a1_4]] w fun e w' => e = .returned (.int .i64 r) ∧ Below w.heap.size w w' := by
 have hu27 := Tryz.underlying27
 have hu57 := Tryz.underlying57
 have hu59 := Tryz.underlying59
 have hu37 := Tryz.underlying37
 have R0_3 := As0 hr0_3
 have C0_3 := As0 hc0_3
 clear hr0_3 hc0_3
 have R1_0 := As0 hr1_0
 have C1_0 := As0 hc1_0
 clear hr1_0 hc1_0
 have HB := As0 (Below.refl w.heap.size w)
 have H : (Qa7.l0 k 0 l1_0 (l1_0.length : Int) 0 a0_0 a0_1 a0_2 l0_3 l1_0 a1_1 a1_2 a1_3 a1_4) = some r := h
 clear h
 have H' := As0 H
 clear H
 go_enter Tryz.func106, Tryz.ntmps106
 go_wp2_with (first | ((with_reducible refine gD 2 ?_); refine bY HB.out ?_; intro gb170 w3 hg hb eV GW170 HB; clear hb hg) | ((with_reducible refine gD 3 ?_); refine bY HB.out ?_; intro gb171 w4 hg hb fN GW171 HB; have N170_171 := pL hg eV; have N171_170 := pR hg eV; replace eV := kB eV hb; clear hb hg; have q6_ := cN5 fN.out))
 go_loopg [5, 12] k (fun kq v5 v12 w' => ∃ (dB : Int) (aN : Int), v5 = .int .i64 dB ∧ v12 = .int .i64 aN ∧ Qbf (Qa7.l0 kq dB l1_0 (l1_0.length : Int) aN a0_0 a0_1 a0_2 l0_3 l1_0 a1_1 a1_2 a1_3 a1_4 = some r) ∧ Qbf (kq ≤ k) ∧ Qbf (w'.heap[gb170]? = some (.cells #[.int .i64 a0_0, .int .i64 a0_1, .int .i64 a0_2, (.slice A0_3 l0_3.length c0_3)] 27 (0, 0))) ∧ Qbf (w'.heap[gb171]? = some (.cells #[(.slice A1_0 l1_0.length c1_0), .int .i64 a1_1, .int .i64 a1_2, .int .i64 a1_3, .int .i64 a1_4] 57 (0, 0))) ∧ Qbf (Below w.heap.size w w'))
 case atStart => exact ⟨(0), (0), eR, eR, H', ⟨Nat.le_refl _⟩, ⟨bU eV.out⟩, ⟨bU fN.out⟩, ⟨BU HB.out⟩⟩
 case round =>
  clear H'
  obtain ⟨dB, aN, rfl, rfl, HA, HK1, eV, fN, HB⟩ := hrel
  cases gk with
  | zero => exact absurd HA.out (by simp [Qa7.l0])
  | succ k1 =>
   have H := HA.out
   clear HA
   simp only [Qa7.l0] at H
   by_cases c7 : aN < (l1_0.length : Int)
   rotate_left
   ·rw [if_neg c7] at H
    have c7b0 := decide_eq_false c7
    clear c7
    replace H := Option.bind_eq_some_iff.mp H
    obtain ⟨t172, A300, H⟩ := H
    have A30 := As0 A300
    clear A300
    obtain rfl := Option.some.inj H
    have q32_ := cN5 fN.out
    have q33_ := cN4 eV.out
    go_wp2_with (first | ((with_reducible refine Qbk (f := 149) rfl ?_); refine gL (some 40) Tryz.func149 #[.agg #[.int .i64 a1_1, .int .i64 a1_2, .int .i64 a1_3, .int .i64 a1_4], .int .i64 a0_1, .int .i64 (l0_3.length : Int)] ?_; (with_reducible refine (source_Term.calls k1 a1_1 a1_2 a1_3 a1_4 a0_1 (l0_3.length : Int) t172 _ A30.out).mono ?_); rintro e w34 ⟨rfl, hb⟩; refine ⟨_, rfl, ?_⟩; replace eV := kB eV hb; replace fN := kB fN hb; replace HB := sB HB hb; (try clear hb)))
    go_ret
    exact ⟨oR, BU HB.out⟩
   rw [if_pos c7] at H
   have c7b0 := decide_eq_true c7
   clear c7
   by_cases c8 : 0 ≤ aN
   rotate_left
   ·rw [if_neg c8] at H
    exact absurd H (by simp)
   rw [if_pos c8] at H
   have c8b0 := decide_eq_true c8
   clear c8
   by_cases c9 : aN < (l1_0.length : Int)
   rotate_left
   ·rw [if_neg c9] at H
    exact absurd H (by simp)
   rw [if_pos c9] at H
   have c9b0 := decide_eq_true c9
   clear c9
   replace H := Option.bind_eq_some_iff.mp H
   obtain ⟨t175, A100, H⟩ := H
   have A10 := As0 A100
   clear A100
   by_cases c11 : t175 = 0
   rotate_left
   ·rw [if_neg c11] at H
    have c11b0 : (t175 == 0) = false := beq_eq_false_iff_ne.mpr c11
    have c11b1 : (t175 != 0) = true := bne_iff_ne.mpr c11
    obtain rfl := Option.some.inj H
    have p173 : 0 ≤ (aN : Int) := qR
    have q173 : aN < (l1_0.length : Int) := qR
    obtain ⟨ad173, e173, lJ, lI, lH, lG, lF, lE, lD⟩ := at_T59 R1_0.out aN p173 q173
    cases e173
    replace lJ := cl HB lJ
    replace lI := cl HB lI
    replace lH := cl HB lH
    replace lG := cl HB lG
    replace lF := cl HB lF
    replace lE := cl HB lE
    replace lD := cl HB lD
    replace p173 := eq_true p173
    replace q173 := eq_true q173
    go_wp2_with (first | ((with_reducible refine gD 7 ?_); refine bY HB.out ?_; intro gb174 w23 hg hb K174 GW174 HB; have N170_174 := pL hg eV; have N174_170 := pR hg eV; replace eV := kB eV hb; have N171_174 := pL hg fN; have N174_171 := pR hg fN; replace fN := kB fN hb; clear hb hg; have q26_ := cN7 K174.out; have q28_ := cN4 eV.out) | ((with_reducible refine Qbk (f := 150) rfl ?_); refine gL (some 21) Tryz.func150 #[.agg #[.int .i64 ((Qaj l1_0 aN).f0), .int .i64 ((Qaj l1_0 aN).f1), .int .i64 ((Qaj l1_0 aN).f2), .int .i64 ((Qaj l1_0 aN).f3), .int .i64 ((Qaj l1_0 aN).f4), .int .i64 ((Qaj l1_0 aN).f5), .int .i64 ((Qaj l1_0 aN).f6)], .int .i64 a0_1, .int .i64 a0_2] ?_; (with_reducible refine (machine_Instr.calls k1 ((Qaj l1_0 aN).f0) ((Qaj l1_0 aN).f1) ((Qaj l1_0 aN).f2) ((Qaj l1_0 aN).f3) ((Qaj l1_0 aN).f4) ((Qaj l1_0 aN).f5) ((Qaj l1_0 aN).f6) a0_1 a0_2 t175 _ A10.out).mono ?_); rintro e w29 ⟨rfl, hb⟩; refine ⟨_, rfl, ?_⟩; replace eV := kF eV hb; replace fN := kF fN hb; replace K174 := kP (.cells #[.int .i64 ((Qaj l1_0 aN).f0), .int .i64 ((Qaj l1_0 aN).f1), .int .i64 ((Qaj l1_0 aN).f2), .int .i64 ((Qaj l1_0 aN).f3), .int .i64 ((Qaj l1_0 aN).f4), .int .i64 ((Qaj l1_0 aN).f5), .int .i64 ((Qaj l1_0 aN).f6)] 59 (0, 0)) K174 hb; replace HB := sB HB hb; (try clear hb)))
    go_ret
    exact ⟨oR, BU HB.out⟩
   rw [if_pos c11] at H
   have c11b0 : (t175 == 0) = true := beq_iff_eq.mpr c11
   have c11b1 : (t175 != 0) = false := bne_eq_false_iff_eq.mpr c11
   clear c11
   have C12 := As0 H
   clear H
   have p173 : 0 ≤ (aN : Int) := qR
   have q173 : aN < (l1_0.length : Int) := qR
   obtain ⟨ad173, e173, lJ, lI, lH, lG, lF, lE, lD⟩ := at_T59 R1_0.out aN p173 q173
   cases e173
   replace lJ := cl HB lJ
   replace lI := cl HB lI
   replace lH := cl HB lH
   replace lG := cl HB lG
   replace lF := cl HB lF
   replace lE := cl HB lE
   replace lD := cl HB lD
   replace p173 := eq_true p173
   replace q173 := eq_true q173
   go_upto_if 29 with (first | ((with_reducible refine gD 7 ?_); refine bY HB.out ?_; intro gb174 w13 hg hb K174 GW174 HB; have N170_174 := pL hg eV; have N174_170 := pR hg eV; replace eV := kB eV hb; have N171_174 := pL hg fN; have N174_171 := pR hg fN; replace fN := kB fN hb; clear hb hg; have q16_ := cN7 K174.out; have q18_ := cN4 eV.out) | ((with_reducible refine Qbk (f := 150) rfl ?_); refine gL (some 21) Tryz.func150 #[.agg #[.int .i64 ((Qaj l1_0 aN).f0), .int .i64 ((Qaj l1_0 aN).f1), .int .i64 ((Qaj l1_0 aN).f2), .int .i64 ((Qaj l1_0 aN).f3), .int .i64 ((Qaj l1_0 aN).f4), .int .i64 ((Qaj l1_0 aN).f5), .int .i64 ((Qaj l1_0 aN).f6)], .int .i64 a0_1, .int .i64 a0_2] ?_; (with_reducible refine (machine_Instr.calls k1 ((Qaj l1_0 aN).f0) ((Qaj l1_0 aN).f1) ((Qaj l1_0 aN).f2) ((Qaj l1_0 aN).f3) ((Qaj l1_0 aN).f4) ((Qaj l1_0 aN).f5) ((Qaj l1_0 aN).f6) a0_1 a0_2 t175 _ A10.out).mono ?_); rintro e w19 ⟨rfl, hb⟩; refine ⟨_, rfl, ?_⟩; replace eV := kF eV hb; replace fN := kF fN hb; replace K174 := kP (.cells #[.int .i64 ((Qaj l1_0 aN).f0), .int .i64 ((Qaj l1_0 aN).f1), .int .i64 ((Qaj l1_0 aN).f2), .int .i64 ((Qaj l1_0 aN).f3), .int .i64 ((Qaj l1_0 aN).f4), .int .i64 ((Qaj l1_0 aN).f5), .int .i64 ((Qaj l1_0 aN).f6)] 59 (0, 0)) K174 hb; replace HB := sB HB hb; (try clear hb); have q20_ := cN7 K174.out))
   (try simp only [Act.put, sL1, sL2, sL3])
   go_cut [5] (fun v5 wc => ∃ (kq : Nat) (fX : Int), v5 = .int .i64 fX ∧ Qbf (Qa7.j1 kq fX l1_0 (l1_0.length : Int) aN a0_0 a0_1 a0_2 l0_3 l1_0 a1_1 a1_2 a1_3 a1_4 = some r) ∧ Qbf (kq ≤ k1) ∧ Qbf (wc.heap[gb170]? = some (.cells #[.int .i64 a0_0, .int .i64 a0_1, .int .i64 a0_2, (.slice A0_3 l0_3.length c0_3)] 27 (0, 0))) ∧ Qbf (wc.heap[gb171]? = some (.cells #[(.slice (some ad173) l1_0.length c1_0), .int .i64 a1_1, .int .i64 a1_2, .int .i64 a1_3, .int .i64 a1_4] 57 (0, 0))) ∧ Qbf (wc.heap[gb174]? = some (.cells #[.int .i64 ((Qaj l1_0 aN).f0), .int .i64 ((Qaj l1_0 aN).f1), .int .i64 ((Qaj l1_0 aN).f2), .int .i64 ((Qaj l1_0 aN).f3), .int .i64 ((Qaj l1_0 aN).f4), .int .i64 ((Qaj l1_0 aN).f5), .int .i64 ((Qaj l1_0 aN).f6)] 59 (0, 0))) ∧ Qbf (Below w.heap.size w wc))
   case first =>
    have H := C12.out
    clear C12
    by_cases c21 : ((Qaj l1_0 aN).f0) = 18
    rotate_left
    ·rw [if_neg c21] at H
     have c21b0 : (((Qaj l1_0 aN).f0) == 18) = false := beq_eq_false_iff_ne.mpr c21
     have c21b1 : (((Qaj l1_0 aN).f0) != 18) = true := bne_iff_ne.mpr c21
     (first | rw [c21b0] | (simp only [Qbo, Qbp]; rw [c21b0]) | skip)
     have H' := As0 H
     clear H
     go_wp2
     go_meet
     case rel => exact ⟨_, (0), eR, H', ⟨by have := HK1.out; first | omega | exact Nat.le_refl _⟩, ⟨bU eV.out⟩, ⟨bU fN.out⟩, ⟨bU K174.out⟩, ⟨BU HB.out⟩⟩
    rw [if_pos c21] at H
    have c21b0 : (((Qaj l1_0 aN).f0) == 18) = true := beq_iff_eq.mpr c21
    have c21b1 : (((Qaj l1_0 aN).f0) != 18) = false := bne_eq_false_iff_eq.mpr c21
    clear c21
    (first | rw [c21b0] | (simp only [Qbo, Qbp]; rw [c21b0]) | skip)
    have H' := As0 H
    clear H
    go_wp2
    go_meet
    case rel => exact ⟨_, (wrap64 (dB + 1)), eR, H', ⟨by have := HK1.out; first | omega | exact Nat.le_refl _⟩, ⟨bU eV.out⟩, ⟨bU fN.out⟩, ⟨bU K174.out⟩, ⟨BU HB.out⟩⟩
   case rest =>
    clear C12
    obtain ⟨kq, fX, rfl, HA, HJ11, eV, fN, K174, HB⟩ := hcut
    cases kq with
    | zero => exact absurd HA.out (by simp [Qa7.j1])
    | succ kj11 =>
     have H := HA.out
     clear HA
     simp only [Qa7.j1] at H
     by_cases c22 : fX > 64
     ·rw [if_pos c22] at H
      have c22b0 := decide_eq_true c22
      clear c22
      obtain rfl := Option.some.inj H
      go_wp2
      go_ret
      exact ⟨oR, BU HB.out⟩
     rw [if_neg c22] at H
     have c22b0 := decide_eq_false c22
     clear c22
     have H' := As0 H
     clear H
     go_wp2
     go_roundg kj11
     case measure => have := HK1.out; have := HJ11.out; omega
     case rel => exact ⟨(fX), (wrap64 (aN + 1)), eR, eR, H', ⟨by have := HK1.out; have := HJ11.out; omega⟩, ⟨bU eV.out⟩, ⟨bU fN.out⟩, ⟨BU HB.out⟩⟩
mutual
def Qan.j0 : Nat → Bool → Int → Int → Int → List (S57) → Option (Int)
 | 0, _, _, _, _, _ => none
 | k + 1, x6, eK, dT, eC, dJ => if x6 = true then (some 10) else (if dT < 0 then (some 9) else (if eC > 1048576 then (Qan.j1 k true eK dT eC dJ) else (Qan.j1 k (decide (dT > 1048576)) eK dT eC dJ)))
def Qan.j1 : Nat → Bool → Int → Int → Int → List (S57) → Option (Int)
 | 0, _, _, _, _, _ => none
 | k + 1, x21, eK, dT, eC, dJ => if x21 = true then (some 6) else (if (dJ.length : Int) = 0 then (some 14) else (if (dJ.length : Int) > 1048576 then (Qan.j2 k true eK dT eC dJ) else ((machine_Code.f k eK dT eC dJ).bind fun t177 => (Qan.j2 k (decide (t177 > 1048576)) eK dT eC dJ))))
def Qan.j2 : Nat → Bool → Int → Int → Int → List (S57) → Option (Int)
 | 0, _, _, _, _, _ => none
 | k + 1, x35, eK, dT, eC, dJ => if x35 = true then (some 6) else (Qan.l0 k dJ (dJ.length : Int) 0 eK dT eC dJ)
def Qan.l0 : Nat → List (S57) → Int → Int → Int → Int → Int → List (S57) → Option (Int)
 | 0, _, _, _, _, _, _, _ => none
 | k + 1, x46, x47, x48, eK, dT, eC, dJ => if x48 < x47 then (if 0 ≤ x48 then (if x48 < (x46.length : Int) then ((Qa7.f k eK dT eC dJ ((Qaq x46 x48).f0) ((Qaq x46 x48).f1.f0) ((Qaq x46 x48).f1.f1) ((Qaq x46 x48).f1.f2) ((Qaq x46 x48).f1.f3)).bind fun jG => (if jG = 0 then (Qan.l0 k x46 x47 (wrap64 (x48 + 1)) eK dT eC dJ) else (some jG))) else (none)) else (none)) else (some 0)
end
def Qan.f (k : Nat) (a0_0 a0_1 a0_2 : Int) (l0_3 : List (S57)) : Option (Int) := if a0_0 < 0 then (Qan.j0 k true a0_0 a0_1 a0_2 l0_3) else (Qan.j0 k (decide (a0_0 > a0_2)) a0_0 a0_1 a0_2 l0_3)
theorem Qan.calls (k : Nat) (a0_0 a0_1 a0_2 : Int) (A0_3 : Option Addr) (c0_3 : Nat) (l0_3 : List (S57)) (r : Int) (w : World) (hr0_3 : Kd.C k57 w A0_3 l0_3.length l0_3) (hc0_3 : l0_3.length ≤ c0_3) (h : Qan.f k a0_0 a0_1 a0_2 l0_3 = some r) :
 Calls Tryz.prog 60 #[.agg #[.int .i64 a0_0, .int .i64 a0_1, .int .i64 a0_2, .slice A0_3 l0_3.length c0_3]] w fun e w' => e = .returned (.int .i64 r) ∧ Below w.heap.size w w' := by
 have hu27 := Tryz.underlying27
 have hu57 := Tryz.underlying57
 have R0_3 := As0 hr0_3
 have C0_3 := As0 hc0_3
 clear hr0_3 hc0_3
 have HB := As0 (Below.refl w.heap.size w)
 have H : (if a0_0 < 0 then (Qan.j0 k true a0_0 a0_1 a0_2 l0_3) else (Qan.j0 k (decide (a0_0 > a0_2)) a0_0 a0_1 a0_2 l0_3)) = some r := h
 clear h
 have C2 := As0 H
 clear H
 go_enter Tryz.func60, Tryz.ntmps60
 go_upto_region 1 with (first | ((with_reducible refine gD 1 ?_); refine bY HB.out ?_; intro gb176 w3 hg hb dM GW176 HB; clear hb hg))
 (try simp only [Act.put, sL1, sL2, sL3])
 go_cut [6] (fun v6 wc => ∃ (kq : Nat) (eF : Bool), v6 = .bool eF ∧ Qbf (Qan.j0 kq eF a0_0 a0_1 a0_2 l0_3 = some r) ∧ Qbf (kq ≤ k) ∧ Qbf (wc.heap[gb176]? = some (.cells #[.int .i64 a0_0, .int .i64 a0_1, .int .i64 a0_2, (.slice A0_3 l0_3.length c0_3)] 27 (0, 0))) ∧ Qbf (Below w.heap.size w wc))
 case first =>
  have H := C2.out
  clear C2
  by_cases c4 : a0_0 < 0
  rotate_left
  ·rw [if_neg c4] at H
   have c4b0 := decide_eq_false c4
   clear c4
   (first | rw [c4b0] | (simp only [Qbo, Qbp]; rw [c4b0]) | skip)
   have H' := As0 H
   clear H
   have q6_ := cN4 dM.out
   go_wp2
   go_meet
   case rel => exact ⟨_, (decide (a0_0 > a0_2)), eR, H', ⟨by first | omega | exact Nat.le_refl _⟩, ⟨bU dM.out⟩, ⟨BU HB.out⟩⟩
  rw [if_pos c4] at H
  have c4b0 := decide_eq_true c4
  clear c4
  (first | rw [c4b0] | (simp only [Qbo, Qbp]; rw [c4b0]) | skip)
  have H' := As0 H
  clear H
  have q5_ := cN4 dM.out
  go_wp2
  go_meet
  case rel => exact ⟨_, (true), eR, H', ⟨by first | omega | exact Nat.le_refl _⟩, ⟨bU dM.out⟩, ⟨BU HB.out⟩⟩
 case rest =>
  clear C2
  obtain ⟨kq, eF, rfl, HA, HJ1, dM, HB⟩ := hcut
  cases kq with
  | zero => exact absurd HA.out (by simp [Qan.j0])
  | succ kj1 =>
   have H := HA.out
   clear HA
   simp only [Qan.j0] at H
   by_cases c7 : eF = true
   ·subst c7
    rw [if_pos rfl] at H
    obtain rfl := Option.some.inj H
    go_wp2
    go_ret
    exact ⟨oR, BU HB.out⟩
   replace c7 := Bool.eq_false_iff.mpr c7
   subst c7
   rw [if_neg bF] at H
   by_cases c8 : a0_1 < 0
   ·rw [if_pos c8] at H
    have c8b0 := decide_eq_true c8
    clear c8
    obtain rfl := Option.some.inj H
    have q9_ := cN4 dM.out
    go_wp2
    go_ret
    exact ⟨oR, BU HB.out⟩
   rw [if_neg c8] at H
   have c8b0 := decide_eq_false c8
   clear c8
   have C10 := As0 H
   clear H
   have q11_ := cN4 dM.out
   go_upto_region 5 with (fail)
   go_cut [21] (fun v21 wc => ∃ (kq : Nat) (x21_9 : Bool), v21 = .bool x21_9 ∧ Qbf (Qan.j1 kq x21_9 a0_0 a0_1 a0_2 l0_3 = some r) ∧ Qbf (kq ≤ kj1) ∧ Qbf (wc.heap[gb176]? = some (.cells #[.int .i64 a0_0, .int .i64 a0_1, .int .i64 a0_2, (.slice A0_3 l0_3.length c0_3)] 27 (0, 0))) ∧ Qbf (Below w.heap.size w wc))
   case first =>
    have H := C10.out
    clear C10
    by_cases c12 : a0_2 > 1048576
    rotate_left
    ·rw [if_neg c12] at H
     have c12b0 := decide_eq_false c12
     clear c12
     (first | rw [c12b0] | (simp only [Qbo, Qbp]; rw [c12b0]) | skip)
     have H' := As0 H
     clear H
     have q14_ := cN4 dM.out
     go_wp2
     go_meet
     case rel => exact ⟨_, (decide (a0_1 > 1048576)), eR, H', ⟨by have := HJ1.out; first | omega | exact Nat.le_refl _⟩, ⟨bU dM.out⟩, ⟨BU HB.out⟩⟩
    rw [if_pos c12] at H
    have c12b0 := decide_eq_true c12
    clear c12
    (first | rw [c12b0] | (simp only [Qbo, Qbp]; rw [c12b0]) | skip)
    have H' := As0 H
    clear H
    have q13_ := cN4 dM.out
    go_wp2
    go_meet
    case rel => exact ⟨_, (true), eR, H', ⟨by have := HJ1.out; first | omega | exact Nat.le_refl _⟩, ⟨bU dM.out⟩, ⟨BU HB.out⟩⟩
   case rest =>
    clear C10
    obtain ⟨kq, x21_9, rfl, HA, HJ9, dM, HB⟩ := hcut
    cases kq with
    | zero => exact absurd HA.out (by simp [Qan.j1])
    | succ kj9 =>
     have H := HA.out
     clear HA
     simp only [Qan.j1] at H
     by_cases c15 : x21_9 = true
     ·subst c15
      rw [if_pos rfl] at H
      obtain rfl := Option.some.inj H
      go_wp2
      go_ret
      exact ⟨oR, BU HB.out⟩
     replace c15 := Bool.eq_false_iff.mpr c15
     subst c15
     rw [if_neg bF] at H
     by_cases c16 : (l0_3.length : Int) = 0
     ·rw [if_pos c16] at H
      have c16b0 : ((l0_3.length : Int) == 0) = true := beq_iff_eq.mpr c16
      have c16b1 : ((l0_3.length : Int) != 0) = false := bne_eq_false_iff_eq.mpr c16
      clear c16
      obtain rfl := Option.some.inj H
      have q17_ := cN4 dM.out
      go_wp2
      go_ret
      exact ⟨oR, BU HB.out⟩
     rw [if_neg c16] at H
     have c16b0 : ((l0_3.length : Int) == 0) = false := beq_eq_false_iff_ne.mpr c16
     have c16b1 : ((l0_3.length : Int) != 0) = true := bne_iff_ne.mpr c16
     have c16b2 : ¬ (l0_3 = []) := fun h_ => c16 (by rw [h_]; rfl)
     have C18 := As0 H
     clear H
     have q19_ := cN4 dM.out
     go_upto_region 9 with (fail)
     go_cut [35] (fun v35 wc => ∃ (kq : Nat) (x35_17 : Bool), v35 = .bool x35_17 ∧ Qbf (Qan.j2 kq x35_17 a0_0 a0_1 a0_2 l0_3 = some r) ∧ Qbf (kq ≤ kj9) ∧ Qbf (wc.heap[gb176]? = some (.cells #[.int .i64 a0_0, .int .i64 a0_1, .int .i64 a0_2, (.slice A0_3 l0_3.length c0_3)] 27 (0, 0))) ∧ Qbf (Below w.heap.size w wc))
     case first =>
      have H := C18.out
      clear C18
      by_cases c20 : (l0_3.length : Int) > 1048576
      ·rw [if_pos c20] at H
       have c20b0 := decide_eq_true c20
       have c20b1 : decide (1048576 < l0_3.length) = true := decide_eq_true (by omega)
       clear c20
       (first | rw [c20b0] | (simp only [Qbo, Qbp]; rw [c20b0]) | skip)
       have H' := As0 H
       clear H
       have q21_ := cN4 dM.out
       go_wp2
       go_meet
       case rel => exact ⟨_, (true), eR, H', ⟨by have := HJ1.out; have := HJ9.out; first | omega | exact Nat.le_refl _⟩, ⟨bU dM.out⟩, ⟨BU HB.out⟩⟩
      rw [if_neg c20] at H
      have c20b0 := decide_eq_false c20
      have c20b1 : decide (1048576 < l0_3.length) = false := decide_eq_false (by omega)
      clear c20
      (first | rw [c20b0] | (simp only [Qbo, Qbp]; rw [c20b0]) | skip)
      replace H := Option.bind_eq_some_iff.mp H
      obtain ⟨t177, A220, H⟩ := H
      have A22 := As0 A220
      clear A220
      have H' := As0 H
      clear H
      have q23_ := cN4 dM.out
      go_wp2_with (first | (go_at_call 105; (with_reducible refine (machine_Code.calls kj9 a0_0 a0_1 a0_2 _ _ l0_3 t177 _ ?side1 ?side2 A22.out).mono ?_); (case side1 => exact CU (Kd.C_below R0_3.out HB.out)); (case side2 => exact C0_3.out); rintro e w24 ⟨rfl, hb⟩; replace dM := kB dM hb; replace HB := sB HB hb; (try clear hb)))
      go_meet
      case rel => exact ⟨_, (decide (t177 > 1048576)), eR, H', ⟨by have := HJ1.out; have := HJ9.out; first | omega | exact Nat.le_refl _⟩, ⟨bU dM.out⟩, ⟨BU HB.out⟩⟩
     case rest =>
      clear C18
      obtain ⟨kq, x35_17, rfl, HA, HJ17, dM, HB⟩ := hcut
      cases kq with
      | zero => exact absurd HA.out (by simp [Qan.j2])
      | succ kj17 =>
       have H := HA.out
       clear HA
       simp only [Qan.j2] at H
       by_cases c25 : x35_17 = true
       ·subst c25
        rw [if_pos rfl] at H
        obtain rfl := Option.some.inj H
        go_wp2
        go_ret
        exact ⟨oR, BU HB.out⟩
       replace c25 := Bool.eq_false_iff.mpr c25
       subst c25
       rw [if_neg bF] at H
       have H' := As0 H
       clear H
       have q26_ := cN4 dM.out
       go_wp2
       go_loopg [48] kj17 (fun kq v48 w' => ∃ (cB : Int), v48 = .int .i64 cB ∧ Qbf (Qan.l0 kq l0_3 (l0_3.length : Int) cB a0_0 a0_1 a0_2 l0_3 = some r) ∧ Qbf (kq ≤ kj17) ∧ Qbf (w'.heap[gb176]? = some (.cells #[.int .i64 a0_0, .int .i64 a0_1, .int .i64 a0_2, (.slice A0_3 l0_3.length c0_3)] 27 (0, 0))) ∧ Qbf (Below w.heap.size w w'))
       case atStart => exact ⟨(0), eR, H', ⟨Nat.le_refl _⟩, ⟨bU dM.out⟩, ⟨BU HB.out⟩⟩
       case round =>
        clear H'
        obtain ⟨cB, rfl, HA, HK4, dM, HB⟩ := hrel
        cases gk with
        | zero => exact absurd HA.out (by simp [Qan.l0])
        | succ k4 =>
         have H := HA.out
         clear HA
         simp only [Qan.l0] at H
         by_cases c27 : cB < (l0_3.length : Int)
         rotate_left
         ·rw [if_neg c27] at H
          have c27b0 := decide_eq_false c27
          clear c27
          obtain rfl := Option.some.inj H
          go_wp2
          go_ret
          exact ⟨oR, BU HB.out⟩
         rw [if_pos c27] at H
         have c27b0 := decide_eq_true c27
         clear c27
         by_cases c28 : 0 ≤ cB
         rotate_left
         ·rw [if_neg c28] at H
          exact absurd H (by simp)
         rw [if_pos c28] at H
         have c28b0 := decide_eq_true c28
         clear c28
         by_cases c29 : cB < (l0_3.length : Int)
         rotate_left
         ·rw [if_neg c29] at H
          exact absurd H (by simp)
         rw [if_pos c29] at H
         have c29b0 := decide_eq_true c29
         clear c29
         replace H := Option.bind_eq_some_iff.mp H
         obtain ⟨jG, A300, H⟩ := H
         have A30 := As0 A300
         clear A300
         by_cases c31 : jG = 0
         rotate_left
         ·rw [if_neg c31] at H
          have c31b0 : (jG == 0) = false := beq_eq_false_iff_ne.mpr c31
          have c31b1 : (jG != 0) = true := bne_iff_ne.mpr c31
          obtain rfl := Option.some.inj H
          have p178 : 0 ≤ (cB : Int) := qR
          have q178 : cB < (l0_3.length : Int) := qR
          obtain ⟨ad178, A178_0, c178_0, e178, lB, kZ, kY, kX, kW, hl178_0, hi178_0⟩ := Qep R0_3.out cB p178 q178
          cases e178
          replace lB := cl HB lB
          replace kZ := cl HB kZ
          replace kY := cl HB kY
          replace kX := cl HB kX
          replace kW := cl HB kW
          have R178_0 := As0 hi178_0
          have C178_0 := As0 hl178_0
          clear hi178_0 hl178_0
          replace p178 := eq_true p178
          replace q178 := eq_true q178
          go_wp2_with (first | ((with_reducible refine gD 4 ?_); refine bY HB.out ?_; intro gb179 w37 hg hb K179 GW179 HB; have N176_179 := pL hg dM; have N179_176 := pR hg dM; replace dM := kB dM hb; clear hb hg; have q39_ := cN5 K179.out; have q40_ := cN4 dM.out) | ((with_reducible refine Qbk (f := 106) rfl ?_); refine gL (some 54) Tryz.func106 #[.agg #[.int .i64 a0_0, .int .i64 a0_1, .int .i64 a0_2, .slice (some ad178) l0_3.length c0_3], .agg #[.slice A178_0 ((Qaq l0_3 cB).f0).length c178_0, .int .i64 ((Qaq l0_3 cB).f1.f0), .int .i64 ((Qaq l0_3 cB).f1.f1), .int .i64 ((Qaq l0_3 cB).f1.f2), .int .i64 ((Qaq l0_3 cB).f1.f3)]] ?_; (with_reducible refine (Qa7.calls k4 a0_0 a0_1 a0_2 _ _ l0_3 _ _ ((Qaq l0_3 cB).f0) ((Qaq l0_3 cB).f1.f0) ((Qaq l0_3 cB).f1.f1) ((Qaq l0_3 cB).f1.f2) ((Qaq l0_3 cB).f1.f3) jG _ ?side1 ?side2 ?side3 ?side4 A30.out).mono ?_); (case side1 => exact Kd.C_below R0_3.out (BU HB.out)); (case side2 => exact C0_3.out); (case side3 => exact Kd.C_below R178_0.out (BU HB.out)); (case side4 => exact C178_0.out); rintro e w41 ⟨rfl, hb⟩; refine ⟨_, rfl, ?_⟩; replace dM := kF dM hb; replace K179 := kP (.cells #[.slice A178_0 ((Qaq l0_3 cB).f0).length c178_0, .int .i64 ((Qaq l0_3 cB).f1.f0), .int .i64 ((Qaq l0_3 cB).f1.f1), .int .i64 ((Qaq l0_3 cB).f1.f2), .int .i64 ((Qaq l0_3 cB).f1.f3)] 57 (0, 0)) K179 hb; replace HB := sB HB hb; (try clear hb)))
          go_ret
          exact ⟨oR, BU HB.out⟩
         rw [if_pos c31] at H
         have c31b0 : (jG == 0) = true := beq_iff_eq.mpr c31
         have c31b1 : (jG != 0) = false := bne_eq_false_iff_eq.mpr c31
         clear c31
         have H' := As0 H
         clear H
         have p178 : 0 ≤ (cB : Int) := qR
         have q178 : cB < (l0_3.length : Int) := qR
         obtain ⟨ad178, A178_0, c178_0, e178, lB, kZ, kY, kX, kW, hl178_0, hi178_0⟩ := Qep R0_3.out cB p178 q178
         cases e178
         replace lB := cl HB lB
         replace kZ := cl HB kZ
         replace kY := cl HB kY
         replace kX := cl HB kX
         replace kW := cl HB kW
         have R178_0 := As0 hi178_0
         have C178_0 := As0 hl178_0
         clear hi178_0 hl178_0
         replace p178 := eq_true p178
         replace q178 := eq_true q178
         go_wp2_with (first | ((with_reducible refine gD 4 ?_); refine bY HB.out ?_; intro gb179 w32 hg hb K179 GW179 HB; have N176_179 := pL hg dM; have N179_176 := pR hg dM; replace dM := kB dM hb; clear hb hg; have q34_ := cN5 K179.out; have q35_ := cN4 dM.out) | ((with_reducible refine Qbk (f := 106) rfl ?_); refine gL (some 54) Tryz.func106 #[.agg #[.int .i64 a0_0, .int .i64 a0_1, .int .i64 a0_2, .slice (some ad178) l0_3.length c0_3], .agg #[.slice A178_0 ((Qaq l0_3 cB).f0).length c178_0, .int .i64 ((Qaq l0_3 cB).f1.f0), .int .i64 ((Qaq l0_3 cB).f1.f1), .int .i64 ((Qaq l0_3 cB).f1.f2), .int .i64 ((Qaq l0_3 cB).f1.f3)]] ?_; (with_reducible refine (Qa7.calls k4 a0_0 a0_1 a0_2 _ _ l0_3 _ _ ((Qaq l0_3 cB).f0) ((Qaq l0_3 cB).f1.f0) ((Qaq l0_3 cB).f1.f1) ((Qaq l0_3 cB).f1.f2) ((Qaq l0_3 cB).f1.f3) jG _ ?side1 ?side2 ?side3 ?side4 A30.out).mono ?_); (case side1 => exact Kd.C_below R0_3.out (BU HB.out)); (case side2 => exact C0_3.out); (case side3 => exact Kd.C_below R178_0.out (BU HB.out)); (case side4 => exact C178_0.out); rintro e w36 ⟨rfl, hb⟩; refine ⟨_, rfl, ?_⟩; replace dM := kF dM hb; replace K179 := kP (.cells #[.slice A178_0 ((Qaq l0_3 cB).f0).length c178_0, .int .i64 ((Qaq l0_3 cB).f1.f0), .int .i64 ((Qaq l0_3 cB).f1.f1), .int .i64 ((Qaq l0_3 cB).f1.f2), .int .i64 ((Qaq l0_3 cB).f1.f3)] 57 (0, 0)) K179 hb; replace HB := sB HB hb; (try clear hb)))
         go_roundg k4
         case measure => have := HJ1.out; have := HJ9.out; have := HJ17.out; have := HK4.out; omega
         case rel => exact ⟨(wrap64 (cB + 1)), eR, H', ⟨by have := HJ1.out; have := HJ9.out; have := HJ17.out; have := HK4.out; omega⟩, ⟨bU dM.out⟩, ⟨BU HB.out⟩⟩
def edge_total.l0 : Nat → Int → List (List (S47)) → Int → Int → Option (Int)
 | 0, _, _, _, _ => none
 | k + 1, x3, x6, x7, x8 => if x8 < x7 then (if 0 ≤ x8 then (if x8 < (x6.length : Int) then (edge_total.l0 k (wrap64 (x3 + ((Qao x6 x8).length : Int))) x6 x7 (wrap64 (x8 + 1))) else (none)) else (none)) else (some x3)
def edge_total.f (k : Nat) (l0 : List (List (S47))) : Option (Int) := edge_total.l0 k 0 l0 (l0.length : Int) 0
theorem edge_total.calls (k : Nat) (A0 : Option Addr) (c0 : Nat) (l0 : List (List (S47))) (r : Int) (w : World) (hr0 : Kd.C (Kd.slice 47 k47) w A0 l0.length l0) (hc0 : l0.length ≤ c0) (h : edge_total.f k l0 = some r) :
 Calls Tryz.prog 107 #[.slice A0 l0.length c0] w fun e w' => e = .returned (.int .i64 r) ∧ Qbr w w' := by
 have R0 := As0 hr0
 have C0 := As0 hc0
 clear hr0 hc0
 have H : (edge_total.l0 k 0 l0 (l0.length : Int) 0) = some r := h
 clear h
 have H' := As0 H
 clear H
 go_enter Tryz.func107, Tryz.ntmps107
 go_wp2
 go_loopg [3, 8] k (fun kq v3 v8 w' => ∃ (cI : Int) (dG : Int), v3 = .int .i64 cI ∧ v8 = .int .i64 dG ∧ Qbf (edge_total.l0 kq cI l0 (l0.length : Int) dG = some r) ∧ Qbf (kq ≤ k) ∧ Qbr w w')
 case atStart => exact ⟨(0), (0), eR, eR, H', ⟨Nat.le_refl _⟩, by repeat (first | exact Qbr.refl _ | apply Qbr.step)⟩
 case round =>
  clear H'
  obtain ⟨cI, dG, rfl, rfl, HA, HK1, ⟨m1, rfl⟩⟩ := hrel
  cases gk with
  | zero => exact absurd HA.out (by simp [edge_total.l0])
  | succ k1 =>
   have H := HA.out
   clear HA
   simp only [edge_total.l0] at H
   by_cases c2 : dG < (l0.length : Int)
   rotate_left
   ·rw [if_neg c2] at H
    have c2b0 := decide_eq_false c2
    clear c2
    obtain rfl := Option.some.inj H
    go_wp2
    go_ret
    exact dR
   rw [if_pos c2] at H
   have c2b0 := decide_eq_true c2
   clear c2
   by_cases c3 : 0 ≤ dG
   rotate_left
   ·rw [if_neg c3] at H
    exact absurd H (by simp)
   rw [if_pos c3] at H
   have c3b0 := decide_eq_true c3
   clear c3
   by_cases c4 : dG < (l0.length : Int)
   rotate_left
   ·rw [if_neg c4] at H
    exact absurd H (by simp)
   rw [if_pos c4] at H
   have c4b0 := decide_eq_true c4
   clear c4
   have H' := As0 H
   clear H
   have p181 : 0 ≤ (dG : Int) := qR
   have q181 : dG < (l0.length : Int) := qR
   obtain ⟨ad181, A181_0, c181_0, e181, hx181_0, hl181_0, hi181_0⟩ := Qdk R0.out dG p181 q181
   cases e181
   have R181_0 := As0 hi181_0
   have C181_0 := As0 hl181_0
   clear hi181_0 hl181_0
   replace p181 := eq_true p181
   replace q181 := eq_true q181
   go_wp2
   go_roundg k1
   case measure => have := HK1.out; omega
   case rel => exact ⟨(wrap64 (cI + ((Qao l0 dG).length : Int))), (wrap64 (dG + 1)), eR, eR, H', ⟨by have := HK1.out; omega⟩, by repeat (first | exact Qbr.refl _ | apply Qbr.step)⟩
mutual
def Qat.l0 : Nat → List (S47) → Int → Int → Int → List (S47) → Int → Int → Option (Int)
 | 0, _, _, _, _, _, _, _ => none
 | k + 1, x0, x1, x2, x3, fL, jU, x13 => if x13 < jU then (if 0 ≤ x13 then (if x13 < (fL.length : Int) then (if ((Qaa fL x13).f0) < 0 then (Qat.j1 k x0 x1 x2 x3 x13 fL jU x13 true ((Qaa fL x13).f0) ((Qaa fL x13).f1)) else (Qat.j1 k x0 x1 x2 x3 x13 fL jU x13 (decide (((Qaa fL x13).f0) ≥ x1)) ((Qaa fL x13).f0) ((Qaa fL x13).f1))) else (none)) else (none)) else (some 0)
def Qat.j1 : Nat → List (S47) → Int → Int → Int → Int → List (S47) → Int → Int → Bool → Int → Int → Option (Int)
 | 0, _, _, _, _, _, _, _, _, _, _, _ => none
 | k + 1, x0, x1, x2, x3, x9, fL, jU, x13, x18, x189000, x189001 => if x18 = true then (some 9) else ((Qbb.f x189001 x2 x3).bind fun t189 => (if t189 = true then (if x9 > 0 then (if 0 ≤ (wrap64 (x9 - 1)) then (if (wrap64 (x9 - 1)) < (x0.length : Int) then ((Qa6.f ((Qaa x0 (wrap64 (x9 - 1))).f0) ((Qaa x0 (wrap64 (x9 - 1))).f1) x189000 x189001).bind fun t191 => (Qat.j2 k x0 x1 x2 x3 fL jU x13 (!t191))) else (none)) else (none)) else (Qat.j2 k x0 x1 x2 x3 fL jU x13 false)) else (some 10)))
def Qat.j2 : Nat → List (S47) → Int → Int → Int → List (S47) → Int → Int → Bool → Option (Int)
 | 0, _, _, _, _, _, _, _, _ => none
 | k + 1, x0, x1, x2, x3, fL, jU, x13, x35 => if x35 = true then (some 13) else (Qat.l0 k x0 x1 x2 x3 fL jU (wrap64 (x13 + 1)))
end
def Qat.f (k : Nat) (l0 : List (S47)) (a1 a2 a3 : Int) : Option (Int) := Qat.l0 k l0 a1 a2 a3 l0 (l0.length : Int) 0
def Qat.T8 : Bool × List (List Nat × List Nat) := (true, [([], []), ([0], [0]), ([1], [1]), ([2], [2]), ([2], [2]), ([4, 2], [2, 4]), ([3, 5, 2], [2, 3, 5]), ([6, 2], [2, 6]), ([2], [2]), ([7, 8, 2, 2], [2, 7, 8]), ([9, 2], [2, 9]), ([2, 10], [2, 10]), ([11, 9], [11])])
def Qat.B8 : List Nat := [0, 1, 3, 7, 7, 23, 63, 127, 7, 511, 1023, 2047, 4095]
theorem Qat.tab8 : rtab .any (opsOf Tryz.f108 8) = Qat.T8 := by kernel_rfl
theorem Qat.bits8 : Qco Qat.T8.2 Qat.B8 = true := by kernel_rfl
theorem Qat.calls (k : Nat) (A0 : Option Addr) (c0 : Nat) (l0 : List (S47)) (a1 a2 a3 r : Int) (w : World) (hr0 : Kd.C k47 w A0 l0.length l0) (hc0 : l0.length ≤ c0) (h : Qat.f k l0 a1 a2 a3 = some r) :
 Calls Tryz.prog 108 #[.slice A0 l0.length c0, .int .i64 a1, .int .i64 a2, .int .i64 a3] w fun e w' => e = .returned (.int .i64 r) ∧ Below w.heap.size w w' := by
 have hu47 := Tryz.underlying47
 have R0 := As0 hr0
 have C0 := As0 hc0
 clear hr0 hc0
 have HB := As0 (Below.refl w.heap.size w)
 have H : (Qat.l0 k l0 a1 a2 a3 l0 (l0.length : Int) 0) = some r := h
 clear h
 have H' := As0 H
 clear H
 go_enter Tryz.func108, Tryz.ntmps108
 go_wp2
 go_loopg [13] k (fun kq v13 w' => ∃ (aK : Int), v13 = .int .i64 aK ∧ Qbf (Qat.l0 kq l0 a1 a2 a3 l0 (l0.length : Int) aK = some r) ∧ Qbf (kq ≤ k) ∧ Qbf (Below w.heap.size w w'))
 case atStart => exact ⟨(0), eR, H', ⟨Nat.le_refl _⟩, ⟨BU HB.out⟩⟩
 case round =>
  clear H'
  obtain ⟨aK, rfl, HA, HK1, HB⟩ := hrel
  cases gk with
  | zero => exact absurd HA.out (by simp [Qat.l0])
  | succ k1 =>
   have H := HA.out
   clear HA
   simp only [Qat.l0] at H
   by_cases c5 : aK < (l0.length : Int)
   rotate_left
   ·rw [if_neg c5] at H
    have c5b0 := decide_eq_false c5
    clear c5
    obtain rfl := Option.some.inj H
    go_wp2
    go_ret
    exact ⟨oR, BU HB.out⟩
   rw [if_pos c5] at H
   have c5b0 := decide_eq_true c5
   clear c5
   by_cases c6 : 0 ≤ aK
   rotate_left
   ·rw [if_neg c6] at H
    exact absurd H (by simp)
   rw [if_pos c6] at H
   have c6b0 := decide_eq_true c6
   clear c6
   by_cases c7 : aK < (l0.length : Int)
   rotate_left
   ·rw [if_neg c7] at H
    exact absurd H (by simp)
   rw [if_pos c7] at H
   have c7b0 := decide_eq_true c7
   clear c7
   have C8 := As0 H
   clear H
   have p187 : 0 ≤ (aK : Int) := qR
   have q187 : aK < (l0.length : Int) := qR
   obtain ⟨ad187, e187, hx187_0, hx187_1⟩ := Qcc R0.out aK p187 q187
   cases e187
   replace hx187_0 := cl HB hx187_0
   replace hx187_1 := cl HB hx187_1
   replace p187 := eq_true p187
   replace q187 := eq_true q187
   go_upto_region 4 with (first | ((with_reducible refine gD 10 ?_); refine bY HB.out ?_; intro gb188 w9 hg hb eH GW188 HB; clear hb hg; have q10_ := cN2 eH.out))
   (try simp only [Act.put, sL1, sL2, sL3])
   go_cut [18] (fun v18 wc => ∃ (kq : Nat) (x18_7 : Bool), v18 = .bool x18_7 ∧ Qbf (Qat.j1 kq l0 a1 a2 a3 aK l0 (l0.length : Int) aK x18_7 ((Qaa l0 aK).f0) ((Qaa l0 aK).f1) = some r) ∧ Qbf (kq ≤ k1) ∧ Qbf (wc.heap[gb188]? = some (.cells #[.int .i64 ((Qaa l0 aK).f0), .int .i64 ((Qaa l0 aK).f1)] 47 (0, 0))) ∧ Qbf (Below w.heap.size w wc))
   case first =>
    have H := C8.out
    clear C8
    by_cases c11 : ((Qaa l0 aK).f0) < 0
    rotate_left
    ·rw [if_neg c11] at H
     have c11b0 := decide_eq_false c11
     clear c11
     (first | rw [c11b0] | (simp only [Qbo, Qbp]; rw [c11b0]) | skip)
     have H' := As0 H
     clear H
     have q13_ := cN2 eH.out
     go_wp2
     go_meet
     case rel => exact ⟨_, (decide (((Qaa l0 aK).f0) ≥ a1)), eR, H', ⟨by have := HK1.out; first | omega | exact Nat.le_refl _⟩, ⟨kV eH⟩, ⟨BU HB.out⟩⟩
    rw [if_pos c11] at H
    have c11b0 := decide_eq_true c11
    clear c11
    (first | rw [c11b0] | (simp only [Qbo, Qbp]; rw [c11b0]) | skip)
    have H' := As0 H
    clear H
    have q12_ := cN2 eH.out
    go_wp2
    go_meet
    case rel => exact ⟨_, (true), eR, H', ⟨by have := HK1.out; first | omega | exact Nat.le_refl _⟩, ⟨kV eH⟩, ⟨BU HB.out⟩⟩
   case rest =>
    clear C8
    obtain ⟨kq, x18_7, rfl, HA, HJ7, eH, HB⟩ := hcut
    cases kq with
    | zero => exact absurd HA.out (by simp [Qat.j1])
    | succ kj7 =>
     have H := HA.out
     clear HA
     simp only [Qat.j1] at H
     by_cases c14 : x18_7 = true
     ·subst c14
      rw [if_pos rfl] at H
      obtain rfl := Option.some.inj H
      go_wp2
      go_ret
      exact ⟨oR, BU HB.out⟩
     replace c14 := Bool.eq_false_iff.mpr c14
     subst c14
     rw [if_neg bF] at H
     replace H := Option.bind_eq_some_iff.mp H
     obtain ⟨t189, A150, H⟩ := H
     have A15 := As0 A150
     clear A150
     by_cases c16 : t189 = true
     rotate_left
     ·replace c16 := Bool.eq_false_iff.mpr c16
      subst c16
      rw [if_neg bF] at H
      obtain rfl := Option.some.inj H
      have q28_ := cN2 eH.out
      go_wp2_with (first | ((with_reducible refine Qbk (f := 138) rfl ?_); refine gL (some 33) Tryz.func138 #[.int .i64 ((Qaa l0 aK).f1), .int .i64 a2, .int .i64 a3] ?_; (with_reducible refine (Qbb.calls ((Qaa l0 aK).f1) a2 a3 false _ A15.out).mono ?_); rintro e w' ⟨rfl, ⟨nd, rfl⟩⟩; refine ⟨_, rfl, ?_⟩))
      go_ret
      exact ⟨oR, BU HB.out⟩
     subst c16
     rw [if_pos rfl] at H
     have C17 := As0 H
     clear H
     have q18_ := cN2 eH.out
     go_upto_region 8 with (first | ((with_reducible refine Qbk (f := 138) rfl ?_); refine gL (some 33) Tryz.func138 #[.int .i64 ((Qaa l0 aK).f1), .int .i64 a2, .int .i64 a3] ?_; (with_reducible refine (Qbb.calls ((Qaa l0 aK).f1) a2 a3 true _ A15.out).mono ?_); rintro e w' ⟨rfl, ⟨nd, rfl⟩⟩; refine ⟨_, rfl, ?_⟩))
     (try simp only [Act.put, sL1, sL2, sL3])
     go_cut [35] (fun v35 wc => ∃ (kq : Nat) (x35_16 : Bool), v35 = .bool x35_16 ∧ Qbf (Qat.j2 kq l0 a1 a2 a3 l0 (l0.length : Int) aK x35_16 = some r) ∧ Qbf (kq ≤ kj7) ∧ Qbf (wc.heap[gb188]? = some (.cells #[.int .i64 ((Qaa l0 aK).f0), .int .i64 ((Qaa l0 aK).f1)] 47 (0, 0))) ∧ Qbf (Below w.heap.size w wc))
     case first =>
      have H := C17.out
      clear C17
      by_cases c19 : aK > 0
      rotate_left
      ·rw [if_neg c19] at H
       have c19b0 := decide_eq_false c19
       clear c19
       (first | rw [c19b0] | (simp only [Qbo, Qbp]; rw [c19b0]) | skip)
       have H' := As0 H
       clear H
       try go_wp2
       have m0_ := As0 (blk_drewN eH.out nd)
       have m1_ := As0 (bdN HB.out nd)
       clear eH HB
       have eH := m0_
       have HB := m1_
       clear m0_ m1_
       generalize wc.drewN nd = wd at eH HB ⊢
       replace eH := As0 (Qbm eH.out)
       replace HB := As0 (bd1 HB.out)
       refine Qb1 (n := 13) (S := fun w' => True) (ds := []) (bb 13 0) (by kernel_rfl) rfl rfl trivial (fun aA => ?_); refine Qb8 Qat.tab8 Qat.bits8 (fun HT_ HW_ => ?_)
       generalize wd.drew = w26 at eH HB aA ⊢
       refine pv HT_.out 0 36 (bb 13 1) ?_
       refine pv HT_.out 1 37 (bb 13 3) ?_
       refine pv HT_.out 2 38 (bb 13 7) ?_
       refine py HT_.out 3 39 (bb 13 15) ?_
       refine py HT_.out 4 40 (bb 13 31) ?_
       refine py HT_.out 5 41 (bb 13 63) ?_
       refine py HT_.out 6 42 (bb 13 127) ?_
       refine py HT_.out 7 43 (bb 13 255) ?_
       refine py HT_.out 8 44 (bb 13 511) ?_
       refine py HT_.out 9 45 (bb 13 1023) ?_
       refine py HT_.out 10 46 (bb 13 2047) ?_
       refine pv HT_.out 11 47 (bb 13 4095) ?_
       refine pv HT_.out 12 35 (bb 13 8191) ?_
       refine Qch (Qcm HT_.out (by kernel_rfl)) ?_
       try go_wp2
       go_meet
       case rel => exact ⟨_, (false), eR, H', ⟨by have := HK1.out; have := HJ7.out; first | omega | exact Nat.le_refl _⟩, ⟨bU eH.out⟩, ⟨BU HB.out⟩⟩
      rw [if_pos c19] at H
      have c19b0 := decide_eq_true c19
      clear c19
      (first | rw [c19b0] | (simp only [Qbo, Qbp]; rw [c19b0]) | skip)
      obtain ⟨hI, hji20⟩ : ∃ j_ : Int, (wrap64 (aK - 1)) = j_ := ⟨_, rfl⟩
      replace H : (if 0 ≤ (hI) then (if (hI) < (l0.length : Int) then ((Qa6.f ((Qaa l0 (hI)).f0) ((Qaa l0 (hI)).f1) ((Qaa l0 aK).f0) ((Qaa l0 aK).f1)).bind fun t191 => (Qat.j2 kj7 l0 a1 a2 a3 l0 (l0.length : Int) aK (!t191))) else (none)) else (none)) = some r := by first | (rw [hji20] at H; exact H) | (simp only [hji20] at H ⊢; exact H)
      have hji20w : (IntKind.i64.wrap (aK - 1)) = hI := (Qbo _).trans hji20
      by_cases c21 : 0 ≤ (hI)
      rotate_left
      ·rw [if_neg c21] at H
       exact absurd H (by simp)
      rw [if_pos c21] at H
      have c21b0 := decide_eq_true c21
      clear c21
      by_cases c22 : (hI) < (l0.length : Int)
      rotate_left
      ·rw [if_neg c22] at H
       exact absurd H (by simp)
      rw [if_pos c22] at H
      have c22b0 := decide_eq_true c22
      clear c22
      replace H := Option.bind_eq_some_iff.mp H
      obtain ⟨t191, A230, H⟩ := H
      have A23 := As0 A230
      clear A230
      have H' := As0 H
      clear H
      try go_wp2
      have m0_ := As0 (blk_drewN eH.out nd)
      have m1_ := As0 (bdN HB.out nd)
      clear eH HB
      have eH := m0_
      have HB := m1_
      clear m0_ m1_
      generalize wc.drewN nd = wd at eH HB ⊢
      replace eH := As0 (Qbm eH.out)
      replace HB := As0 (bd1 HB.out)
      have p190 : 0 ≤ ((hI) : Int) := qR
      have q190 : (hI) < (l0.length : Int) := qR
      obtain ⟨ad190, e190, hx190_0, hx190_1⟩ := Qcc R0.out (hI) p190 q190
      have hw190_1 := hx190_1
      have hw190_0 := hx190_0
      obtain rfl : ad187 = ad190 := (by injection e190)
      replace hx190_0 := cl HB hx190_0
      replace hx190_1 := cl HB hx190_1
      replace p190 := eq_true p190
      replace q190 := eq_true q190
      refine Qb1 (n := 13) (S := fun w' => w'.cell? ⟨gb188, 0, none⟩ = some (.int .i64 ((Qaa l0 aK).f0)) ∧ w'.cell? ⟨gb188, 1, none⟩ = some (.int .i64 ((Qaa l0 aK).f1)) ∧ w'.cell? (ad187.add (((hI)).toNat * 2)) = some (.int .i64 ((Qaa l0 (hI)).f0)) ∧ w'.cell? ⟨(ad187.add (((hI)).toNat * 2)).block, (ad187.add (((hI)).toNat * 2)).off + 1, none⟩ = some (.int .i64 ((Qaa l0 (hI)).f1))) (ds := []) (bb 13 0) (by kernel_rfl) rfl rfl ⟨bc eH 0, bc eH 1, (cl HB hw190_0), (cl HB hw190_1)⟩ (fun aA => ?_); refine Qb8 Qat.tab8 Qat.bits8 (fun HT_ HW_ => ?_)
      generalize wd.drew = w24 at eH HB hx190_0 hx190_1 aA ⊢
      refine pv HT_.out 0 36 (bb 13 1) ?_
      refine pv HT_.out 1 37 (bb 13 3) ?_
      refine pv HT_.out 2 38 (bb 13 7) ?_
      refine pv HT_.out 3 39 (bb 13 15) ?_
      refine pv HT_.out 4 40 (bb 13 31) ?_
      refine pv HT_.out 5 41 (bb 13 63) ?_
      refine pv HT_.out 6 42 (bb 13 127) ?_
      refine tv aA HT_.out HW_.out 7 43 (bb 13 255) ?_
      refine tv aA HT_.out HW_.out 8 44 (bb 13 511) ?_
      refine one_ (i := 9) (N := some 45) (bb 13 1023) rfl rfl (Qcf HT_.out (by kernel_rfl)) (by decide) (fun K hK => ?_)
      refine goes_ Tryz.func122 (by kernel_rfl) rfl #[.agg #[.int .i64 ((Qaa l0 (hI)).f0), .int .i64 ((Qaa l0 (hI)).f1)], .agg #[.int .i64 ((Qaa l0 aK).f0), .int .i64 ((Qaa l0 aK).f1)]] (by rfl) rfl rfl (by (try simp only [List.map_toArray, List.map_cons, List.map_nil]); first | done | (simp only [hji20]; rfl) | rfl | (simp only [List.length_drop, List.length_take]; rfl)) ?_
      with_reducible refine (Qa6.calls ((Qaa l0 (hI)).f0) ((Qaa l0 (hI)).f1) ((Qaa l0 aK).f0) ((Qaa l0 aK).f1) t191 _ A23.out).mono ?_
      rintro e w25 ⟨rfl, hb⟩
      refine ⟨_, rfl, ?_⟩
      replace eH := kB eH hb
      replace HB := sB HB hb
      (try clear hb)
      (try clear hb2)
      (try clear hk)
      (try clear hi)
      refine hK.out _ _ ⟨bc eH 0, bc eH 1, (cl HB hw190_0), (cl HB hw190_1)⟩ (fun aA => ?_)
      clear hK K
      refine Qbz (a' := ?_) ?_ ?_
      rotate_left
      ·show Act.put _ (some 45) _ = _
       simp only [Act.put, sL1, sL2, sL3, Qbo, Qbp]
       rfl
      refine pv HT_.out 10 46 (bb 13 2047) ?_
      refine pv HT_.out 11 47 (bb 13 4095) ?_
      refine pv HT_.out 12 35 (bb 13 8191) ?_
      refine Qch (Qcm HT_.out (by kernel_rfl)) ?_
      try go_wp2
      go_meet
      case rel => exact ⟨_, (!t191), eR, H', ⟨by have := HK1.out; have := HJ7.out; first | omega | exact Nat.le_refl _⟩, ⟨bU eH.out⟩, ⟨BU HB.out⟩⟩
     case rest =>
      clear C17
      obtain ⟨kq, x35_16, rfl, HA, HJ16, eH, HB⟩ := hcut
      cases kq with
      | zero => exact absurd HA.out (by simp [Qat.j2])
      | succ kj16 =>
       have H := HA.out
       clear HA
       simp only [Qat.j2] at H
       by_cases c27 : x35_16 = true
       ·subst c27
        rw [if_pos rfl] at H
        obtain rfl := Option.some.inj H
        go_wp2
        go_ret
        exact ⟨oR, BU HB.out⟩
       replace c27 := Bool.eq_false_iff.mpr c27
       subst c27
       rw [if_neg bF] at H
       have H' := As0 H
       clear H
       go_wp2
       go_roundg kj16
       case measure => have := HK1.out; have := HJ7.out; have := HJ16.out; omega
       case rel => exact ⟨(wrap64 (aK + 1)), eR, H', ⟨by have := HK1.out; have := HJ7.out; have := HJ16.out; omega⟩, ⟨BU HB.out⟩⟩
def edge_Valid.l0 : Nat → Int → Int → Int → List (List (S47)) → Int → Int → Option (Int)
 | 0, _, _, _, _, _, _ => none
 | k + 1, x2, x3, x4, x23, x24, x25 => if x25 < x24 then (if 0 ≤ x25 then (if x25 < (x23.length : Int) then ((Qat.f k (Qao x23 x25) x2 x3 x4).bind fun t194 => (if t194 = 0 then (edge_Valid.l0 k x2 x3 x4 x23 x24 (wrap64 (x25 + 1))) else (some t194))) else (none)) else (none)) else (some 0)
def edge_Valid.f (k : Nat) (l0 : List (List (S47))) (a1 a2 a3 a4 : Int) : Option (Int) := if (l0.length : Int) = a1 then ((edge_total.f k l0).bind fun t192 => (if t192 > 1048576 then (some 6) else (edge_Valid.l0 k a2 a3 a4 l0 (l0.length : Int) 0))) else (some 14)
theorem edge_Valid.calls (k : Nat) (A0 : Option Addr) (c0 : Nat) (l0 : List (List (S47))) (a1 a2 a3 a4 r : Int) (w : World) (hr0 : Kd.C (Kd.slice 47 k47) w A0 l0.length l0) (hc0 : l0.length ≤ c0) (h : edge_Valid.f k l0 a1 a2 a3 a4 = some r) :
 Calls Tryz.prog 61 #[.slice A0 l0.length c0, .int .i64 a1, .int .i64 a2, .int .i64 a3, .int .i64 a4] w fun e w' => e = .returned (.int .i64 r) ∧ Below w.heap.size w w' := by
 have R0 := As0 hr0
 have C0 := As0 hc0
 clear hr0 hc0
 have HB := As0 (Below.refl w.heap.size w)
 have H : (if (l0.length : Int) = a1 then ((edge_total.f k l0).bind fun t192 => (if t192 > 1048576 then (some 6) else (edge_Valid.l0 k a2 a3 a4 l0 (l0.length : Int) 0))) else (some 14)) = some r := h
 clear h
 by_cases c6 : (l0.length : Int) = a1
 rotate_left
 ·rw [if_neg c6] at H
  have c6b0 : ((l0.length : Int) == a1) = false := beq_eq_false_iff_ne.mpr c6
  have c6b1 : ((l0.length : Int) != a1) = true := bne_iff_ne.mpr c6
  obtain rfl := Option.some.inj H
  go_enter Tryz.func61, Tryz.ntmps61
  go_wp2
  go_ret
  exact ⟨oR, BU HB.out⟩
 rw [if_pos c6] at H
 have c6b0 : ((l0.length : Int) == a1) = true := beq_iff_eq.mpr c6
 have c6b1 : ((l0.length : Int) != a1) = false := bne_eq_false_iff_eq.mpr c6
 clear c6
 replace H := Option.bind_eq_some_iff.mp H
 obtain ⟨t192, A70, H⟩ := H
 have A7 := As0 A70
 clear A70
 by_cases c8 : t192 > 1048576
 ·rw [if_pos c8] at H
  have c8b0 := decide_eq_true c8
  clear c8
  obtain rfl := Option.some.inj H
  go_enter Tryz.func61, Tryz.ntmps61
  go_wp2_with (first | ((with_reducible refine Qbk (f := 107) rfl ?_); refine gL (some 21) Tryz.func107 #[.slice A0 l0.length c0] ?_; (with_reducible refine (edge_total.calls k _ _ l0 t192 _ ?side1 ?side2 A7.out).mono ?_); (case side1 => repeat (first | exact R0.out | (with_reducible refine Kd.C_alloc ?_ _) | (with_reducible refine Kd.C_drewN ?_ _) | (with_reducible refine Kd.C_drew ?_))); (case side2 => exact C0.out); rintro e w' ⟨rfl, ⟨nd, rfl⟩⟩; refine ⟨_, rfl, ?_⟩))
  go_ret
  exact ⟨oR, BU HB.out⟩
 rw [if_neg c8] at H
 have c8b0 := decide_eq_false c8
 clear c8
 have H' := As0 H
 clear H
 go_enter Tryz.func61, Tryz.ntmps61
 go_wp2_with (first | ((with_reducible refine Qbk (f := 107) rfl ?_); refine gL (some 21) Tryz.func107 #[.slice A0 l0.length c0] ?_; (with_reducible refine (edge_total.calls k _ _ l0 t192 _ ?side1 ?side2 A7.out).mono ?_); (case side1 => repeat (first | exact R0.out | (with_reducible refine Kd.C_alloc ?_ _) | (with_reducible refine Kd.C_drewN ?_ _) | (with_reducible refine Kd.C_drew ?_))); (case side2 => exact C0.out); rintro e w' ⟨rfl, ⟨nd, rfl⟩⟩; refine ⟨_, rfl, ?_⟩))
 go_loopg [25] k (fun kq v25 w' => ∃ (eZ : Int), v25 = .int .i64 eZ ∧ Qbf (edge_Valid.l0 kq a2 a3 a4 l0 (l0.length : Int) eZ = some r) ∧ Qbf (kq ≤ k) ∧ Qbf (Below w.heap.size w w'))
 case atStart => exact ⟨(0), eR, H', ⟨Nat.le_refl _⟩, ⟨BU HB.out⟩⟩
 case round =>
  clear H'
  obtain ⟨eZ, rfl, HA, HK1, HB⟩ := hrel
  cases gk with
  | zero => exact absurd HA.out (by simp [edge_Valid.l0])
  | succ k1 =>
   have H := HA.out
   clear HA
   simp only [edge_Valid.l0] at H
   by_cases c9 : eZ < (l0.length : Int)
   rotate_left
   ·rw [if_neg c9] at H
    have c9b0 := decide_eq_false c9
    clear c9
    obtain rfl := Option.some.inj H
    go_wp2
    go_ret
    exact ⟨oR, BU HB.out⟩
   rw [if_pos c9] at H
   have c9b0 := decide_eq_true c9
   clear c9
   by_cases c10 : 0 ≤ eZ
   rotate_left
   ·rw [if_neg c10] at H
    exact absurd H (by simp)
   rw [if_pos c10] at H
   have c10b0 := decide_eq_true c10
   clear c10
   by_cases c11 : eZ < (l0.length : Int)
   rotate_left
   ·rw [if_neg c11] at H
    exact absurd H (by simp)
   rw [if_pos c11] at H
   have c11b0 := decide_eq_true c11
   clear c11
   replace H := Option.bind_eq_some_iff.mp H
   obtain ⟨t194, A120, H⟩ := H
   have A12 := As0 A120
   clear A120
   by_cases c13 : t194 = 0
   rotate_left
   ·rw [if_neg c13] at H
    have c13b0 : (t194 == 0) = false := beq_eq_false_iff_ne.mpr c13
    have c13b1 : (t194 != 0) = true := bne_iff_ne.mpr c13
    obtain rfl := Option.some.inj H
    have p193 : 0 ≤ (eZ : Int) := qR
    have q193 : eZ < (l0.length : Int) := qR
    obtain ⟨ad193, A193_0, c193_0, e193, kU, hl193_0, hi193_0⟩ := Qdk R0.out eZ p193 q193
    cases e193
    replace kU := cl HB kU
    have R193_0 := As0 hi193_0
    have C193_0 := As0 hl193_0
    clear hi193_0 hl193_0
    replace p193 := eq_true p193
    replace q193 := eq_true q193
    go_wp2_with (first | ((with_reducible refine Qbk (f := 108) rfl ?_); refine gL (some 33) Tryz.func108 #[.slice A193_0 (Qao l0 eZ).length c193_0, .int .i64 a2, .int .i64 a3, .int .i64 a4] ?_; (with_reducible refine (Qat.calls k1 _ _ (Qao l0 eZ) a2 a3 a4 t194 _ ?side1 ?side2 A12.out).mono ?_); (case side1 => exact CU (Kd.C_below R193_0.out HB.out)); (case side2 => exact C193_0.out); rintro e w15 ⟨rfl, hb⟩; refine ⟨_, rfl, ?_⟩; replace HB := sB HB hb; (try clear hb)))
    go_ret
    exact ⟨oR, BU HB.out⟩
   rw [if_pos c13] at H
   have c13b0 : (t194 == 0) = true := beq_iff_eq.mpr c13
   have c13b1 : (t194 != 0) = false := bne_eq_false_iff_eq.mpr c13
   clear c13
   have H' := As0 H
   clear H
   have p193 : 0 ≤ (eZ : Int) := qR
   have q193 : eZ < (l0.length : Int) := qR
   obtain ⟨ad193, A193_0, c193_0, e193, kU, hl193_0, hi193_0⟩ := Qdk R0.out eZ p193 q193
   cases e193
   replace kU := cl HB kU
   have R193_0 := As0 hi193_0
   have C193_0 := As0 hl193_0
   clear hi193_0 hl193_0
   replace p193 := eq_true p193
   replace q193 := eq_true q193
   go_wp2_with (first | ((with_reducible refine Qbk (f := 108) rfl ?_); refine gL (some 33) Tryz.func108 #[.slice A193_0 (Qao l0 eZ).length c193_0, .int .i64 a2, .int .i64 a3, .int .i64 a4] ?_; (with_reducible refine (Qat.calls k1 _ _ (Qao l0 eZ) a2 a3 a4 t194 _ ?side1 ?side2 A12.out).mono ?_); (case side1 => exact CU (Kd.C_below R193_0.out HB.out)); (case side2 => exact C193_0.out); rintro e w14 ⟨rfl, hb⟩; refine ⟨_, rfl, ?_⟩; replace HB := sB HB hb; (try clear hb)))
   go_roundg k1
   case measure => have := HK1.out; omega
   case rel => exact ⟨(wrap64 (eZ + 1)), eR, H', ⟨by have := HK1.out; omega⟩, ⟨BU HB.out⟩⟩
def Qbc.j0 : Nat → Bool → Int → Int → List (S39) → Int → Int → Int → List (S57) → List (List (S47)) → Option (Int)
 | 0, _, _, _, _, _, _, _, _, _ => none
 | k + 1, x34, x196000, x196001, x196002, x196003, x196004, x196005, x196006, x196007 => if x34 = true then (some 14) else ((edge_Valid.f k x196007 (x196002.length : Int) x196001 x196004 x196005).bind fun t198 => (some t198))
def Qbc.f (k : Nat) (a0_0 a0_1 : Int) (l0_2 : List (S39)) (a0_3 a0_4 a0_5 : Int) (l0_6 : List (S57)) (l0_7 : List (List (S47))) : Option (Int) := (Qa1.f k a0_0 a0_1 l0_2).bind fun jV => (if jV = 0 then ((Qan.f k a0_3 a0_4 a0_5 l0_6).bind fun t197 => (if t197 = 0 then (if (l0_2.length : Int) = (l0_6.length : Int) then (Qbc.j0 k (a0_0 != a0_3) a0_0 a0_1 l0_2 a0_3 a0_4 a0_5 l0_6 l0_7) else (Qbc.j0 k true a0_0 a0_1 l0_2 a0_3 a0_4 a0_5 l0_6 l0_7)) else (some t197))) else (some jV))
theorem Qbc.calls (k : Nat) (a0_0 a0_1 : Int) (A0_2 : Option Addr) (c0_2 : Nat) (l0_2 : List (S39)) (a0_3 a0_4 a0_5 : Int) (A0_6 : Option Addr) (c0_6 : Nat) (l0_6 : List (S57)) (A0_7 : Option Addr) (c0_7 : Nat) (l0_7 : List (List (S47))) (r : Int) (w : World) (hr0_2 : Kd.C k39 w A0_2 l0_2.length l0_2) (hc0_2 : l0_2.length ≤ c0_2) (hr0_6 : Kd.C k57 w A0_6 l0_6.length l0_6) (hc0_6 : l0_6.length ≤ c0_6) (hr0_7 : Kd.C (Kd.slice 47 k47) w A0_7 l0_7.length l0_7) (hc0_7 : l0_7.length ≤ c0_7) (h : Qbc.f k a0_0 a0_1 l0_2 a0_3 a0_4 a0_5 l0_6 l0_7 = some r) :
 Calls Tryz.prog 31 #[.agg #[.int .i64 a0_0, .int .i64 a0_1, .slice A0_2 l0_2.length c0_2, .int .i64 a0_3, .int .i64 a0_4, .int .i64 a0_5, .slice A0_6 l0_6.length c0_6, .slice A0_7 l0_7.length c0_7]] w fun e w' => e = .returned (.int .i64 r) ∧ Below w.heap.size w w' := by
 have hu30 := Tryz.underlying30
 have hu24 := Tryz.underlying24
 have hu27 := Tryz.underlying27
 have R0_2 := As0 hr0_2
 have C0_2 := As0 hc0_2
 clear hr0_2 hc0_2
 have R0_6 := As0 hr0_6
 have C0_6 := As0 hc0_6
 clear hr0_6 hc0_6
 have R0_7 := As0 hr0_7
 have C0_7 := As0 hc0_7
 clear hr0_7 hc0_7
 have HB := As0 (Below.refl w.heap.size w)
 have H : ((Qa1.f k a0_0 a0_1 l0_2).bind fun jV => (if jV = 0 then ((Qan.f k a0_3 a0_4 a0_5 l0_6).bind fun t197 => (if t197 = 0 then (if (l0_2.length : Int) = (l0_6.length : Int) then (Qbc.j0 k (a0_0 != a0_3) a0_0 a0_1 l0_2 a0_3 a0_4 a0_5 l0_6 l0_7) else (Qbc.j0 k true a0_0 a0_1 l0_2 a0_3 a0_4 a0_5 l0_6 l0_7)) else (some t197))) else (some jV))) = some r := h
 clear h
 replace H := Option.bind_eq_some_iff.mp H
 obtain ⟨jV, A20, H⟩ := H
 have A2 := As0 A20
 clear A20
 by_cases c3 : jV = 0
 rotate_left
 ·rw [if_neg c3] at H
  have c3b0 : (jV == 0) = false := beq_eq_false_iff_ne.mpr c3
  have c3b1 : (jV != 0) = true := bne_iff_ne.mpr c3
  obtain rfl := Option.some.inj H
  go_enter Tryz.func31, Tryz.ntmps31
  go_wp2_with (first | ((with_reducible refine gD 1 ?_); refine bY HB.out ?_; intro gb195 w24 hg hb fB GW195 HB; clear hb hg; have q25_ := cN8 fB.out) | ((with_reducible refine Qbk (f := 59) rfl ?_); refine gL (some 7) Tryz.func59 #[.agg #[.int .i64 a0_0, .int .i64 a0_1, .slice A0_2 l0_2.length c0_2]] ?_; (with_reducible refine (Qa1.calls k a0_0 a0_1 _ _ l0_2 jV _ ?side1 ?side2 A2.out).mono ?_); (case side1 => exact CU (Kd.C_below R0_2.out HB.out)); (case side2 => exact C0_2.out); rintro e w26 ⟨rfl, hb⟩; refine ⟨_, rfl, ?_⟩; replace fB := kB fB hb; replace HB := sB HB hb; (try clear hb)))
  go_ret
  exact ⟨oR, BU HB.out⟩
 rw [if_pos c3] at H
 have c3b0 : (jV == 0) = true := beq_iff_eq.mpr c3
 have c3b1 : (jV != 0) = false := bne_eq_false_iff_eq.mpr c3
 clear c3
 replace H := Option.bind_eq_some_iff.mp H
 obtain ⟨t197, A40, H⟩ := H
 have A4 := As0 A40
 clear A40
 by_cases c5 : t197 = 0
 rotate_left
 ·rw [if_neg c5] at H
  have c5b0 : (t197 == 0) = false := beq_eq_false_iff_ne.mpr c5
  have c5b1 : (t197 != 0) = true := bne_iff_ne.mpr c5
  obtain rfl := Option.some.inj H
  go_enter Tryz.func31, Tryz.ntmps31
  go_wp2_with (first | ((with_reducible refine gD 1 ?_); refine bY HB.out ?_; intro gb195 w19 hg hb fB GW195 HB; clear hb hg; have q20_ := cN8 fB.out) | ((with_reducible refine Qbk (f := 59) rfl ?_); refine gL (some 7) Tryz.func59 #[.agg #[.int .i64 a0_0, .int .i64 a0_1, .slice A0_2 l0_2.length c0_2]] ?_; (with_reducible refine (Qa1.calls k a0_0 a0_1 _ _ l0_2 jV _ ?side1 ?side2 A2.out).mono ?_); (case side1 => exact CU (Kd.C_below R0_2.out HB.out)); (case side2 => exact C0_2.out); rintro e w21 ⟨rfl, hb⟩; refine ⟨_, rfl, ?_⟩; replace fB := kB fB hb; replace HB := sB HB hb; (try clear hb); have q22_ := cN8 fB.out) | ((with_reducible refine Qbk (f := 60) rfl ?_); refine gL (some 13) Tryz.func60 #[.agg #[.int .i64 a0_3, .int .i64 a0_4, .int .i64 a0_5, .slice A0_6 l0_6.length c0_6]] ?_; (with_reducible refine (Qan.calls k a0_3 a0_4 a0_5 _ _ l0_6 t197 _ ?side1 ?side2 A4.out).mono ?_); (case side1 => exact CU (Kd.C_below R0_6.out HB.out)); (case side2 => exact C0_6.out); rintro e w23 ⟨rfl, hb⟩; refine ⟨_, rfl, ?_⟩; replace fB := kB fB hb; replace HB := sB HB hb; (try clear hb)))
  go_ret
  exact ⟨oR, BU HB.out⟩
 rw [if_pos c5] at H
 have c5b0 : (t197 == 0) = true := beq_iff_eq.mpr c5
 have c5b1 : (t197 != 0) = false := bne_eq_false_iff_eq.mpr c5
 clear c5
 have C6 := As0 H
 clear H
 go_enter Tryz.func31, Tryz.ntmps31
 go_upto_region 7 with (first | ((with_reducible refine gD 1 ?_); refine bY HB.out ?_; intro gb195 w7 hg hb fB GW195 HB; clear hb hg; have q8_ := cN8 fB.out) | ((with_reducible refine Qbk (f := 59) rfl ?_); refine gL (some 7) Tryz.func59 #[.agg #[.int .i64 a0_0, .int .i64 a0_1, .slice A0_2 l0_2.length c0_2]] ?_; (with_reducible refine (Qa1.calls k a0_0 a0_1 _ _ l0_2 jV _ ?side1 ?side2 A2.out).mono ?_); (case side1 => exact CU (Kd.C_below R0_2.out HB.out)); (case side2 => exact C0_2.out); rintro e w9 ⟨rfl, hb⟩; refine ⟨_, rfl, ?_⟩; replace fB := kB fB hb; replace HB := sB HB hb; (try clear hb); have q10_ := cN8 fB.out) | ((with_reducible refine Qbk (f := 60) rfl ?_); refine gL (some 13) Tryz.func60 #[.agg #[.int .i64 a0_3, .int .i64 a0_4, .int .i64 a0_5, .slice A0_6 l0_6.length c0_6]] ?_; (with_reducible refine (Qan.calls k a0_3 a0_4 a0_5 _ _ l0_6 t197 _ ?side1 ?side2 A4.out).mono ?_); (case side1 => exact CU (Kd.C_below R0_6.out HB.out)); (case side2 => exact C0_6.out); rintro e w11 ⟨rfl, hb⟩; refine ⟨_, rfl, ?_⟩; replace fB := kB fB hb; replace HB := sB HB hb; (try clear hb)))
 (try simp only [Act.put, sL1, sL2, sL3])
 go_cut [34] (fun v34 wc => ∃ (kq : Nat) (x34_5 : Bool), v34 = .bool x34_5 ∧ Qbf (Qbc.j0 kq x34_5 a0_0 a0_1 l0_2 a0_3 a0_4 a0_5 l0_6 l0_7 = some r) ∧ Qbf (kq ≤ k) ∧ Qbf (wc.heap[gb195]? = some (.cells #[.int .i64 a0_0, .int .i64 a0_1, (.slice A0_2 l0_2.length c0_2), .int .i64 a0_3, .int .i64 a0_4, .int .i64 a0_5, (.slice A0_6 l0_6.length c0_6), (.slice A0_7 l0_7.length c0_7)] 30 (0, 0))) ∧ Qbf (Below w.heap.size w wc))
 case first =>
  have H := C6.out
  clear C6
  by_cases c12 : (l0_2.length : Int) = (l0_6.length : Int)
  rotate_left
  ·rw [if_neg c12] at H
   have c12b0 : ((l0_2.length : Int) == (l0_6.length : Int)) = false := beq_eq_false_iff_ne.mpr c12
   have c12b1 : ((l0_2.length : Int) != (l0_6.length : Int)) = true := bne_iff_ne.mpr c12
   have c12b2 : (l0_2.length == l0_6.length) = false := by first | simpa using c12 | (simp at c12 ⊢; omega)
   (first | rw [c12b0] | (simp only [Qbo, Qbp]; rw [c12b0]) | skip)
   have H' := As0 H
   clear H
   have q14_ := cN8 fB.out
   go_wp2
   go_meet
   case rel => exact ⟨_, (true), eR, H', ⟨by first | omega | exact Nat.le_refl _⟩, ⟨bU fB.out⟩, ⟨BU HB.out⟩⟩
  rw [if_pos c12] at H
  have c12b0 : ((l0_2.length : Int) == (l0_6.length : Int)) = true := beq_iff_eq.mpr c12
  have c12b1 : ((l0_2.length : Int) != (l0_6.length : Int)) = false := bne_eq_false_iff_eq.mpr c12
  have c12b2 : (l0_2.length == l0_6.length) = true := by first | simpa using c12 | (simp at c12 ⊢; omega)
  clear c12
  (first | rw [c12b0] | (simp only [Qbo, Qbp]; rw [c12b0]) | skip)
  have H' := As0 H
  clear H
  have q13_ := cN8 fB.out
  go_wp2
  go_meet
  case rel => exact ⟨_, ((a0_0 != a0_3)), eR, H', ⟨by first | omega | exact Nat.le_refl _⟩, ⟨bU fB.out⟩, ⟨BU HB.out⟩⟩
 case rest =>
  clear C6
  obtain ⟨kq, x34_5, rfl, HA, HJ5, fB, HB⟩ := hcut
  cases kq with
  | zero => exact absurd HA.out (by simp [Qbc.j0])
  | succ kj5 =>
   have H := HA.out
   clear HA
   simp only [Qbc.j0] at H
   by_cases c15 : x34_5 = true
   ·subst c15
    rw [if_pos rfl] at H
    obtain rfl := Option.some.inj H
    go_wp2
    go_ret
    exact ⟨oR, BU HB.out⟩
   replace c15 := Bool.eq_false_iff.mpr c15
   subst c15
   rw [if_neg bF] at H
   replace H := Option.bind_eq_some_iff.mp H
   obtain ⟨t198, A160, H⟩ := H
   have A16 := As0 A160
   clear A160
   obtain rfl := Option.some.inj H
   have q17_ := cN8 fB.out
   go_wp2_with (first | ((with_reducible refine Qbk (f := 61) rfl ?_); refine gL (some 50) Tryz.func61 #[.slice A0_7 l0_7.length c0_7, .int .i64 (l0_2.length : Int), .int .i64 a0_1, .int .i64 a0_4, .int .i64 a0_5] ?_; (with_reducible refine (edge_Valid.calls kj5 _ _ l0_7 (l0_2.length : Int) a0_1 a0_4 a0_5 t198 _ ?side1 ?side2 A16.out).mono ?_); (case side1 => exact CU (Kd.C_below R0_7.out HB.out)); (case side2 => exact C0_7.out); rintro e w18 ⟨rfl, hb⟩; refine ⟨_, rfl, ?_⟩; replace fB := kB fB hb; replace HB := sB HB hb; (try clear hb)))
   go_ret
   exact ⟨oR, BU HB.out⟩
def edge_Initial.f (a0_0 a0_1 a1 : Int) : Option (Bool) := if a0_0 < a1 then ((location_Slot.f a0_0).bind fun t257 => (some (a0_1 == t257))) else ((Qaw.f a0_1).bind fun t258 => (if t258 = true then ((Qbd.f a0_1).bind fun t259 => (some (decide (t259 ≥ a1)))) else (some true)))
theorem edge_Initial.calls (a0_0 a0_1 a1 : Int) (r : Bool) (w : World) (h : edge_Initial.f a0_0 a0_1 a1 = some r) :
 Calls Tryz.prog 109 #[.agg #[.int .i64 a0_0, .int .i64 a0_1], .int .i64 a1] w fun e w' => e = .returned (.bool r) ∧ Below w.heap.size w w' := by
 have hu47 := Tryz.underlying47
 have HB := As0 (Below.refl w.heap.size w)
 have H : (if a0_0 < a1 then ((location_Slot.f a0_0).bind fun t257 => (some (a0_1 == t257))) else ((Qaw.f a0_1).bind fun t258 => (if t258 = true then ((Qbd.f a0_1).bind fun t259 => (some (decide (t259 ≥ a1)))) else (some true)))) = some r := h
 clear h
 by_cases c3 : a0_0 < a1
 ·rw [if_pos c3] at H
  have c3b0 := decide_eq_true c3
  clear c3
  replace H := Option.bind_eq_some_iff.mp H
  obtain ⟨t257, A40, H⟩ := H
  have A4 := As0 A40
  clear A40
  obtain rfl := Option.some.inj H
  go_enter Tryz.func109, Tryz.ntmps109
  go_wp2_with (first | ((with_reducible refine gD 2 ?_); refine bY HB.out ?_; intro gb256 w5 hg hb iN GW256 HB; clear hb hg; have q6_ := cN2 iN.out) | (go_at_call 151; (with_reducible refine (location_Slot.calls a0_0 t257 _ A4.out).mono ?_); rintro e w' ⟨rfl, ⟨nd, rfl⟩⟩; (try first | exact ⟨rfl, _, World.drewN_drewN _ _ _⟩ | exact ⟨rfl, _, Eq.trans (World.drewN_drewN _ _ _) (congrArg (World.drewN _) (Nat.add_assoc _ _ _))⟩)))
  repeat (go_quiet (first | ((with_reducible refine gD 2 ?_); refine bY HB.out ?_; intro gb256 w5 hg hb iN GW256 HB; clear hb hg; have q6_ := cN2 iN.out) | (go_at_call 151; (with_reducible refine (location_Slot.calls a0_0 t257 _ A4.out).mono ?_); rintro e w' ⟨rfl, ⟨nd, rfl⟩⟩; (try first | exact ⟨rfl, _, World.drewN_drewN _ _ _⟩ | exact ⟨rfl, _, Eq.trans (World.drewN_drewN _ _ _) (congrArg (World.drewN _) (Nat.add_assoc _ _ _))⟩))); try go_wp2_with (first | ((with_reducible refine gD 2 ?_); refine bY HB.out ?_; intro gb256 w5 hg hb iN GW256 HB; clear hb hg; have q6_ := cN2 iN.out) | (go_at_call 151; (with_reducible refine (location_Slot.calls a0_0 t257 _ A4.out).mono ?_); rintro e w' ⟨rfl, ⟨nd, rfl⟩⟩; (try first | exact ⟨rfl, _, World.drewN_drewN _ _ _⟩ | exact ⟨rfl, _, Eq.trans (World.drewN_drewN _ _ _) (congrArg (World.drewN _) (Nat.add_assoc _ _ _))⟩))))
  go_ret
  exact ⟨oR, BU HB.out⟩
 rw [if_neg c3] at H
 have c3b0 := decide_eq_false c3
 clear c3
 replace H := Option.bind_eq_some_iff.mp H
 obtain ⟨t258, A70, H⟩ := H
 have A7 := As0 A70
 clear A70
 by_cases c8 : t258 = true
 rotate_left
 ·replace c8 := Bool.eq_false_iff.mpr c8
  subst c8
  rw [if_neg bF] at H
  obtain rfl := Option.some.inj H
  go_enter Tryz.func109, Tryz.ntmps109
  go_wp2_with (first | ((with_reducible refine gD 2 ?_); refine bY HB.out ?_; intro gb256 w12 hg hb iN GW256 HB; clear hb hg; have q13_ := cN2 iN.out) | (go_at_call 135; (with_reducible refine (Qaw.calls a0_1 false _ A7.out).mono ?_); rintro e w' ⟨rfl, ⟨nd, rfl⟩⟩; (try first | exact ⟨rfl, _, World.drewN_drewN _ _ _⟩ | exact ⟨rfl, _, Eq.trans (World.drewN_drewN _ _ _) (congrArg (World.drewN _) (Nat.add_assoc _ _ _))⟩)))
  repeat (go_quiet (first | ((with_reducible refine gD 2 ?_); refine bY HB.out ?_; intro gb256 w12 hg hb iN GW256 HB; clear hb hg; have q13_ := cN2 iN.out) | (go_at_call 135; (with_reducible refine (Qaw.calls a0_1 false _ A7.out).mono ?_); rintro e w' ⟨rfl, ⟨nd, rfl⟩⟩; (try first | exact ⟨rfl, _, World.drewN_drewN _ _ _⟩ | exact ⟨rfl, _, Eq.trans (World.drewN_drewN _ _ _) (congrArg (World.drewN _) (Nat.add_assoc _ _ _))⟩))); try go_wp2_with (first | ((with_reducible refine gD 2 ?_); refine bY HB.out ?_; intro gb256 w12 hg hb iN GW256 HB; clear hb hg; have q13_ := cN2 iN.out) | (go_at_call 135; (with_reducible refine (Qaw.calls a0_1 false _ A7.out).mono ?_); rintro e w' ⟨rfl, ⟨nd, rfl⟩⟩; (try first | exact ⟨rfl, _, World.drewN_drewN _ _ _⟩ | exact ⟨rfl, _, Eq.trans (World.drewN_drewN _ _ _) (congrArg (World.drewN _) (Nat.add_assoc _ _ _))⟩))))
  go_ret
  exact ⟨oR, BU HB.out⟩
 subst c8
 rw [if_pos rfl] at H
 replace H := Option.bind_eq_some_iff.mp H
 obtain ⟨t259, A90, H⟩ := H
 have A9 := As0 A90
 clear A90
 obtain rfl := Option.some.inj H
 go_enter Tryz.func109, Tryz.ntmps109
 go_wp2_with (first | ((with_reducible refine gD 2 ?_); refine bY HB.out ?_; intro gb256 w10 hg hb iN GW256 HB; clear hb hg; have q11_ := cN2 iN.out) | (go_at_call 135; (with_reducible refine (Qaw.calls a0_1 true _ A7.out).mono ?_); rintro e w' ⟨rfl, ⟨nd, rfl⟩⟩; (try first | exact ⟨rfl, _, World.drewN_drewN _ _ _⟩ | exact ⟨rfl, _, Eq.trans (World.drewN_drewN _ _ _) (congrArg (World.drewN _) (Nat.add_assoc _ _ _))⟩)) | (go_at_call 152; (with_reducible refine (Qbd.calls a0_1 t259 _ A9.out).mono ?_); rintro e w' ⟨rfl, ⟨nd, rfl⟩⟩; (try first | exact ⟨rfl, _, World.drewN_drewN _ _ _⟩ | exact ⟨rfl, _, Eq.trans (World.drewN_drewN _ _ _) (congrArg (World.drewN _) (Nat.add_assoc _ _ _))⟩)))
 repeat (go_quiet (first | ((with_reducible refine gD 2 ?_); refine bY HB.out ?_; intro gb256 w10 hg hb iN GW256 HB; clear hb hg; have q11_ := cN2 iN.out) | (go_at_call 135; (with_reducible refine (Qaw.calls a0_1 true _ A7.out).mono ?_); rintro e w' ⟨rfl, ⟨nd, rfl⟩⟩; (try first | exact ⟨rfl, _, World.drewN_drewN _ _ _⟩ | exact ⟨rfl, _, Eq.trans (World.drewN_drewN _ _ _) (congrArg (World.drewN _) (Nat.add_assoc _ _ _))⟩)) | (go_at_call 152; (with_reducible refine (Qbd.calls a0_1 t259 _ A9.out).mono ?_); rintro e w' ⟨rfl, ⟨nd, rfl⟩⟩; (try first | exact ⟨rfl, _, World.drewN_drewN _ _ _⟩ | exact ⟨rfl, _, Eq.trans (World.drewN_drewN _ _ _) (congrArg (World.drewN _) (Nat.add_assoc _ _ _))⟩))); try go_wp2_with (first | ((with_reducible refine gD 2 ?_); refine bY HB.out ?_; intro gb256 w10 hg hb iN GW256 HB; clear hb hg; have q11_ := cN2 iN.out) | (go_at_call 135; (with_reducible refine (Qaw.calls a0_1 true _ A7.out).mono ?_); rintro e w' ⟨rfl, ⟨nd, rfl⟩⟩; (try first | exact ⟨rfl, _, World.drewN_drewN _ _ _⟩ | exact ⟨rfl, _, Eq.trans (World.drewN_drewN _ _ _) (congrArg (World.drewN _) (Nat.add_assoc _ _ _))⟩)) | (go_at_call 152; (with_reducible refine (Qbd.calls a0_1 t259 _ A9.out).mono ?_); rintro e w' ⟨rfl, ⟨nd, rfl⟩⟩; (try first | exact ⟨rfl, _, World.drewN_drewN _ _ _⟩ | exact ⟨rfl, _, Eq.trans (World.drewN_drewN _ _ _) (congrArg (World.drewN _) (Nat.add_assoc _ _ _))⟩))))
 go_ret
 exact ⟨oR, BU HB.out⟩
def edge_Entry.l0 : Nat → Int → List (S47) → Int → Int → Option (Int × Int × Int)
 | 0, _, _, _, _ => none
 | k + 1, x1, x8, x9, iY => if iY < x9 then (if 0 ≤ iY then (if iY < (x8.length : Int) then ((edge_Initial.f ((Qaa x8 iY).f0) ((Qaa x8 iY).f1) x1).bind fun t263 => (if t263 = true then (edge_Entry.l0 k x1 x8 x9 (wrap64 (iY + 1))) else (some ((Qaa x8 iY).f0, (Qaa x8 iY).f1, 23)))) else (none)) else (none)) else (some (0, 0, 0))
def edge_Entry.f (k : Nat) (l0 : List (S47)) (a1 : Int) : Option (Int × Int × Int) := edge_Entry.l0 k a1 l0 (l0.length : Int) 0
theorem edge_Entry.calls (k : Nat) (A0 : Option Addr) (c0 : Nat) (l0 : List (S47)) (a1 r1 r2 r3 : Int) (w : World) (hr0 : Kd.C k47 w A0 l0.length l0) (hc0 : l0.length ≤ c0) (h : edge_Entry.f k l0 a1 = some (r1, r2, r3)) :
 Calls Tryz.prog 62 #[.slice A0 l0.length c0, .int .i64 a1] w fun e w' => e = .returned (.tuple #[.agg #[.int .i64 r1, .int .i64 r2], .int .i64 r3]) ∧ Below w.heap.size w w' := by
 have hu47 := Tryz.underlying47
 have R0 := As0 hr0
 have C0 := As0 hc0
 clear hr0 hc0
 have HB := As0 (Below.refl w.heap.size w)
 have H : (edge_Entry.l0 k a1 l0 (l0.length : Int) 0) = some (r1, r2, r3) := h
 clear h
 have H' := As0 H
 clear H
 go_enter Tryz.func62, Tryz.ntmps62
 go_wp2_with (first | ((with_reducible refine gD 4 ?_); refine bY HB.out ?_; intro gb260 w3 hg hb hJ GW260 HB; clear hb hg))
 go_loopg [10] k (fun kq v10 w' => ∃ (dD : Int) (x261000_1 : Int) (x261001_1 : Int), v10 = .int .i64 dD ∧ Qbf (edge_Entry.l0 kq a1 l0 (l0.length : Int) dD = some (r1, r2, r3)) ∧ Qbf (kq ≤ k) ∧ Qbf (w'.heap[gb260]? = some (.cells #[.int .i64 x261000_1, .int .i64 x261001_1] 47 (0, 0))) ∧ Qbf (Below w.heap.size w w'))
 case atStart => exact ⟨(0), (0), (0), eR, H', ⟨Nat.le_refl _⟩, ⟨bU hJ.out⟩, ⟨BU HB.out⟩⟩
 case round =>
  clear H'
  obtain ⟨dD, x261000_1, x261001_1, rfl, HA, HK1, hJ, HB⟩ := hrel
  cases gk with
  | zero => exact absurd HA.out (by simp [edge_Entry.l0])
  | succ k1 =>
   have H := HA.out
   clear HA
   simp only [edge_Entry.l0] at H
   by_cases c4 : dD < (l0.length : Int)
   rotate_left
   ·rw [if_neg c4] at H
    have c4b0 := decide_eq_false c4
    clear c4
    simp only [Option.some.injEq, Prod.mk.injEq] at H
    obtain ⟨rfl, rfl, rfl⟩ := H
    have q19_ := cN2 hJ.out
    go_wp2
    refine bodyPost_ret (Qcu rfl _ _ gb260 47 #[.int .i64 0, .int .i64 0] (0, 0) _ rfl (kV hJ) Tryz.underlying47 rfl (by kernel_rfl)) rfl ?_
    exact ⟨oR, BU HB.out⟩
   rw [if_pos c4] at H
   have c4b0 := decide_eq_true c4
   clear c4
   by_cases c5 : 0 ≤ dD
   rotate_left
   ·rw [if_neg c5] at H
    exact absurd H (by simp)
   rw [if_pos c5] at H
   have c5b0 := decide_eq_true c5
   clear c5
   by_cases c6 : dD < (l0.length : Int)
   rotate_left
   ·rw [if_neg c6] at H
    exact absurd H (by simp)
   rw [if_pos c6] at H
   have c6b0 := decide_eq_true c6
   clear c6
   replace H := Option.bind_eq_some_iff.mp H
   obtain ⟨t263, A70, H⟩ := H
   have A7 := As0 A70
   clear A70
   by_cases c8 : t263 = true
   rotate_left
   ·replace c8 := Bool.eq_false_iff.mpr c8
    subst c8
    rw [if_neg bF] at H
    simp only [Option.some.injEq, Prod.mk.injEq] at H
    obtain ⟨rfl, rfl, rfl⟩ := H
    have p261 : 0 ≤ (dD : Int) := qR
    have q261 : dD < (l0.length : Int) := qR
    obtain ⟨ad261, e261, kT, kS⟩ := Qcc R0.out dD p261 q261
    cases e261
    replace kT := cl HB kT
    replace kS := cl HB kS
    replace p261 := eq_true p261
    replace q261 := eq_true q261
    go_wp2_with (first | ((with_reducible refine gD 7 ?_); refine bY HB.out ?_; intro gb262 w13 hg hb K262 GW262 HB; have N260_262 := pL hg hJ; have N262_260 := pR hg hJ; replace hJ := kB hJ hb; clear hb hg; have q15_ := cN2 K262.out) | ((with_reducible refine Qbk (f := 109) rfl ?_); refine gL (some 16) Tryz.func109 #[.agg #[.int .i64 ((Qaa l0 dD).f0), .int .i64 ((Qaa l0 dD).f1)], .int .i64 a1] ?_; (with_reducible refine (edge_Initial.calls ((Qaa l0 dD).f0) ((Qaa l0 dD).f1) a1 false _ A7.out).mono ?_); rintro e w16 ⟨rfl, hb⟩; refine ⟨_, rfl, ?_⟩; replace hJ := kF hJ hb; replace K262 := kP (.cells #[.int .i64 ((Qaa l0 dD).f0), .int .i64 ((Qaa l0 dD).f1)] 47 (0, 0)) K262 hb; replace HB := sB HB hb; (try clear hb); have q17_ := cN2 K262.out; have q18_ := cN2 hJ.out))
    refine bodyPost_ret (Qcu rfl _ _ gb260 47 #[.int .i64 ((Qaa l0 dD).f0), .int .i64 ((Qaa l0 dD).f1)] (0, 0) _ rfl (kV hJ) Tryz.underlying47 rfl (by kernel_rfl)) rfl ?_
    exact ⟨oR, BU HB.out⟩
   subst c8
   rw [if_pos rfl] at H
   have H' := As0 H
   clear H
   have p261 : 0 ≤ (dD : Int) := qR
   have q261 : dD < (l0.length : Int) := qR
   obtain ⟨ad261, e261, kT, kS⟩ := Qcc R0.out dD p261 q261
   cases e261
   replace kT := cl HB kT
   replace kS := cl HB kS
   replace p261 := eq_true p261
   replace q261 := eq_true q261
   go_wp2_with (first | ((with_reducible refine gD 7 ?_); refine bY HB.out ?_; intro gb262 w9 hg hb K262 GW262 HB; have N260_262 := pL hg hJ; have N262_260 := pR hg hJ; replace hJ := kB hJ hb; clear hb hg; have q11_ := cN2 K262.out) | ((with_reducible refine Qbk (f := 109) rfl ?_); refine gL (some 16) Tryz.func109 #[.agg #[.int .i64 ((Qaa l0 dD).f0), .int .i64 ((Qaa l0 dD).f1)], .int .i64 a1] ?_; (with_reducible refine (edge_Initial.calls ((Qaa l0 dD).f0) ((Qaa l0 dD).f1) a1 true _ A7.out).mono ?_); rintro e w12 ⟨rfl, hb⟩; refine ⟨_, rfl, ?_⟩; replace hJ := kF hJ hb; replace K262 := kP (.cells #[.int .i64 ((Qaa l0 dD).f0), .int .i64 ((Qaa l0 dD).f1)] 47 (0, 0)) K262 hb; replace HB := sB HB hb; (try clear hb)))
   go_roundg k1
   case measure => have := HK1.out; omega
   case rel => exact ⟨(wrap64 (dD + 1)), (x261000_1), (x261001_1), eR, H', ⟨by have := HK1.out; omega⟩, ⟨bU hJ.out⟩, ⟨BU HB.out⟩⟩
def Qax.l0 : Nat → List (List (S47)) → Int → Int → Int → Int → List (S39) → Int → Int → Int → List (S57) → List (List (S47)) → Int → Int → Int → Int → Int → Int → Int → Option (Int × Int × Int × Int × Int × Int × Int)
 | 0, _, _, _, _, _, _, _, _, _, _, _, _, _, _, _, _, _, _ => none
 | k + 1, x14, x15, x16, x265000, x265001, x265002, x265003, x265004, x265005, x265006, x265007, x268000, x268001, x268002, x268003, x268004, x268005, x268006 => if x16 < x15 then (if 0 ≤ x16 then (if x16 < (x14.length : Int) then (Qax.l0 k x14 x15 (wrap64 (x16 + 1)) x265000 x265001 x265002 x265003 x265004 x265005 x265006 x265007 x268000 x268001 x268002 x268003 x268004 x268005 (mx x268006 ((Qao x14 x16).length : Int))) else (none)) else (none)) else (if 0 < (x265007.length : Int) then ((edge_Entry.f k (Qao x265007 0) x265000).bind fun bt270 => (some (bt270.2.2, x268001, x268002, x268003, x268004, x268005, x268006))) else (none))
def Qax.f (k : Nat) (a0_0 a0_1 : Int) (l0_2 : List (S39)) (a0_3 a0_4 a0_5 : Int) (l0_6 : List (S57)) (l0_7 : List (List (S47))) : Option (Int × Int × Int × Int × Int × Int × Int) := if 0 < (l0_7.length : Int) then (Qax.l0 k l0_7 (l0_7.length : Int) 0 a0_0 a0_1 l0_2 a0_3 a0_4 a0_5 l0_6 l0_7 0 0 0 0 0 (wrap64 (1 + ((Qao l0_7 0).length : Int))) 0) else (none)
def Qax.T7 : Bool × List (List Nat × List Nat) := (true, [([], []), ([0], [0]), ([1], [1]), ([2], [2]), ([], []), ([4], [4]), ([5], [5]), ([3, 6], [3, 6]), ([7], [7]), ([8], [8]), ([8], [8]), ([0, 1, 2, 3, 4, 5, 6, 7, 8, 9, 10], []), ([11, 10, 7, 0, 1, 2, 3, 4, 5, 6, 7, 8, 9, 10], [10, 11])])
def Qax.B7 : List Nat := [0, 1, 3, 7, 0, 16, 48, 127, 255, 511, 511, 2047, 4095]
theorem Qax.tab7 : rtab .any (opsOf Tryz.f32 7) = Qax.T7 := by kernel_rfl
theorem Qax.bits7 : Qco Qax.T7.2 Qax.B7 = true := by kernel_rfl
theorem Qax.calls (k : Nat) (a0_0 a0_1 : Int) (A0_2 : Option Addr) (c0_2 : Nat) (l0_2 : List (S39)) (a0_3 a0_4 a0_5 : Int) (A0_6 : Option Addr) (c0_6 : Nat) (l0_6 : List (S57)) (A0_7 : Option Addr) (c0_7 : Nat) (l0_7 : List (List (S47))) (r1 r2 r3 r4 r5 r6 r7 : Int) (w : World) (hr0_2 : Kd.C k39 w A0_2 l0_2.length l0_2) (hc0_2 : l0_2.length ≤ c0_2) (hr0_6 : Kd.C k57 w A0_6 l0_6.length l0_6) (hc0_6 : l0_6.length ≤ c0_6) (hr0_7 : Kd.C (Kd.slice 47 k47) w A0_7 l0_7.length l0_7) (hc0_7 : l0_7.length ≤ c0_7) (h : Qax.f k a0_0 a0_1 l0_2 a0_3 a0_4 a0_5 l0_6 l0_7 = some (r1, r2, r3, r4, r5, r6, r7)) :
 Calls Tryz.prog 32 #[.agg #[.int .i64 a0_0, .int .i64 a0_1, .slice A0_2 l0_2.length c0_2, .int .i64 a0_3, .int .i64 a0_4, .int .i64 a0_5, .slice A0_6 l0_6.length c0_6, .slice A0_7 l0_7.length c0_7]] w fun e w' => e = .returned (.agg #[.int .i64 r1, .int .i64 r2, .int .i64 r3, .int .i64 r4, .int .i64 r5, .int .i64 r6, .int .i64 r7]) ∧ Below w.heap.size w w' := by
 have hu30 := Tryz.underlying30
 have hu51 := Tryz.underlying51
 have R0_2 := As0 hr0_2
 have C0_2 := As0 hc0_2
 clear hr0_2 hc0_2
 have R0_6 := As0 hr0_6
 have C0_6 := As0 hc0_6
 clear hr0_6 hc0_6
 have R0_7 := As0 hr0_7
 have C0_7 := As0 hc0_7
 clear hr0_7 hc0_7
 have HB := As0 (Below.refl w.heap.size w)
 have H : (if 0 < (l0_7.length : Int) then (Qax.l0 k l0_7 (l0_7.length : Int) 0 a0_0 a0_1 l0_2 a0_3 a0_4 a0_5 l0_6 l0_7 0 0 0 0 0 (wrap64 (1 + ((Qao l0_7 0).length : Int))) 0) else (none)) = some (r1, r2, r3, r4, r5, r6, r7) := h
 clear h
 by_cases c2 : 0 < (l0_7.length : Int)
 rotate_left
 ·rw [if_neg c2] at H
  exact absurd H (by simp)
 rw [if_pos c2] at H
 have c2b0 := decide_eq_true c2
 have c2b1 : decide (0 < l0_7.length) = true := decide_eq_true (by omega)
 clear c2
 have H' := As0 H
 clear H
 go_enter Tryz.func32, Tryz.ntmps32
 go_wp2_with (first | ((with_reducible refine gD 1 ?_); refine bY HB.out ?_; intro lZ w3 hg hb dV GW264 HB; clear hb hg) | ((with_reducible refine gD 2 ?_); refine bY HB.out ?_; intro gb265 w4 hg hb jI GW265 HB; have N264_265 := pL hg dV; have N265_264 := pR hg dV; replace dV := kB dV hb; clear hb hg; have q6_ := cN8 dV.out; have p266 : 0 ≤ (0 : Int) := (by omega); have q266 : 0 < (l0_7.length : Int) := qR; obtain ⟨ad266, A266_0, c266_0, e266, hx266_0, hl266_0, hi266_0⟩ := Qdk R0_7.out 0 p266 q266; cases e266; have qi266 : (0 < l0_7.length) = True := eq_true (by omega); (try rw [show ((0 : Int)).toNat = 0 from rfl] at hx266_0); (try rw [Addr.add_zero'] at hx266_0); replace hx266_0 := cl HB hx266_0; have R266_0 := As0 hi266_0; have C266_0 := As0 hl266_0; clear hi266_0 hl266_0; replace p266 := eq_true p266; replace q266 := eq_true q266) | ((with_reducible refine gD 3 ?_); refine bY HB.out ?_; intro fK w7 hg hb dP GW267 HB; have eO := pL hg dV; have N267_264 := pR hg dV; replace dV := kB dV hb; have N265_267 := pL hg jI; have N267_265 := pR hg jI; replace jI := kB jI hb; clear hb hg; have q10_ := cN7 dP.out; have q11_ := cN8 dV.out))
 go_loopg [16] k (fun kq v16 w' => ∃ (fQ : Int) (eQ : Int), v16 = .int .i64 fQ ∧ Qbf (Qax.l0 kq l0_7 (l0_7.length : Int) fQ a0_0 a0_1 l0_2 a0_3 a0_4 a0_5 l0_6 l0_7 0 0 0 0 0 (wrap64 (1 + ((Qao l0_7 0).length : Int))) eQ = some (r1, r2, r3, r4, r5, r6, r7)) ∧ Qbf (kq ≤ k) ∧ Qbf (w'.heap[lZ]? = some (.cells #[.int .i64 a0_0, .int .i64 a0_1, (.slice A0_2 l0_2.length c0_2), .int .i64 a0_3, .int .i64 a0_4, .int .i64 a0_5, (.slice A0_6 l0_6.length c0_6), (.slice (some ad266) l0_7.length c0_7)] 30 (0, 0))) ∧ Qbf (w'.heap[gb265]? = some (.cells #[.int .i64 0, .int .i64 0, .int .i64 0, .int .i64 0, .int .i64 0, .int .i64 0, .int .i64 0] 51 (0, 0))) ∧ Qbf (w'.heap[fK]? = some (.cells #[.int .i64 0, .int .i64 0, .int .i64 0, .int .i64 0, .int .i64 0, .int .i64 (wrap64 (1 + ((Qao l0_7 0).length : Int))), .int .i64 eQ] 51 (0, 0))) ∧ Qbf (Below w.heap.size w w'))
 case atStart => exact ⟨(0), (0), eR, H', ⟨Nat.le_refl _⟩, ⟨kV dV⟩, ⟨kV jI⟩, ⟨kV dP⟩, ⟨BU HB.out⟩⟩
 case round =>
  clear H'
  obtain ⟨fQ, eQ, rfl, HA, HK1, dV, jI, dP, HB⟩ := hrel
  cases gk with
  | zero => exact absurd HA.out (by simp [Qax.l0])
  | succ k1 =>
   have H := HA.out
   clear HA
   simp only [Qax.l0] at H
   by_cases c12 : fQ < (l0_7.length : Int)
   ·rw [if_pos c12] at H
    have c12b0 := decide_eq_true c12
    clear c12
    by_cases c13 : 0 ≤ fQ
    rotate_left
    ·rw [if_neg c13] at H
     exact absurd H (by simp)
    rw [if_pos c13] at H
    have c13b0 := decide_eq_true c13
    clear c13
    by_cases c14 : fQ < (l0_7.length : Int)
    rotate_left
    ·rw [if_neg c14] at H
     exact absurd H (by simp)
    rw [if_pos c14] at H
    have c14b0 := decide_eq_true c14
    clear c14
    obtain ⟨ji15, hji15⟩ : ∃ j_ : Int, (mx eQ ((Qao l0_7 fQ).length : Int)) = j_ := ⟨_, rfl⟩
    replace H : (Qax.l0 k1 l0_7 (l0_7.length : Int) (wrap64 (fQ + 1)) a0_0 a0_1 l0_2 a0_3 a0_4 a0_5 l0_6 l0_7 0 0 0 0 0 (wrap64 (1 + ((Qao l0_7 0).length : Int))) ji15) = some (r1, r2, r3, r4, r5, r6, r7) := by first | (rw [hji15] at H; exact H) | (simp only [hji15] at H ⊢; exact H)
    have hji15_ : (if eQ < ((Qao l0_7 fQ).length : Int) then ((Qao l0_7 fQ).length : Int) else eQ) = ji15 := hji15
    have H' := As0 H
    clear H
    have p268 : 0 ≤ (fQ : Int) := qR
    have q268 : fQ < (l0_7.length : Int) := qR
    obtain ⟨ad268, A268_0, c268_0, e268, hx268_0, hl268_0, hi268_0⟩ := Qdk R0_7.out fQ p268 q268
    obtain rfl : ad266 = ad268 := (by injection e268)
    replace hx268_0 := cl HB hx268_0
    have R268_0 := As0 hi268_0
    have C268_0 := As0 hl268_0
    clear hi268_0 hl268_0
    replace p268 := eq_true p268
    replace q268 := eq_true q268
    have q18_ := cN7 dP.out
    go_wp2
    go_roundg k1
    case measure => have := HK1.out; omega
    case rel => exact ⟨(wrap64 (fQ + 1)), (ji15), eR, H', ⟨by have := HK1.out; omega⟩, ⟨kV dV⟩, ⟨kV jI⟩, ⟨kV dP⟩, ⟨BU HB.out⟩⟩
   rw [if_neg c12] at H
   have c12b0 := decide_eq_false c12
   clear c12
   by_cases c19 : 0 < (l0_7.length : Int)
   rotate_left
   ·rw [if_neg c19] at H
    exact absurd H (by simp)
   rw [if_pos c19] at H
   have c19b0 := decide_eq_true c19
   have c19b1 : decide (0 < l0_7.length) = true := decide_eq_true (by omega)
   clear c19
   replace H := Option.bind_eq_some_iff.mp H
   obtain ⟨⟨t270, aY, aT⟩, A200, H⟩ := H
   have A20 := As0 A200
   clear A200
   simp only [Option.some.injEq, Prod.mk.injEq] at H
   obtain ⟨rfl, rfl, rfl, rfl, rfl, rfl, rfl⟩ := H
   try go_wp2
   replace dV := As0 (Qbm dV.out)
   replace jI := As0 (Qbm jI.out)
   replace dP := As0 (Qbm dP.out)
   replace HB := As0 (bd1 HB.out)
   have p269 : 0 ≤ (0 : Int) := (by omega)
   have q269 : 0 < (l0_7.length : Int) := qR
   obtain ⟨ad269, A269_0, c269_0, e269, eE, hl269_0, hi269_0⟩ := Qdk R0_7.out 0 p269 q269
   have hw269_0 := eE
   (try rw [show ((0 : Int)).toNat = 0 from rfl] at hw269_0)
   (try rw [show 0 * 1 = 0 from rfl] at hw269_0)
   (try rw [Addr.add_zero'] at hw269_0)
   obtain rfl : ad266 = ad269 := (by injection e269)
   have qi269 : (0 < l0_7.length) = True := eq_true (by omega)
   (try rw [show ((0 : Int)).toNat = 0 from rfl] at eE)
   (try rw [Addr.add_zero'] at eE)
   replace eE := cl HB eE
   have R269_0 := As0 hi269_0
   have C269_0 := As0 hl269_0
   clear hi269_0 hl269_0
   replace p269 := eq_true p269
   replace q269 := eq_true q269
   refine Qb1 (n := 13) (S := fun w' => w'.cell? ⟨lZ, 0, none⟩ = some (.int .i64 a0_0) ∧ w'.cell? ⟨lZ, 1, none⟩ = some (.int .i64 a0_1) ∧ w'.cell? ⟨lZ, 2, none⟩ = some (.slice A0_2 l0_2.length c0_2) ∧ w'.cell? ⟨lZ, 3, none⟩ = some (.int .i64 a0_3) ∧ w'.cell? ⟨lZ, 4, none⟩ = some (.int .i64 a0_4) ∧ w'.cell? ⟨lZ, 5, none⟩ = some (.int .i64 a0_5) ∧ w'.cell? ⟨lZ, 6, none⟩ = some (.slice A0_6 l0_6.length c0_6) ∧ w'.cell? ⟨lZ, 7, none⟩ = some (.slice (some ad266) l0_7.length c0_7) ∧ w'.cell? ad266 = some (.slice A269_0 (Qao l0_7 0).length c269_0)) (ds := []) (bb 13 0) (by kernel_rfl) rfl rfl ⟨bc dV 0, bc dV 1, bc dV 2, bc dV 3, bc dV 4, bc dV 5, bc dV 6, bc dV 7, (cl HB hw269_0)⟩ (fun aA => ?_); refine Qb8 Qax.tab7 Qax.bits7 (fun HT_ HW_ => ?_)
   generalize wr.drew = w21 at dV jI dP HB R269_0 eE aA ⊢
   refine pv HT_.out 0 28 (bb 13 1) ?_
   refine pv HT_.out 4 32 (bb 13 17) ?_
   refine pv HT_.out 5 33 (bb 13 49) ?_
   refine tv aA HT_.out HW_.out 1 29 (bb 13 51) ?_
   refine pv HT_.out 2 30 (bb 13 55) ?_
   refine tv aA HT_.out HW_.out 3 31 (bb 13 63) ?_
   refine tv aA HT_.out HW_.out 6 34 (bb 13 127) ?_
   refine one_ (i := 7) (N := some 35) (bb 13 255) rfl rfl (Qcf HT_.out (by kernel_rfl)) (by decide) (fun K hK => ?_)
   refine gG Tryz.func62 #[.slice A269_0 (Qao l0_7 0).length c269_0, .int .i64 a0_0] ?_
   with_reducible refine (edge_Entry.calls k1 _ _ (Qao l0_7 0) a0_0 t270 aY aT _ ?side1 ?side2 A20.out).mono ?_
   (case side1 => exact CU (Kd.C_below R269_0.out HB.out))
   (case side2 => exact C269_0.out)
   rintro e w22 ⟨rfl, hb⟩
   refine ⟨_, rfl, ?_⟩
   replace dV := kB dV hb
   replace jI := kB jI hb
   replace dP := kB dP hb
   replace HB := sB HB hb
   (try clear hb)
   (try clear hb2)
   (try clear hk)
   (try clear hi)
   refine hK.out _ _ ⟨bc dV 0, bc dV 1, bc dV 2, bc dV 3, bc dV 4, bc dV 5, bc dV 6, bc dV 7, (cl HB hw269_0)⟩ (fun aA => ?_)
   clear hK K
   refine Qbz (a' := ?_) ?_ ?_
   rotate_left
   ·show Act.put _ (some 35) _ = _
    simp only [Act.put, sL1, sL2, sL3, Qbo, Qbp]
    rfl
   refine pv HT_.out 8 27 (bb 13 511) ?_
   refine pv HT_.out 9 36 (bb 13 1023) ?_
   refine pv HT_.out 10 37 (bb 13 2047) ?_
   refine pv HT_.out 11 38 (bb 13 4095) ?_
   refine one_ (i := 12) (N := none) (bb 13 8191) rfl rfl (Qcf HT_.out (by kernel_rfl)) (by decide) (fun K hK => ?_)
   have hs23 : w22.cell? ⟨fK, 0, none⟩ = some (.int .i64 0) := bc dP 0
   have hfs23 := Qbj dP.out 0
   have hns23_0 := eO
   have hns23_1 := N265_267
   have hms23_0 := N267_264
   have hms23_1 := N267_265
   refine skip_ (w1 := ?_) (by rfl) rfl ?_ ?_
   rotate_left
   ·go_simp
    rfl
   refine hK.out _ _ ⟨((Qbl (p := ⟨fK, _, none⟩) eO _).trans (aA.1)), ((Qbl (p := ⟨fK, _, none⟩) eO _).trans (aA.2.1)), ((Qbl (p := ⟨fK, _, none⟩) eO _).trans (aA.2.2.1)), ((Qbl (p := ⟨fK, _, none⟩) eO _).trans (aA.2.2.2.1)), ((Qbl (p := ⟨fK, _, none⟩) eO _).trans (aA.2.2.2.2.1)), ((Qbl (p := ⟨fK, _, none⟩) eO _).trans (aA.2.2.2.2.2.1)), ((Qbl (p := ⟨fK, _, none⟩) eO _).trans (aA.2.2.2.2.2.2.1)), ((Qbl (p := ⟨fK, _, none⟩) eO _).trans (aA.2.2.2.2.2.2.2.1)), ((Qbl (p := ⟨fK, _, none⟩) (by first | exact Nat.ne_of_lt (Nat.lt_of_lt_of_le (by have := World.block_lt_of_cell? _ _ hw269_0; first | rwa [Qdh] at this | exact this) GW267.out) | (rw [Qdh]; exact Nat.ne_of_lt (Nat.lt_of_lt_of_le (by have := World.block_lt_of_cell? _ _ hw269_0; first | rwa [Qdh] at this | exact this) GW267.out)) | (show (Addr.add _ _).block ≠ _; rw [Qdh]; exact Nat.ne_of_lt (Nat.lt_of_lt_of_le (by have := World.block_lt_of_cell? _ _ hw269_0; first | rwa [Qdh] at this | exact this) GW267.out)) | (dsimp only; exact Nat.ne_of_lt (Nat.lt_of_lt_of_le (by have := World.block_lt_of_cell? _ _ hw269_0; first | rwa [Qdh] at this | exact this) GW267.out))) _).trans (aA.2.2.2.2.2.2.2.2))⟩ (fun aA => ?_)
   clear hK K
   refine Qch (Qcm HT_.out (by kernel_rfl)) ?_
   have q26_ := cN7 dP.out
   have q28_ := cN7 jI.out
   try go_wp2
   refine bodyPost_ret (results_cell_row rfl _ _ gb265 51 #[.int .i64 aT, .int .i64 0, .int .i64 0, .int .i64 0, .int .i64 0, .int .i64 (wrap64 (1 + ((Qao l0_7 0).length : Int))), .int .i64 eQ] (0, 0) _ rfl (kV jI) Tryz.underlying51 rfl (by kernel_rfl)) rfl ?_
   exact ⟨oR, BU HB.out⟩
def edge_Implies.f (k : Nat) (l0 : List (S47)) (l1 : List (S47)) : Option (Int × Int × Int) := (Qab.f k l1 l0).bind fun bt409 => (if bt409.2.2 = true then (some (bt409.1, bt409.2.1, 22)) else (some (0, 0, 0)))
theorem edge_Implies.calls (k : Nat) (A0 : Option Addr) (c0 : Nat) (l0 : List (S47)) (A1 : Option Addr) (c1 : Nat) (l1 : List (S47)) (r1 r2 r3 : Int) (w : World) (hr0 : Kd.C k47 w A0 l0.length l0) (hc0 : l0.length ≤ c0) (hr1 : Kd.C k47 w A1 l1.length l1) (hc1 : l1.length ≤ c1) (h : edge_Implies.f k l0 l1 = some (r1, r2, r3)) :
 Calls Tryz.prog 35 #[.slice A0 l0.length c0, .slice A1 l1.length c1] w fun e w' => e = .returned (.tuple #[.agg #[.int .i64 r1, .int .i64 r2], .int .i64 r3]) ∧ Below w.heap.size w w' := by
 have hu47 := Tryz.underlying47
 have R0 := As0 hr0
 have C0 := As0 hc0
 clear hr0 hc0
 have R1 := As0 hr1
 have C1 := As0 hc1
 clear hr1 hc1
 have HB := As0 (Below.refl w.heap.size w)
 have H : ((Qab.f k l1 l0).bind fun bt409 => (if bt409.2.2 = true then (some (bt409.1, bt409.2.1, 22)) else (some (0, 0, 0)))) = some (r1, r2, r3) := h
 clear h
 replace H := Option.bind_eq_some_iff.mp H
 obtain ⟨⟨t409, t410, t411⟩, A30, H⟩ := H
 have A3 := As0 A30
 clear A30
 by_cases c4 : t411 = true
 ·subst c4
  rw [if_pos rfl] at H
  simp only [Option.some.injEq, Prod.mk.injEq] at H
  obtain ⟨rfl, rfl, rfl⟩ := H
  go_enter Tryz.func35, Tryz.ntmps35
  go_wp2_with (first | ((with_reducible refine gD 4 ?_); refine bY HB.out ?_; intro gb408 w5 hg hb iL GW408 HB; clear hb hg) | ((with_reducible refine Qbk (f := 67) rfl ?_); refine gL (some 11) Tryz.func67 #[.slice A1 l1.length c1, .slice A0 l0.length c0] ?_; (with_reducible refine (Qab.calls k _ _ l1 _ _ l0 t409 t410 true _ ?side1 ?side2 ?side3 ?side4 A3.out).mono ?_); (case side1 => exact CU (Kd.C_below R1.out HB.out)); (case side2 => exact C1.out); (case side3 => exact CU (Kd.C_below R0.out HB.out)); (case side4 => exact C0.out); rintro e w6 ⟨rfl, hb⟩; refine ⟨_, rfl, ?_⟩; replace iL := kB iL hb; replace HB := sB HB hb; (try clear hb)) | ((with_reducible refine gD 6 ?_); refine bY HB.out ?_; intro gb412 w7 hg hb K412 GW412 HB; have N408_412 := pL hg iL; have N412_408 := pR hg iL; replace iL := kB iL hb; clear hb hg; have q9_ := cN2 K412.out; have q10_ := cN2 iL.out))
  refine bodyPost_ret (Qcu rfl _ _ gb408 47 #[.int .i64 t409, .int .i64 t410] (0, 0) _ rfl (kV iL) Tryz.underlying47 rfl (by kernel_rfl)) rfl ?_
  exact ⟨oR, BU HB.out⟩
 replace c4 := Bool.eq_false_iff.mpr c4
 subst c4
 rw [if_neg bF] at H
 simp only [Option.some.injEq, Prod.mk.injEq] at H
 obtain ⟨rfl, rfl, rfl⟩ := H
 go_enter Tryz.func35, Tryz.ntmps35
 go_wp2_with (first | ((with_reducible refine gD 4 ?_); refine bY HB.out ?_; intro gb408 w11 hg hb iL GW408 HB; clear hb hg) | ((with_reducible refine Qbk (f := 67) rfl ?_); refine gL (some 11) Tryz.func67 #[.slice A1 l1.length c1, .slice A0 l0.length c0] ?_; (with_reducible refine (Qab.calls k _ _ l1 _ _ l0 t409 t410 false _ ?side1 ?side2 ?side3 ?side4 A3.out).mono ?_); (case side1 => exact CU (Kd.C_below R1.out HB.out)); (case side2 => exact C1.out); (case side3 => exact CU (Kd.C_below R0.out HB.out)); (case side4 => exact C0.out); rintro e w12 ⟨rfl, hb⟩; refine ⟨_, rfl, ?_⟩; replace iL := kB iL hb; replace HB := sB HB hb; (try clear hb)) | ((with_reducible refine gD 6 ?_); refine bY HB.out ?_; intro gb412 w13 hg hb K412 GW412 HB; have N408_412 := pL hg iL; have N412_408 := pR hg iL; replace iL := kB iL hb; clear hb hg; have q15_ := cN2 K412.out; have q16_ := cN2 iL.out))
 refine bodyPost_ret (Qcu rfl _ _ gb408 47 #[.int .i64 0, .int .i64 0] (0, 0) _ rfl (kV iL) Tryz.underlying47 rfl (by kernel_rfl)) rfl ?_
 exact ⟨oR, BU HB.out⟩
def An (f : Nat → Option Int) (P : Prop) : Prop := ∃ r, Ev f r ∧ (r = 0 ↔ P)
def Ab (f : Nat → Option Bool) (P : Prop) : Prop := ∃ r, Ev f r ∧ (r = true ↔ P)
theorem w64s {n i : Nat} (hn : n ≤ 4611686018427387904) (h : i < n) : wrap64 ((i : Int) + 1) = ((i + 1 : Nat) : Int) := by rw [w64i (by omega) (by omega)]; omega
theorem An.loop {L G : Nat → Int → Option Int} {D : Nat → Option Int} {n : Nat} {P : Nat → Prop} {Q : Prop} (hn : n ≤ 4611686018427387904)
    (hs : ∀ k i, L (k + 1) i = if i < (n : Int) then (if 0 ≤ i then (if i < (n : Int) then (G k i).bind (fun t => if t = 0 then L k (wrap64 (i + 1)) else some t) else none) else none) else D k)
    (hg : ∀ i : Nat, i < n → An (fun k => G k (i : Int)) (P i)) (hd : An D Q) : An (fun k => L k 0) ((∀ i, i < n → P i) ∧ Q) := by
 have go : ∀ m i, n - i = m → i ≤ n → An (fun k => L k (i : Int)) ((∀ j, i ≤ j → j < n → P j) ∧ Q) := by
  intro m
  induction m with
  | zero =>
   intro i hm hi
   obtain ⟨r, hr, he⟩ := hd
   exact ⟨r, Ev.up (fun k => hs k _) (Ev.neg (by omega) hr), he.trans ⟨fun h => ⟨fun j h1 h2 => by omega, h⟩, fun h => h.2⟩⟩
  | succ m ih =>
   intro i hm hi
   obtain ⟨t, ht, he⟩ := hg i (by omega)
   by_cases h0 : t = 0
   ·obtain ⟨r, hr, hq⟩ := ih (i + 1) (by omega) (by omega)
    refine ⟨r, Ev.up (fun k => hs k _) (Ev.pos (by omega) (Ev.pos (by omega) (Ev.pos (by omega) (Ev.then ht (Ev.pos h0 (by rw [w64s hn (by omega)]; exact hr)))))), hq.trans ⟨fun h => ⟨fun j h1 h2 => ?_, h.2⟩, fun h => ⟨fun j h1 h2 => h.1 j (by omega) h2, h.2⟩⟩⟩
    rcases Nat.eq_or_lt_of_le h1 with rfl | h3
    ·exact he.1 h0
    ·exact h.1 j h3 h2
   ·exact ⟨t, Ev.up (fun k => hs k _) (Ev.pos (by omega) (Ev.pos (by omega) (Ev.pos (by omega) (Ev.then ht (Ev.neg h0 (Ev.val rfl)))))), ⟨fun h => absurd h h0, fun h => absurd (he.2 (h.1 i (by omega) (by omega))) h0⟩⟩
 obtain ⟨r, hr, hq⟩ := go n 0 (by omega) (by omega)
 exact ⟨r, hr, hq.trans ⟨fun h => ⟨fun j hj => h.1 j (by omega) hj, h.2⟩, fun h => ⟨fun j _ hj => h.1 j hj, h.2⟩⟩⟩
theorem sum_loop {L : Nat → Int → Int → Option Int} {n : Nat} {x : Nat → Nat} (hn : n ≤ 1000) (hx : ∀ i, i < n → x i ≤ 1000)
    (hs : ∀ k (i : Nat) (s : Int), L (k + 1) s (i : Int) = if (i : Int) < (n : Int) then (if 0 ≤ (i : Int) then (if (i : Int) < (n : Int) then L k (wrap64 (s + (x i : Int))) (wrap64 ((i : Int) + 1)) else none) else none) else some s) :
    ∃ v, Ev (fun k => L k 0 0) v ∧ 0 ≤ v ∧ v ≤ 1000 * n := by
 have go : ∀ m (i : Nat) (s : Int), n - i = m → i ≤ n → 0 ≤ s → s ≤ 1000 * i → ∃ v, Ev (fun k => L k s (i : Int)) v ∧ 0 ≤ v ∧ v ≤ 1000 * n := by
  intro m
  induction m with
  | zero =>
   intro i s hm hi h0 h1
   exact ⟨s, Ev.up (fun k => hs k _ _) (Ev.neg (by omega) (Ev.val rfl)), h0, by omega⟩
  | succ m ih =>
   intro i s hm hi h0 h1
   have hxi := hx i (by omega)
   have hw : wrap64 (s + (x i : Int)) = s + (x i : Int) := w64i (by omega) (by omega)
   obtain ⟨v, hv, hb⟩ := ih (i + 1) (s + (x i : Int)) (by omega) (by omega) (by omega) (by omega)
   refine ⟨v, Ev.up (fun k => hs k _ _) (Ev.pos (by omega) (Ev.pos (by omega) (Ev.pos (by omega) ?_))), hb⟩
   rw [hw, w64s (n := n) (by omega) (by omega)]; exact hv
 exact go n 0 0 (by omega) (by omega) (by omega) (by omega)
theorem Ab.iff {f : Nat → Option Bool} {P Q : Prop} (h : Ab f P) (e : P ↔ Q) : Ab f Q := h.imp fun _ h => ⟨h.1, h.2.trans e⟩
theorem An.iff {f : Nat → Option Int} {P Q : Prop} (h : An f P) (e : P ↔ Q) : An f Q := h.imp fun _ h => ⟨h.1, h.2.trans e⟩
theorem An.up {f g : Nat → Option Int} {P : Prop} (h : ∀ k, f (k + 1) = g k) (a : An g P) : An f P := a.imp fun _ a => ⟨Ev.up h a.1, a.2⟩
theorem An.zero : An (fun _ => some 0) True := ⟨0, Ev.val rfl, by simp⟩
theorem An.fail {r : Int} (h : r ≠ 0) : An (fun _ => some r) False := ⟨r, Ev.val rfl, by simp [h]⟩
theorem An.ite {c : Prop} [Decidable c] {f g : Nat → Option Int} {P Q : Prop} (h1 : c → An f P) (h2 : ¬ c → An g Q) : An (fun k => if c then f k else g k) (if c then P else Q) := by
 by_cases h : c
 ·obtain ⟨r, hr, hq⟩ := h1 h; exact ⟨r, Ev.pos h hr, by rw [if_pos h]; exact hq⟩
 ·obtain ⟨r, hr, hq⟩ := h2 h; exact ⟨r, Ev.neg h hr, by rw [if_neg h]; exact hq⟩
theorem An.test {c : Nat → Option Bool} {f : Nat → Option Int} {e : Int} {P Q : Prop} (he : e ≠ 0) (h1 : Ab c P) (h2 : P → An f Q) : An (fun k => (c k).bind fun t => if t = true then f k else some e) (P ∧ Q) := by
 obtain ⟨b, hb, hp⟩ := h1
 cases b with
 | true => obtain ⟨r, hr, hq⟩ := h2 (hp.1 rfl); exact ⟨r, Ev.then hb (Ev.pos rfl hr), hq.trans ⟨fun h => ⟨hp.1 rfl, h⟩, fun h => h.2⟩⟩
 | false => exact ⟨e, Ev.then hb (Ev.neg (by simp) (Ev.val rfl)), ⟨fun h => absurd h he, fun h => absurd (hp.2 h.1) (by simp)⟩⟩
def OF (a : Int) : Bool × Bool × Bool × Bool × Bool := (opcode_Of.f a).getD (false, false, false, false, false)
theorem of_some (a : Int) : opcode_Of.f a = some (OF a) := by
 unfold OF
 unfold opcode_Of.f Qba.f
 by_cases h1 : a ≥ 1
 ·rw [if_pos h1]; simp only [Option.bind_some]; split
  ·split; rfl; split; rfl; split <;> rfl
  ·rfl
 ·rw [if_neg h1]; rfl
def okIns (a0 a1 a2 a3 a4 m : Int) : Prop := insR a0 a1 a2 a3 a4 m = 0
theorem srcInstr (a0 a1 a2 a3 a4 m : Int) : An (fun k => source_Instr.f k a0 a1 a2 a3 a4 m) (okIns a0 a1 a2 a3 a4 m) := ⟨_, Ev.val rfl, Iff.rfl⟩
def okTerm (a0 a1 a2 a3 m n : Int) : Prop := trmR a0 a1 a2 a3 m n = 0
theorem srcTerm (a0 a1 a2 a3 m n : Int) : An (fun k => source_Term.f k a0 a1 a2 a3 m n) (okTerm a0 a1 a2 a3 m n) := ⟨_, Ev.val rfl, Iff.rfl⟩
def okSB (b : S39) (m n : Int) : Prop := (∀ i : Nat, i < b.f0.length → okIns (Qam b.f0 (i : Int)).f0 (Qam b.f0 (i : Int)).f1 (Qam b.f0 (i : Int)).f2 (Qam b.f0 (i : Int)).f3 (Qam b.f0 (i : Int)).f4 m) ∧ okTerm b.f1.f0 b.f1.f1 b.f1.f2 b.f1.f3 m n
theorem srcBlock (b : S39) (m n : Int) (h : b.f0.length ≤ 1000) : An (fun k => source_block.f k b.f0 b.f1.f0 b.f1.f1 b.f1.f2 b.f1.f3 m n) (okSB b m n) := by
 refine An.loop (L := fun k i => source_block.l0 k m n b.f0 (b.f0.length : Int) i b.f0 b.f1.f0 b.f1.f1 b.f1.f2 b.f1.f3) (n := b.f0.length) (by omega) (fun k i => rfl) (fun i hi => srcInstr _ _ _ _ _ _) ?_
 obtain ⟨r, hr, hq⟩ := srcTerm b.f1.f0 b.f1.f1 b.f1.f2 b.f1.f3 m n
 exact ⟨r, Ev.then hr (Ev.val rfl), hq⟩
theorem srcCode (a r : Int) (l : List S39) (hl : l.length ≤ 1000) (hc : ∀ i : Nat, i < l.length → (Qag l (i : Int)).f0.length ≤ 1000) : ∃ v, Ev (fun k => source_Code.f k a r l) v ∧ 0 ≤ v ∧ v ≤ 1000 * l.length :=
 sum_loop (L := fun k s i => source_Code.l0 k s l (l.length : Int) i) (n := l.length) (x := fun i => (Qag l (i : Int)).f0.length) hl hc (fun k i s => rfl)
def okSrc (a r : Int) (l : List S39) : Prop := (0 ≤ a ∧ a ≤ r) ∧ l.length ≠ 0 ∧ ∀ i : Nat, i < l.length → okSB (Qag l (i : Int)) r l.length
theorem srcCheck (a r : Int) (l : List S39) (hr : r ≤ 1000) (hl : l.length ≤ 1000) (hc : ∀ i : Nat, i < l.length → (Qag l (i : Int)).f0.length ≤ 1000) : An (fun k => Qa1.f k a r l) (okSrc a r l) := by
 have hl0 : An (fun k => Qa1.l0 k l (l.length : Int) 0 a r l) ((∀ i : Nat, i < l.length → okSB (Qag l (i : Int)) r l.length) ∧ True) :=
  An.loop (L := fun k i => Qa1.l0 k l (l.length : Int) i a r l) (n := l.length) (by omega) (fun k i => rfl) (fun i hi => srcBlock _ _ _ (hc i hi)) An.zero
 obtain ⟨v, hv, hv0, hv1⟩ := srcCode a r l hl hc
 have hj0 : ∀ b : Bool, An (fun k => Qa1.j0 k b a r l) (b = false ∧ l.length ≠ 0 ∧ ∀ i : Nat, i < l.length → okSB (Qag l (i : Int)) r l.length) := by
  intro b
  refine An.up (g := fun k => _) (fun k => by rw [Qa1.j0]) ?_
  cases b with
  | true =>
   apply An.iff
   ·exact An.ite (P := False) (Q := True) (fun _ => An.fail (by decide)) (fun h => absurd rfl h)
   ·simp
  | false =>
   by_cases h0 : l.length = 0
   ·exact ⟨14, Ev.neg (c := false = true) (by simp) (Ev.neg (c := r > 1048576) (by omega) (Ev.pos (c := (l.length : Int) = 0) (by omega) (Ev.val rfl))), by simp [h0]⟩
   ·obtain ⟨x, hx, hq⟩ := hl0
    refine ⟨x, Ev.neg (c := false = true) (by simp) (Ev.neg (c := r > 1048576) (by omega) (Ev.neg (c := (l.length : Int) = 0) (by omega) (Ev.neg (c := (l.length : Int) > 1048576) (by omega) (Ev.then hv (Ev.up (g := fun k => _) (fun k => rfl) (Ev.neg (c := decide (v > 1048576) = true) (by simp; omega) hx)))))), hq.trans ⟨fun h => ⟨rfl, h0, h.1⟩, fun h => ⟨h.2.2, trivial⟩⟩⟩
 unfold Qa1.f okSrc
 apply An.iff
 ·exact An.ite (fun _ => hj0 _) (fun _ => hj0 _)
 split
 ·exact ⟨fun h => by simp at h, fun h => by omega⟩
 ·exact ⟨fun h => ⟨by have := h.1; simp at this; omega, h.2⟩, fun h => ⟨by have := h.1; simp; omega, h.2⟩⟩
theorem An.seq {c f : Nat → Option Int} {P Q : Prop} (h1 : An c P) (h2 : P → An f Q) : An (fun k => (c k).bind fun y => if y = 0 then f k else some y) (P ∧ Q) := by
 obtain ⟨b, hb, hp⟩ := h1
 by_cases h : b = 0
 ·obtain ⟨r, hr, hq⟩ := h2 (hp.1 h); exact ⟨r, Ev.then hb (Ev.pos h hr), hq.trans ⟨fun x => ⟨hp.1 h, x⟩, fun x => x.2⟩⟩
 ·exact ⟨b, Ev.then hb (Ev.neg h (Ev.val rfl)), ⟨fun x => absurd x h, fun x => absurd (hp.2 x.1) h⟩⟩
theorem An.end' {c : Nat → Option Bool} {P : Prop} {e : Int} (he : e ≠ 0) (h : Ab c P) : An (fun k => (c k).bind fun z => some (if z = true then 0 else e)) P := by
 obtain ⟨b, hb, hp⟩ := h
 exact ⟨if b = true then 0 else e, Ev.then hb (Ev.val rfl), by cases b with
  | true => simpa using hp
  | false => simpa [he] using hp⟩
theorem Ab.of {f : Option Bool} (h : ∃ b, f = some b) : Ab (fun _ => f) (f = some true) := by
 obtain ⟨b, rfl⟩ := h
 exact ⟨b, Ev.val rfl, by simp⟩
def isMach (a : Int) : Prop := opcode_Machine.f a = some true
theorem mach_ab (a : Int) : Ab (fun _ => opcode_Machine.f a) (isMach a) := Ab.of (by
 unfold opcode_Machine.f Qba.f
 by_cases h1 : a ≥ 1
 ·rw [if_pos h1]; simp only [Option.bind_some]; split <;> exact ⟨_, rfl⟩
 ·rw [if_neg h1]; exact ⟨_, rfl⟩)
def okLoc (a m s : Int) : Prop := Qbb.f a m s = some true
theorem loc_ab (a m s : Int) : Ab (fun _ => Qbb.f a m s) (okLoc a m s) := Ab.of (by
 unfold Qbb.f Qaw.f Qbd.f
 simp only [Option.bind_some]
 split <;> split <;> exact ⟨_, rfl⟩)
def isSl (a : Int) : Bool := Int.tmod a 2 == 1
theorem moves_j1 (b : Bool) : An (fun k => Qaz.j1 k b) (b = false) := An.up (g := fun _ => _) (fun k => rfl) (by cases b with
 | true => exact (An.fail (r := 10) (by decide)).iff (by simp)
 | false => exact An.zero.iff (by simp))
theorem moves_j0 (b : Bool) (r s a0 a1 a2 a3 a4 a5 a6 : Int) : An (fun k => Qaz.j0 k r s b a0 a1 a2 a3 a4 a5 a6) (b = false ∧ okLoc a5 r s ∧ okLoc a6 r s) := by
 refine An.up (g := fun k => _) (fun k => by rw [Qaz.j0]) ?_
 cases b with
 | true =>
  obtain ⟨x, hx, hq⟩ := moves_j1 true
  exact ⟨x, Ev.pos rfl hx, hq.trans (by simp)⟩
 | false =>
  obtain ⟨t, ht, hp⟩ := loc_ab a5 r s
  obtain ⟨u, hu, hr⟩ := loc_ab a6 r s
  cases t with
  | false =>
   obtain ⟨x, hx, hq⟩ := moves_j1 true
   exact ⟨x, Ev.neg (by simp) (Ev.then ht (Ev.neg (by simp) hx)), hq.trans ⟨fun h => by simp at h, fun h => absurd (hp.2 h.2.1) (by simp)⟩⟩
  | true =>
   obtain ⟨x, hx, hq⟩ := moves_j1 (!u)
   exact ⟨x, Ev.neg (by simp) (Ev.then ht (Ev.pos rfl (Ev.then hu hx))), hq.trans ⟨fun h => ⟨rfl, hp.1 rfl, hr.1 (by simpa using h)⟩, fun h => by simpa using hr.2 h.2.2⟩⟩
def okMov (a1 a2 a3 a4 a5 a6 r s : Int) : Prop := ((isSl a5 && isSl a6) = false ∧ okLoc a5 r s ∧ okLoc a6 r s) ∧ a1 = 0 ∧ a2 = 0 ∧ a3 = 0 ∧ a4 = 0
theorem moves1 (a0 a1 a2 a3 a4 a5 a6 r s : Int) : An (fun k => Qaz.f k a0 a1 a2 a3 a4 a5 a6 r s) ((isSl a5 && isSl a6) = false ∧ okLoc a5 r s ∧ okLoc a6 r s) := by
 unfold Qaz.f Qaw.f
 simp only [Option.bind_some]
 by_cases h : (Int.tmod a5 2 == 1) = true
 ·obtain ⟨x, hx, hq⟩ := moves_j0 (Int.tmod a6 2 == 1) r s a0 a1 a2 a3 a4 a5 a6
  exact ⟨x, Ev.pos h hx, hq.trans (by unfold isSl; rw [h]; simp)⟩
 ·obtain ⟨x, hx, hq⟩ := moves_j0 false r s a0 a1 a2 a3 a4 a5 a6
  exact ⟨x, Ev.neg h hx, hq.trans (by unfold isSl; rw [Bool.not_eq_true] at h; rw [h]; simp)⟩
theorem moves2 (a0 a1 a2 a3 a4 a5 a6 : Int) : Ab (fun _ => machine_moves_2.f a0 a1 a2 a3 a4 a5 a6) (a1 = 0 ∧ a2 = 0 ∧ a3 = 0 ∧ a4 = 0) := by
 unfold machine_moves_2.f
 by_cases h1 : a1 = 0
 ·by_cases h2 : a2 = 0
  ·by_cases h3 : a3 = 0
   ·exact ⟨a4 == 0, Ev.pos h1 (Ev.pos h2 (Ev.pos h3 (Ev.val rfl))), by simp [h1, h2, h3]⟩
   ·exact ⟨false, Ev.pos h1 (Ev.pos h2 (Ev.neg h3 (Ev.val rfl))), by simp [h3]⟩
  ·exact ⟨false, Ev.pos h1 (Ev.neg h2 (Ev.val rfl)), by simp [h2]⟩
 ·exact ⟨false, Ev.neg h1 (Ev.val rfl), by simp [h1]⟩
theorem others2 (a0 a1 a2 a3 a4 a5 a6 : Int) : Ab (fun _ => machine_others_2.f a0 a1 a2 a3 a4 a5 a6) (a5 = 0 ∧ a6 = 0) := by
 unfold machine_others_2.f
 by_cases h1 : a5 = 0
 ·exact ⟨a6 == 0, Ev.pos h1 (Ev.val rfl), by simp [h1]⟩
 ·exact ⟨false, Ev.neg h1 (Ev.val rfl), by simp [h1]⟩
theorem others1 (a0 a1 a2 a3 a4 a5 a6 r s : Int) : An (fun k => machine_others_1.f k a0 a1 a2 a3 a4 a5 a6 r s) (okIns a0 a1 a2 a3 a4 r) := by
 obtain ⟨x, hx, hq⟩ := srcInstr a0 a1 a2 a3 a4 r
 exact ⟨x, Ev.then hx (Ev.val rfl), hq⟩
def okMIns (a0 a1 a2 a3 a4 a5 a6 r s : Int) : Prop := isMach a0 ∧ if a0 = 18 then okMov a1 a2 a3 a4 a5 a6 r s else okIns a0 a1 a2 a3 a4 r ∧ a5 = 0 ∧ a6 = 0
theorem mInstr (a0 a1 a2 a3 a4 a5 a6 r s : Int) : An (fun k => machine_Instr.f k a0 a1 a2 a3 a4 a5 a6 r s) (okMIns a0 a1 a2 a3 a4 a5 a6 r s) := by
 unfold machine_Instr.f okMIns okMov
 exact An.test (by decide) (mach_ab a0) fun _ => An.ite (fun _ => An.seq (moves1 _ _ _ _ _ _ _ _ _) fun _ => An.end' (by decide) (moves2 a0 _ _ _ _ a5 a6)) (fun _ => An.seq (others1 _ _ _ _ _ a5 a6 _ s) fun _ => An.end' (by decide) (others2 a0 a1 a2 a3 a4 _ _))
def Qc0 : List S59 → Nat → Prop
 | [], _ => True
 | m :: t, c => if m.f0 = 18 then c + 1 ≤ 64 ∧ Qc0 t (c + 1) else Qc0 t 0
def okMI (m : S59) (r s : Int) : Prop := okMIns m.f0 m.f1 m.f2 m.f3 m.f4 m.f5 m.f6 r s
def okMB (b : S57) (r s n : Int) : Prop := ((∀ i : Nat, i < b.f0.length → okMI (Qaj b.f0 (i : Int)) r s) ∧ Qc0 b.f0 0) ∧ okTerm b.f1.f0 b.f1.f1 b.f1.f2 b.f1.f3 r n
theorem mBlock (a r s : Int) (TB : List S57) (b : S57) (h : b.f0.length ≤ 1000) : An (fun k => Qa7.f k a r s TB b.f0 b.f1.f0 b.f1.f1 b.f1.f2 b.f1.f3) (okMB b r s TB.length) := by
 have go : ∀ m (i c : Nat), b.f0.length - i = m → i ≤ b.f0.length → c ≤ 64 → An (fun k => Qa7.l0 k (c : Int) b.f0 (b.f0.length : Int) (i : Int) a r s TB b.f0 b.f1.f0 b.f1.f1 b.f1.f2 b.f1.f3) (((∀ j : Nat, i ≤ j → j < b.f0.length → okMI (Qaj b.f0 (j : Int)) r s) ∧ Qc0 (b.f0.drop i) c) ∧ okTerm b.f1.f0 b.f1.f1 b.f1.f2 b.f1.f3 r TB.length) := by
  intro m
  induction m with
  | zero =>
   intro i c hm hi hc
   obtain ⟨x, hx, hq⟩ := srcTerm b.f1.f0 b.f1.f1 b.f1.f2 b.f1.f3 r TB.length
   refine ⟨x, Ev.up (g := fun k => _) (fun k => rfl) (Ev.neg (by omega) (Ev.then hx (Ev.val rfl))), hq.trans ?_⟩
   rw [List.drop_of_length_le (by omega)]
   exact ⟨fun h => ⟨⟨fun j h1 h2 => by omega, trivial⟩, h⟩, fun h => h.2⟩
  | succ m ih =>
   intro i c hm hi hc
   have hw : wrap64 ((i : Int) + 1) = ((i + 1 : Nat) : Int) := w64s (n := b.f0.length) (by omega) (by omega)
   have hwc : wrap64 ((c : Int) + 1) = ((c + 1 : Nat) : Int) := w64s (n := 1000) (by omega) (by omega)
   obtain ⟨t, ht, hp⟩ := mInstr (Qaj b.f0 (i : Int)).f0 (Qaj b.f0 (i : Int)).f1 (Qaj b.f0 (i : Int)).f2 (Qaj b.f0 (i : Int)).f3 (Qaj b.f0 (i : Int)).f4 (Qaj b.f0 (i : Int)).f5 (Qaj b.f0 (i : Int)).f6 r s
   have hd : b.f0.drop i = Qaj b.f0 (i : Int) :: b.f0.drop (i + 1) := Qcg b.f0 z59 i (by omega)
   rw [hd]
   by_cases h0 : t = 0
   ·have hi0 : okMI (Qaj b.f0 (i : Int)) r s := hp.1 h0
    have hall : (∀ j : Nat, i ≤ j → j < b.f0.length → okMI (Qaj b.f0 (j : Int)) r s) ↔ (∀ j : Nat, i + 1 ≤ j → j < b.f0.length → okMI (Qaj b.f0 (j : Int)) r s) := ⟨fun h j h1 h2 => h j (by omega) h2, fun h j h1 h2 => by
     rcases Nat.eq_or_lt_of_le h1 with rfl | h3
     ·exact hi0
     ·exact h j h3 h2⟩
    rw [hall]
    by_cases h18 : (Qaj b.f0 (i : Int)).f0 = 18
    ·by_cases h64 : c + 1 ≤ 64
     ·obtain ⟨x, hx, hq⟩ := ih (i + 1) (c + 1) (by omega) (by omega) h64
      refine ⟨x, Ev.up (g := fun k => _) (fun k => rfl) (Ev.pos (by omega) (Ev.pos (by omega) (Ev.pos (by omega) (Ev.then ht (Ev.pos h0 (Ev.pos h18 (Ev.up (g := fun k => _) (fun k => rfl) (Ev.neg (by rw [hwc]; omega) ?_)))))))), hq.trans ?_⟩
      ·rw [hw, hwc]; exact hx
      ·simp only [Qc0, if_pos h18]
       exact ⟨fun h => ⟨⟨h.1.1, h64, h.1.2⟩, h.2⟩, fun h => ⟨⟨h.1.1, h.1.2.2⟩, h.2⟩⟩
     ·refine ⟨15, Ev.up (g := fun k => _) (fun k => rfl) (Ev.pos (by omega) (Ev.pos (by omega) (Ev.pos (by omega) (Ev.then ht (Ev.pos h0 (Ev.pos h18 (Ev.up (g := fun k => _) (fun k => rfl) (Ev.pos (by rw [hwc]; omega) (Ev.val rfl))))))))), ?_⟩
      simp only [Qc0, if_pos h18]
      exact ⟨fun h => by simp at h, fun h => absurd h.1.2.1 h64⟩
    ·obtain ⟨x, hx, hq⟩ := ih (i + 1) 0 (by omega) (by omega) (by omega)
     refine ⟨x, Ev.up (g := fun k => _) (fun k => rfl) (Ev.pos (by omega) (Ev.pos (by omega) (Ev.pos (by omega) (Ev.then ht (Ev.pos h0 (Ev.neg h18 (Ev.up (g := fun k => _) (fun k => rfl) (Ev.neg (c := (0 : Int) > 64) (f := fun _ => none) (by omega) ?_)))))))), hq.trans ?_⟩
     ·rw [hw]; exact hx
     ·simp only [Qc0, if_neg h18]
   ·exact ⟨t, Ev.up (g := fun k => _) (fun k => rfl) (Ev.pos (by omega) (Ev.pos (by omega) (Ev.pos (by omega) (Ev.then ht (Ev.neg h0 (Ev.val rfl)))))), ⟨fun h => absurd h h0, fun h => absurd (hp.2 (h.1.1 i (by omega) (by omega))) h0⟩⟩
 obtain ⟨x, hx, hq⟩ := go _ 0 0 rfl (by omega) (by omega)
 refine ⟨x, hx, hq.trans ?_⟩
 rw [List.drop_zero]
 exact ⟨fun h => ⟨⟨fun i hi => h.1.1 i (by omega) hi, h.1.2⟩, h.2⟩, fun h => ⟨⟨fun i _ hi => h.1.1 i hi, h.1.2⟩, h.2⟩⟩
theorem mCode (a r s : Int) (l : List S57) (hl : l.length ≤ 1000) (hc : ∀ i : Nat, i < l.length → (Qaq l (i : Int)).f0.length ≤ 1000) : ∃ v, Ev (fun k => machine_Code.f k a r s l) v ∧ 0 ≤ v ∧ v ≤ 1000 * l.length :=
 sum_loop (L := fun k s i => machine_Code.l0 k s l (l.length : Int) i) (n := l.length) (x := fun i => (Qaq l (i : Int)).f0.length) hl hc (fun k i s => rfl)
def okMach (a r s : Int) (l : List S57) : Prop := ((0 ≤ a ∧ a ≤ s) ∧ 0 ≤ r) ∧ l.length ≠ 0 ∧ ∀ i : Nat, i < l.length → okMB (Qaq l (i : Int)) r s l.length
theorem mCheck (a r s : Int) (l : List S57) (hr : r ≤ 1000) (hs : s ≤ 1000) (hl : l.length ≤ 1000) (hc : ∀ i : Nat, i < l.length → (Qaq l (i : Int)).f0.length ≤ 1000) : An (fun k => Qan.f k a r s l) (okMach a r s l) := by
 have hl0 : An (fun k => Qan.l0 k l (l.length : Int) 0 a r s l) ((∀ i : Nat, i < l.length → okMB (Qaq l (i : Int)) r s l.length) ∧ True) :=
  An.loop (L := fun k i => Qan.l0 k l (l.length : Int) i a r s l) (n := l.length) (by omega) (fun k i => rfl) (fun i hi => mBlock _ _ _ _ _ (hc i hi)) An.zero
 obtain ⟨v, hv, hv0, hv1⟩ := mCode a r s l hl hc
 have hj0 : ∀ b : Bool, An (fun k => Qan.j0 k b a r s l) ((b = false ∧ 0 ≤ r) ∧ l.length ≠ 0 ∧ ∀ i : Nat, i < l.length → okMB (Qaq l (i : Int)) r s l.length) := by
  intro b
  cases b with
  | true => exact ⟨10, ⟨1, fun n hn => by obtain ⟨m, rfl⟩ : ∃ m, n = m + 1 := ⟨n - 1, by omega⟩; rfl⟩, by simp⟩
  | false =>
   by_cases hr0 : r < 0
   ·exact ⟨9, Ev.up (g := fun k => _) (fun k => by rw [Qan.j0]) (Ev.neg (c := false = true) (by simp) (Ev.pos (c := r < 0) hr0 (Ev.val rfl))), ⟨fun h => by simp at h, fun h => by omega⟩⟩
   ·have hj1 : An (fun k => Qan.j1 k false a r s l) (l.length ≠ 0 ∧ ∀ i : Nat, i < l.length → okMB (Qaq l (i : Int)) r s l.length) := by
      by_cases h0 : l.length = 0
      ·exact ⟨14, Ev.up (g := fun k => _) (fun k => by rw [Qan.j1]) (Ev.neg (c := false = true) (by simp) (Ev.pos (c := (l.length : Int) = 0) (by omega) (Ev.val rfl))), by simp [h0]⟩
      ·obtain ⟨x, hx, hq⟩ := hl0
       exact ⟨x, Ev.up (g := fun k => _) (fun k => by rw [Qan.j1]) (Ev.neg (c := false = true) (by simp) (Ev.neg (c := (l.length : Int) = 0) (by omega) (Ev.neg (c := (l.length : Int) > 1048576) (by omega) (Ev.then hv (Ev.up (g := fun k => _) (fun k => rfl) (Ev.neg (c := decide (v > 1048576) = true) (by simp; omega) hx)))))), hq.trans ⟨fun h => ⟨h0, h.1⟩, fun h => ⟨h.2, trivial⟩⟩⟩
    obtain ⟨x, hx, hq⟩ := hj1
    have hx' : Ev (fun k => Qan.j1 k (decide (r > 1048576)) a r s l) x := by rw [decide_eq_false (by omega)]; exact hx
    exact ⟨x, Ev.up (g := fun k => _) (fun k => by rw [Qan.j0]) (Ev.neg (c := false = true) (by simp) (Ev.neg (c := r < 0) hr0 (Ev.neg (c := s > 1048576) (by omega) hx'))), hq.trans ⟨fun h => ⟨⟨rfl, by omega⟩, h⟩, fun h => h.2⟩⟩
 unfold Qan.f okMach
 apply An.iff
 ·exact An.ite (fun _ => hj0 _) (fun _ => hj0 _)
 split
 ·exact ⟨fun h => by simp at h, fun h => by omega⟩
 ·exact ⟨fun h => ⟨⟨by have := h.1.1; simp at this; omega, h.1.2⟩, h.2⟩, fun h => ⟨⟨by have := h.1.1; simp; omega, h.1.2⟩, h.2⟩⟩
theorem An.loop2 {L : Nat → Int → Option Int} {n : Nat} {P : Nat → Prop} (hp : ∀ i : Nat, i < n → P i → ∀ r, Ev (fun k => L k ((i + 1 : Nat) : Int)) r → Ev (fun k => L k (i : Int)) r)
    (hq : ∀ i : Nat, i < n → ¬ P i → ∃ e, e ≠ 0 ∧ Ev (fun k => L k (i : Int)) e) (he : Ev (fun k => L k (n : Int)) 0) : An (fun k => L k 0) (∀ i, i < n → P i) := by
 have go : ∀ m i, n - i = m → i ≤ n → An (fun k => L k (i : Int)) (∀ j, i ≤ j → j < n → P j) := by
  intro m
  induction m with
  | zero =>
   intro i hm hi
   obtain rfl : i = n := by omega
   exact ⟨0, he, ⟨fun _ j h1 h2 => by omega, fun _ => rfl⟩⟩
  | succ m ih =>
   intro i hm hi
   by_cases h : P i
   ·obtain ⟨r, hr, hx⟩ := ih (i + 1) (by omega) (by omega)
    refine ⟨r, hp i (by omega) h r hr, hx.trans ⟨fun h' j h1 h2 => ?_, fun h' j h1 h2 => h' j (by omega) h2⟩⟩
    rcases Nat.eq_or_lt_of_le h1 with rfl | h3
    ·exact h
    ·exact h' j h3 h2
   ·obtain ⟨e, h0, hr⟩ := hq i (by omega) h
    exact ⟨e, hr, ⟨fun x => absurd x h0, fun x => absurd (x i (by omega) (by omega)) h⟩⟩
 obtain ⟨r, hr, hx⟩ := go n 0 (by omega) (by omega)
 exact ⟨r, hr, hx.trans ⟨fun h j hj => h j (by omega) hj, fun h j _ hj => h j hj⟩⟩
def ltP (p q : S47) : Prop := Qa6.f p.f0 p.f1 q.f0 q.f1 = some true
theorem lt_ab (p q : S47) : Ab (fun _ => Qa6.f p.f0 p.f1 q.f0 q.f1) (ltP p q) := Ab.of (by unfold Qa6.f; split; exact ⟨_, rfl⟩; split <;> exact ⟨_, rfl⟩)
def okPair (l : List S47) (m r s : Int) (i : Nat) : Prop := (0 ≤ (Qaa l (i : Int)).f0 ∧ (Qaa l (i : Int)).f0 < m) ∧ okLoc (Qaa l (i : Int)).f1 r s ∧ (0 < i → ltP (Qaa l ((i - 1 : Nat) : Int)) (Qaa l (i : Int)))
theorem pairs_an (l : List S47) (m r s : Int) (hl : l.length ≤ 1000) : An (fun k => Qat.f k l m r s) (∀ i, i < l.length → okPair l m r s i) := by
 have j2t : ∀ i : Int, Ev (fun k => Qat.j2 k l m r s l (l.length : Int) i true) 13 := fun i => ⟨1, fun n hn => by obtain ⟨m, rfl⟩ : ∃ m, n = m + 1 := ⟨n - 1, by omega⟩; rfl⟩
 have j2f : ∀ (i : Nat) (x : Int), i < l.length → Ev (fun k => Qat.l0 k l m r s l (l.length : Int) ((i + 1 : Nat) : Int)) x → Ev (fun k => Qat.j2 k l m r s l (l.length : Int) (i : Int) false) x := fun i x hi hx =>
  Ev.up (g := fun k => _) (fun k => by rw [Qat.j2]) (Ev.neg (c := false = true) (by simp) (by rw [w64s (n := l.length) (by omega) hi]; exact hx))
 have j1t : ∀ (i : Int) (a b : Int), Ev (fun k => Qat.j1 k l m r s i l (l.length : Int) i true a b) 9 := fun i a b => ⟨1, fun n hn => by obtain ⟨m, rfl⟩ : ∃ m, n = m + 1 := ⟨n - 1, by omega⟩; rfl⟩
 have head : ∀ (i : Nat) (x : Int), i < l.length → Ev (fun k => Qat.j1 k l m r s (i : Int) l (l.length : Int) (i : Int) (!decide (0 ≤ (Qaa l (i : Int)).f0 ∧ (Qaa l (i : Int)).f0 < m)) ((Qaa l (i : Int)).f0) ((Qaa l (i : Int)).f1)) x → Ev (fun k => Qat.l0 k l m r s l (l.length : Int) (i : Int)) x := by
  intro i x hi hx
  refine Ev.up (g := fun k => _) (fun k => by rw [Qat.l0]) (Ev.pos (by omega) (Ev.pos (by omega) (Ev.pos (by omega) ?_)))
  by_cases h0 : (Qaa l (i : Int)).f0 < 0
  ·rw [decide_eq_false (by omega)] at hx
   exact Ev.pos h0 hx
  ·refine Ev.neg h0 ?_
   have : decide ((Qaa l (i : Int)).f0 ≥ m) = !decide (0 ≤ (Qaa l (i : Int)).f0 ∧ (Qaa l (i : Int)).f0 < m) := by rw [← decide_not]; exact decide_eq_decide.2 (by omega)
   rw [this]; exact hx
 refine An.loop2 (L := fun k i => Qat.l0 k l m r s l (l.length : Int) i) (fun i hi hP x hx => ?_) (fun i hi hP => ?_) ?_
 ·refine head i x hi ?_
  rw [decide_eq_true hP.1]
  obtain ⟨t, ht, hq⟩ := loc_ab (Qaa l (i : Int)).f1 r s
  have htt : t = true := hq.2 hP.2.1
  refine Ev.up (g := fun k => _) (fun k => by rw [Qat.j1]) (Ev.neg (by simp) (Ev.then ht (Ev.pos htt ?_)))
  by_cases h0 : 0 < i
  ·have hw : wrap64 ((i : Int) - 1) = ((i - 1 : Nat) : Int) := by rw [w64i (by omega) (by omega)]; omega
   obtain ⟨u, hu, hv⟩ := lt_ab (Qaa l ((i - 1 : Nat) : Int)) (Qaa l (i : Int))
   have huu : u = true := hv.2 (hP.2.2 h0)
   rw [hw]
   refine Ev.pos (by omega) (Ev.pos (by omega) (Ev.pos (by omega) (Ev.then hu ?_)))
   rw [huu]; exact j2f i x hi hx
  ·exact Ev.neg (by omega) (j2f i x hi hx)
 ·by_cases h1 : 0 ≤ (Qaa l (i : Int)).f0 ∧ (Qaa l (i : Int)).f0 < m
  ·obtain ⟨t, ht, hq⟩ := loc_ab (Qaa l (i : Int)).f1 r s
   cases t with
   | false =>
    refine ⟨10, by decide, head i 10 hi ?_⟩
    rw [decide_eq_true h1]
    exact Ev.up (g := fun k => _) (fun k => by rw [Qat.j1]) (Ev.neg (by simp) (Ev.then ht (Ev.neg (c := false = true) (by simp) (Ev.val rfl))))
   | true =>
    have h0 : 0 < i := Nat.pos_of_ne_zero fun h => hP ⟨h1, hq.1 rfl, fun h' => absurd h' (by omega)⟩
    have hw : wrap64 ((i : Int) - 1) = ((i - 1 : Nat) : Int) := by rw [w64i (by omega) (by omega)]; omega
    obtain ⟨u, hu, hv⟩ := lt_ab (Qaa l ((i - 1 : Nat) : Int)) (Qaa l (i : Int))
    have huu : u = false := Bool.eq_false_iff.2 fun h => hP ⟨h1, hq.1 rfl, fun _ => hv.1 h⟩
    refine ⟨13, by decide, head i 13 hi ?_⟩
    rw [decide_eq_true h1]
    refine Ev.up (g := fun k => _) (fun k => by rw [Qat.j1]) (Ev.neg (by simp) (Ev.then ht (Ev.pos rfl ?_)))
    rw [hw]
    refine Ev.pos (by omega) (Ev.pos (by omega) (Ev.pos (by omega) (Ev.then hu ?_)))
    rw [huu]; exact j2t _
  ·refine ⟨9, by decide, head i 9 hi ?_⟩
   rw [decide_eq_false h1]
   exact j1t _ _ _
 ·exact Ev.up (g := fun k => _) (fun k => by rw [Qat.l0]) (Ev.neg (by omega) (Ev.val rfl))
theorem tot_ev (l : List (List S47)) (hl : l.length ≤ 1000) (hc : ∀ i : Nat, i < l.length → (Qao l (i : Int)).length ≤ 1000) : ∃ v, Ev (fun k => edge_total.f k l) v ∧ 0 ≤ v ∧ v ≤ 1000 * l.length :=
 sum_loop (L := fun k s i => edge_total.l0 k s l (l.length : Int) i) (n := l.length) (x := fun i => (Qao l (i : Int)).length) hl hc (fun k i s => rfl)
def okRow (l : List S47) (m r s : Int) : Prop := ∀ i, i < l.length → okPair l m r s i
def okEdges (l : List (List S47)) (n m r s : Int) : Prop := (l.length : Int) = n ∧ ∀ i : Nat, i < l.length → okRow (Qao l (i : Int)) m r s
theorem eValid (l : List (List S47)) (n m r s : Int) (hl : l.length ≤ 1000) (hc : ∀ i : Nat, i < l.length → (Qao l (i : Int)).length ≤ 1000) : An (fun k => edge_Valid.f k l n m r s) (okEdges l n m r s) := by
 obtain ⟨v, hv, hv0, hv1⟩ := tot_ev l hl hc
 obtain ⟨x, hx, hq⟩ := An.loop (L := fun k i => edge_Valid.l0 k m r s l (l.length : Int) i) (n := l.length) (by omega) (fun k i => rfl) (fun i hi => pairs_an _ m r s (hc i hi)) An.zero
 unfold edge_Valid.f okEdges
 by_cases h : (l.length : Int) = n
 ·exact ⟨x, Ev.pos h (Ev.then hv (Ev.neg (by omega) hx)), hq.trans ⟨fun y => ⟨h, y.1⟩, fun y => ⟨y.2, trivial⟩⟩⟩
 ·exact ⟨14, Ev.neg h (Ev.val rfl), ⟨fun y => by simp at y, fun y => absurd y.1 h⟩⟩
def okAll (sa sr : Int) (SB : List S39) (ta tr ts : Int) (TB : List S57) (W : List (List S47)) : Prop := okSrc sa sr SB ∧ okMach ta tr ts TB ∧ ((SB.length : Int) = (TB.length : Int) ∧ sa = ta) ∧ okEdges W SB.length sr tr ts
theorem cValid (sa sr : Int) (SB : List S39) (ta tr ts : Int) (TB : List S57) (W : List (List S47)) (h1 : sr ≤ 1000) (h2 : tr ≤ 1000) (h3 : ts ≤ 1000) (l1 : SB.length ≤ 1000) (l2 : TB.length ≤ 1000) (l3 : W.length ≤ 1000)
    (c1 : ∀ i : Nat, i < SB.length → (Qag SB (i : Int)).f0.length ≤ 1000) (c2 : ∀ i : Nat, i < TB.length → (Qaq TB (i : Int)).f0.length ≤ 1000) (c3 : ∀ i : Nat, i < W.length → (Qao W (i : Int)).length ≤ 1000) :
    An (fun k => Qbc.f k sa sr SB ta tr ts TB W) (okAll sa sr SB ta tr ts TB W) := by
 unfold Qbc.f okAll
 refine An.seq (srcCheck sa sr SB h1 l1 c1) fun _ => An.seq (mCheck ta tr ts TB h2 h3 l2 c2) fun _ => ?_
 have j0t : Ev (fun k => Qbc.j0 k true sa sr SB ta tr ts TB W) 14 := ⟨1, fun n hn => by obtain ⟨m, rfl⟩ : ∃ m, n = m + 1 := ⟨n - 1, by omega⟩; rfl⟩
 by_cases h : (SB.length : Int) = (TB.length : Int)
 ·by_cases ha : sa = ta
  ·obtain ⟨x, hx, hq⟩ := eValid W SB.length sr tr ts l3 c3
   refine ⟨x, Ev.pos h (Ev.up (g := fun k => _) (fun k => by rw [Qbc.j0]) (Ev.neg (by simp [ha]) (Ev.then hx (Ev.val rfl)))), hq.trans ⟨fun y => ⟨⟨h, ha⟩, y⟩, fun y => y.2⟩⟩
  ·have hb : (sa != ta) = true := by simp [ha]
   exact ⟨14, Ev.pos h (by rw [hb]; exact j0t), ⟨fun y => by simp at y, fun y => absurd y.1.2 ha⟩⟩
 ·exact ⟨14, Ev.neg h j0t, ⟨fun y => by simp at y, fun y => absurd y.1.1 h⟩⟩
theorem mid_eq (lo hi : Nat) (h : lo ≤ hi) (hh : hi ≤ 100000000) : wrap64 ((lo : Int) + wrap64 (Int.tdiv (wrap64 ((hi : Int) - (lo : Int))) 2)) = ((lo + (hi - lo) / 2 : Nat) : Int) := by
 rw [w64i (n := (hi : Int) - lo) (by omega) (by omega), Int.tdiv_eq_ediv_of_nonneg (by omega), w64i (n := ((hi : Int) - lo) / 2) (by omega) (by omega), w64i (by omega) (by omega)]; omega
attribute [local go_sem high] eqA47
mutual
def Qac.l0 : Nat → List (S47) → List (S47) → List (S47) → Option ((List (S47)))
 | 0, _, _, _ => none
 | k + 1, x0, x1, x5 => if (x0.length : Int) > 0 then (Qac.j1 k x0 x1 x5 (decide ((x1.length : Int) > 0))) else (Qac.j1 k x0 x1 x5 false)
def Qac.j1 : Nat → List (S47) → List (S47) → List (S47) → Bool → Option ((List (S47)))
 | 0, _, _, _, _ => none
 | k + 1, x0, x1, x5, x20 => if x20 = true then (if 0 < (x0.length : Int) then (if 0 < (x1.length : Int) then ((Qa6.f ((Qaa x1 0).f0) ((Qaa x1 0).f1) ((Qaa x0 0).f0) ((Qaa x0 0).f1)).bind fun t118 => (if t118 = true then (Qac.j2 k x0 x1 x5 ((Qaa x1 0).f0) ((Qaa x1 0).f1)) else (Qac.j2 k x0 x1 x5 ((Qaa x0 0).f0) ((Qaa x0 0).f1)))) else (none)) else (none)) else (if x5.length + x0.length < 8796093022208 then ((some (x5 ++ x0 : List (S47))).bind fun y109 => (if y109.length + x1.length < 8796093022208 then (some (y109 ++ x1)) else (none))) else (none))
def Qac.j2 : Nat → List (S47) → List (S47) → List (S47) → Int → Int → Option ((List (S47)))
 | 0, _, _, _, _, _ => none
 | k + 1, x0, x1, x5, iX, iW => if x5.length < 8796093022208 then ((some (x5 ++ [(⟨iX, iW⟩ : S47)] : List (S47))).bind fun y120 => (if 0 < (x0.length : Int) then (if (((Qaa x0 0).f0) == iX && (((Qaa x0 0).f1) == iW)) = true then (if 1 ≤ (x0.length : Int) then (Qac.j3 k (x0.drop 1) x1 y120 iX iW) else (none)) else (Qac.j3 k x0 x1 y120 iX iW)) else (none))) else (none)
def Qac.j3 : Nat → List (S47) → List (S47) → List (S47) → Int → Int → Option ((List (S47)))
 | 0, _, _, _, _, _ => none
 | k + 1, x0, x1, x5, iX, iW => if 0 < (x1.length : Int) then (if (((Qaa x1 0).f0) == iX && (((Qaa x1 0).f1) == iW)) = true then (if 1 ≤ (x1.length : Int) then (Qac.l0 k x0 (x1.drop 1) x5) else (none)) else (Qac.l0 k x0 x1 x5)) else (none)
end
def Qac.f (k : Nat) (l0 : List (S47)) (l1 : List (S47)) : Option ((List (S47))) := if 0 ≤ (wrap64 ((l0.length : Int) + (l1.length : Int))) then (if (wrap64 ((l0.length : Int) + (l1.length : Int)) : Int).toNat ≤ 17592186044416 then (Qac.l0 k l0 l1 ([])) else (none)) else (none)
theorem Qac.calls (k : Nat) (P0_ : Nat → Prop) (A0 : Option Addr) (c0 : Nat) (l0 : List (S47)) (P1_ : Nat → Prop) (A1 : Option Addr) (c1 : Nat) (l1 : List (S47)) (r : List (S47)) (w : World) (hs0 : Kd.V k47 47 w w.heap.size (fun k_ => P0_ k_) (.slice A0 l0.length c0) l0) (hs1 : Kd.V k47 47 w w.heap.size (fun k_ => P1_ k_) (.slice A1 l1.length c1) l1) (h : Qac.f k l0 l1 = some r) :
 Calls Tryz.prog 204 #[.slice A0 l0.length c0, .slice A1 l1.length c1] w fun e w' => ∃ v0_ : Value, e = .returned (v0_) ∧ Kd.R k47 47 w' w.heap.size (fun k_ => (w.heap.size ≤ k_)) v0_ r ∧ Below w.heap.size w w' := by
 have hu47 := Tryz.underlying47
 have O0 := As0 (show Kd.V k47 47 w w.heap.size (fun k_ => ((P0_ k_ ∨ P1_ k_) ∨ w.heap.size ≤ k_)) (.slice A0 l0.length c0) l0 from Kd.V_mono hs0 (fun k_ hk => .inl (.inl hk)))
 have O1 := As0 (show Kd.V k47 47 w w.heap.size (fun k_ => ((P0_ k_ ∨ P1_ k_) ∨ w.heap.size ≤ k_)) (.slice A1 l1.length c1) l1 from Kd.V_mono hs1 (fun k_ hk => .inl (.inr hk)))
 have HB := As0 (Below.refl w.heap.size w)
 have H : (if 0 ≤ (wrap64 ((l0.length : Int) + (l1.length : Int))) then (if (wrap64 ((l0.length : Int) + (l1.length : Int)) : Int).toNat ≤ 17592186044416 then (Qac.l0 k l0 l1 ([])) else (none)) else (none)) = some r := h
 clear h
 obtain ⟨ji3, hji3⟩ : ∃ j_ : Int, (wrap64 ((l0.length : Int) + (l1.length : Int))) = j_ := ⟨_, rfl⟩
 replace H : (if 0 ≤ (ji3) then (if (ji3 : Int).toNat ≤ 17592186044416 then (Qac.l0 k l0 l1 ([])) else (none)) else (none)) = some r := by first | (rw [hji3] at H; exact H) | (simp only [hji3] at H ⊢; exact H)
 have hji3w : (IntKind.i64.wrap ((l0.length : Int) + (l1.length : Int))) = ji3 := (Qbo _).trans hji3
 by_cases c4 : 0 ≤ (ji3)
 rotate_left
 ·rw [if_neg c4] at H
  exact absurd H (by simp)
 rw [if_pos c4] at H
 have c4b0 := eq_true c4
 have c4b1 := decide_eq_true c4
 clear c4
 by_cases c5 : (ji3 : Int).toNat ≤ 17592186044416
 rotate_left
 ·rw [if_neg c5] at H
  exact absurd H (by simp)
 rw [if_pos c5] at H
 have c5b0 := eq_true c5
 have c5b1 := decide_eq_true c5
 clear c5
 obtain ⟨y106, hy106⟩ : ∃ y_ : List (S47), y_ = ([]) := ⟨_, rfl⟩
 replace H : (Qac.l0 k l0 l1 y106) = some r := by first | (rw [hy106]; exact H) | exact H
 have Ny106 := As0 hy106
 clear hy106
 have H' := As0 H
 clear H
 go_enter Tryz.func204, Tryz.ntmps204
 go_wp2_with (first | ((with_reducible refine gD 12 ?_); (try (refine Qck (by rfl) ?_; dsimp only)); refine Kd.R_make0 k47 _ 47 rfl (N := 12) rfl 44 _ _ rfl ji3 rfl rfl Tryz.underlying44 (.agg #[(.int .i64 0), (.int .i64 0)]) 16 Qcq rfl (by decide) (by omega) z47 (ok := fun _ => True) (okp := fun _ => True) (Qc8 _ _ _ z47 ) (fun _ hk => hk) trivial (qR) (Nat.le_trans (Nat.mul_le_mul_right _ (qR : ji3.toNat ≤ 17592186044416)) (by omega)) (Below.refl _ _) (Nat.le_refl _) ?_; intro v107 w6 ho7 hb hg_ hnew_; clear hg_ hnew_; (first | rw [← Ny106.out] at ho7 | (simp only [Int.reduceToNat] at ho7; rw [← Ny106.out] at ho7)); replace O0 := As0 (Kd.V_elder' (by (with_reducible repeat (first | apply Kd.V_alloc | apply Kd.V_drewN | apply Kd.V_drew)); exact O0.out) (Kd.R_base ho7) hb); replace O1 := As0 (Kd.V_elder' (by (with_reducible repeat (first | apply Kd.V_alloc | apply Kd.V_drewN | apply Kd.V_drew)); exact O1.out) (Kd.R_base ho7) hb); have O108 := As0 (Kd.R_lower (Kd.R_newM (M := fun k_ => (w.heap.size ≤ k_)) ho7 (Qbi (BU HB.out)) (fun k_ h_ => h_)) (Qbi (BU HB.out))); replace HB := sB HB hb; clear hb ho7))
 go_loopg [0, 1, 5] k (fun kq v0 v1 v5 w' => ∃ (aV : List (S47)) (aM : List (S47)) (dB : List (S47)), Qbf (Qac.l0 kq aV aM dB = some r) ∧ Qbf (kq ≤ k) ∧ Qbf (Kd.V k47 47 w' w.heap.size (fun k_ => ((P0_ k_ ∨ P1_ k_) ∨ w.heap.size ≤ k_) ∧ some k_ ≠ (v5 : Value).ownBlock) v0 aV) ∧ Qbf (Kd.V k47 47 w' w.heap.size (fun k_ => ((P0_ k_ ∨ P1_ k_) ∨ w.heap.size ≤ k_) ∧ some k_ ≠ (v5 : Value).ownBlock) v1 aM) ∧ Qbf (Kd.R k47 47 w' w.heap.size (fun k_ => (w.heap.size ≤ k_)) v5 dB) ∧ Qbf (Below w.heap.size w w'))
 case atStart => exact ⟨(l0), (l1), (y106), H', ⟨Nat.le_refl _⟩, ⟨by (with_reducible repeat (first | apply Kd.V_alloc | apply Kd.V_drewN | apply Kd.V_drew)); exact O0.out⟩, ⟨by (with_reducible repeat (first | apply Kd.V_alloc | apply Kd.V_drewN | apply Kd.V_drew)); exact O1.out⟩, ⟨RU (Kd.R_mono O108.out (fun _ hk => hk.1))⟩, ⟨BU HB.out⟩⟩
 case round =>
  clear H'
  obtain ⟨aV, aM, dB, HA, HK1, dA, cX, cE, HB⟩ := hrel
  cases gk with
  | zero => exact absurd HA.out (by simp [Qac.l0])
  | succ k1 =>
   have H := HA.out
   clear HA
   simp only [Qac.l0] at H
   have C8 := As0 H
   clear H
   go_upto_region 2 with (fail)
   go_cut [20] (fun v20 wc => ∃ (kq : Nat) (x20_7 : Bool), v20 = .bool x20_7 ∧ Qbf (Qac.j1 kq aV aM dB x20_7 = some r) ∧ Qbf (kq ≤ k1) ∧ Qbf (Kd.V k47 47 wc w.heap.size (fun k_ => ((P0_ k_ ∨ P1_ k_) ∨ w.heap.size ≤ k_) ∧ some k_ ≠ (u5 : Value).ownBlock) u0 aV) ∧ Qbf (Kd.V k47 47 wc w.heap.size (fun k_ => ((P0_ k_ ∨ P1_ k_) ∨ w.heap.size ≤ k_) ∧ some k_ ≠ (u5 : Value).ownBlock) u1 aM) ∧ Qbf (Kd.R k47 47 wc w.heap.size (fun k_ => (w.heap.size ≤ k_)) u5 dB) ∧ Qbf (Below w.heap.size w wc))
   case first =>
    have H := C8.out
    clear C8
    by_cases c9 : (aV.length : Int) > 0
    rotate_left
    ·rw [if_neg c9] at H
     have c9b0 := decide_eq_false c9
     have c9b1 : decide (0 < aV.length) = false := decide_eq_false (by omega)
     clear c9
     (first | rw [c9b0] | (simp only [Qbo, Qbp]; rw [c9b0]) | skip)
     have H' := As0 H
     clear H
     obtain ⟨Ao12, co12, eo12⟩ := Kd.V_slice dA.out
     subst eo12
     go_wp2
     go_meet
     case rel => exact ⟨_, (false), eR, H', ⟨by have := HK1.out; first | omega | exact Nat.le_refl _⟩, ⟨by (with_reducible repeat (first | apply Kd.V_alloc | apply Kd.V_drewN | apply Kd.V_drew)); exact dA.out⟩, ⟨by (with_reducible repeat (first | apply Kd.V_alloc | apply Kd.V_drewN | apply Kd.V_drew)); exact cX.out⟩, ⟨RU cE.out⟩, ⟨BU HB.out⟩⟩
    rw [if_pos c9] at H
    have c9b0 := decide_eq_true c9
    have c9b1 : decide (0 < aV.length) = true := decide_eq_true (by omega)
    clear c9
    (first | rw [c9b0] | (simp only [Qbo, Qbp]; rw [c9b0]) | skip)
    have H' := As0 H
    clear H
    obtain ⟨Ao10, co10, eo10⟩ := Kd.V_slice dA.out
    subst eo10
    obtain ⟨Ao11, co11, eo11⟩ := Kd.V_slice cX.out
    subst eo11
    go_wp2
    go_meet
    case rel => exact ⟨_, (decide ((aM.length : Int) > 0)), eR, H', ⟨by have := HK1.out; first | omega | exact Nat.le_refl _⟩, ⟨by (with_reducible repeat (first | apply Kd.V_alloc | apply Kd.V_drewN | apply Kd.V_drew)); exact dA.out⟩, ⟨by (with_reducible repeat (first | apply Kd.V_alloc | apply Kd.V_drewN | apply Kd.V_drew)); exact cX.out⟩, ⟨RU cE.out⟩, ⟨BU HB.out⟩⟩
   case rest =>
    clear C8
    obtain ⟨kq, x20_7, rfl, HA, HJ7, dA, cX, cE, HB⟩ := hcut
    cases kq with
    | zero => exact absurd HA.out (by simp [Qac.j1])
    | succ kj7 =>
     have H := HA.out
     clear HA
     simp only [Qac.j1] at H
     by_cases c13 : x20_7 = true
     rotate_left
     ·replace c13 := Bool.eq_false_iff.mpr c13
      subst c13
      rw [if_neg bF] at H
      by_cases c42 : dB.length + aV.length < 8796093022208
      rotate_left
      ·rw [if_neg c42] at H
       exact absurd H (by simp)
      rw [if_pos c42] at H
      have LMc42 := As0 c42
      clear c42
      obtain ⟨y109, hy109⟩ : ∃ y_ : List (S47), y_ = (dB ++ aV) := ⟨_, rfl⟩
      replace H : (if y109.length + aM.length < 8796093022208 then (some (y109 ++ aM)) else (none)) = some r := by first | (rw [hy109]; exact H) | exact H
      have Ny109 := As0 hy109
      clear hy109
      by_cases c43 : y109.length + aM.length < 8796093022208
      rotate_left
      ·rw [if_neg c43] at H
       exact absurd H (by simp)
      rw [if_pos c43] at H
      have LMc43 := As0 c43
      clear c43
      obtain ⟨y112, hy112⟩ : ∃ y_ : List (S47), y_ = (y109 ++ aM) := ⟨_, rfl⟩
      replace H : (some y112) = some r := by first | (rw [hy112]; exact H) | exact H
      have Ny112 := As0 hy112
      clear hy112
      obtain rfl := Option.some.inj H
      obtain ⟨Ao45, co45, eo45⟩ := Kd.V_slice dA.out
      subst eo45
      go_wp2_with (first | ((with_reducible refine Qb6 (b := .append) (xs := #[.tmp 50, .tmp 51]) rfl ?_); (try (refine Qck (by rfl) ?_; dsimp only)); at_builtin; refine Kd.R_append_rows k47 (w0 := w) w.heap.size rfl (.tmp 50) (.tmp 51) 44 47 (.agg #[(.int .i64 0), (.int .i64 0)]) 16 rfl Tryz.underlying44 Qcq rfl (by decide) (by omega) u5 dB aV _ _ _ (fun k_ => (w.heap.size ≤ k_)) (fun _ => False) rfl rfl ?aO ?aR (fun _ _ h => h) (fun _ h => h.elim) ?aF ?aB ?aS ?aL ?_; (case aR => exact CU (Kd.V_reads' dA.out).2.2); (case aB => exact (BU HB.out)); (case aF => exact (fun k_ hk => (Nat.le_trans (Qbi (BU HB.out)) hk))); (case aO => exact (RU cE.out)); (case aS => exact (Qbi (BU HB.out))); (case aL => have := LMc42.out; omega); intro v110 w44 ho hb hg hat; rw [← Ny109.out] at ho; replace dA := As0 (Kd.V_afterv (ok := (fun k_ => ((P0_ k_ ∨ P1_ k_) ∨ w.heap.size ≤ k_))) (by (with_reducible repeat (first | apply Kd.V_alloc | apply Kd.V_drewN | apply Kd.V_drew)); exact dA.out) hg hat); replace cX := As0 (Kd.V_afterv (ok := (fun k_ => ((P0_ k_ ∨ P1_ k_) ∨ w.heap.size ≤ k_))) (by (with_reducible repeat (first | apply Kd.V_alloc | apply Kd.V_drewN | apply Kd.V_drew)); exact cX.out) hg hat); replace HB := As0 (hb); have O111 := As0 (ho); clear cE ho hb hg hat; obtain ⟨Ao47, co47, eo47⟩ := Kd.V_slice cX.out; subst eo47) | ((with_reducible refine Qb6 (b := .append) (xs := #[.tmp 52, .tmp 53]) rfl ?_); (try (refine Qck (by rfl) ?_; dsimp only)); at_builtin; refine Kd.R_append_rows k47 (w0 := w) w.heap.size rfl (.tmp 52) (.tmp 53) 44 47 (.agg #[(.int .i64 0), (.int .i64 0)]) 16 rfl Tryz.underlying44 Qcq rfl (by decide) (by omega) v110 y109 aM _ _ _ (fun k_ => (w.heap.size ≤ k_)) (fun _ => False) rfl rfl ?aO ?aR (fun _ _ h => h) (fun _ h => h.elim) ?aF ?aB ?aS ?aL ?_; (case aR => exact CU (Kd.V_reads' cX.out).2.2); (case aB => exact (BU HB.out)); (case aF => exact (fun k_ hk => (Nat.le_trans (Qbi (BU HB.out)) hk))); (case aO => exact (RU O111.out)); (case aS => exact (Qbi (BU HB.out))); (case aL => have := LMc43.out; omega); intro v113 w46 ho hb hg hat; rw [← Ny112.out] at ho; replace dA := As0 (Kd.V_afterv (ok := (fun k_ => ((P0_ k_ ∨ P1_ k_) ∨ w.heap.size ≤ k_))) (by (with_reducible repeat (first | apply Kd.V_alloc | apply Kd.V_drewN | apply Kd.V_drew)); exact dA.out) hg hat); replace cX := As0 (Kd.V_afterv (ok := (fun k_ => ((P0_ k_ ∨ P1_ k_) ∨ w.heap.size ≤ k_))) (by (with_reducible repeat (first | apply Kd.V_alloc | apply Kd.V_drewN | apply Kd.V_drew)); exact cX.out) hg hat); replace HB := As0 (hb); have O114 := As0 (ho); clear O111 ho hb hg hat))
      go_ret
      exact ⟨_, by first | rfl | (simp [Qa9, Qa8] <;> rfl) | (simp only [← hji3]; first | rfl | (simp [Qa9, Qa8] <;> rfl)) | (simp [*, Qa9, Qa8] <;> rfl), RU O114.out, BU HB.out⟩
     subst c13
     rw [if_pos rfl] at H
     by_cases c14 : 0 < (aV.length : Int)
     rotate_left
     ·rw [if_neg c14] at H
      exact absurd H (by simp)
     rw [if_pos c14] at H
     have c14b0 := decide_eq_true c14
     have c14b1 : decide (0 < aV.length) = true := decide_eq_true (by omega)
     clear c14
     by_cases c15 : 0 < (aM.length : Int)
     rotate_left
     ·rw [if_neg c15] at H
      exact absurd H (by simp)
     rw [if_pos c15] at H
     have c15b0 := decide_eq_true c15
     have c15b1 : decide (0 < aM.length) = true := decide_eq_true (by omega)
     clear c15
     replace H := Option.bind_eq_some_iff.mp H
     obtain ⟨t118, A160, H⟩ := H
     have A16 := As0 A160
     clear A160
     have C17 := As0 H
     clear H
     obtain ⟨Ao18, co18, eo18⟩ := Kd.V_slice dA.out
     subst eo18
     have p115 : 0 ≤ (0 : Int) := (by omega)
     have q115 : 0 < (aV.length : Int) := qR
     obtain ⟨jJ, e115, hx115_0, hx115_1⟩ := Qcc (Kd.V_reads' dA.out).2.2 0 p115 q115
     cases e115
     have qi115 : (0 < aV.length) = True := eq_true (by omega)
     (try rw [show ((0 : Int)).toNat = 0 from rfl] at hx115_0)
     (try rw [show 0 * 2 = 0 from rfl] at hx115_0)
     (try rw [Addr.add_zero'] at hx115_0)
     (try rw [show ((0 : Int)).toNat = 0 from rfl] at hx115_1)
     (try rw [show 0 * 2 = 0 from rfl] at hx115_1)
     (try rw [Addr.add_zero'] at hx115_1)
     replace p115 := eq_true p115
     replace q115 := eq_true q115
     try go_wp2_with (first | ((with_reducible refine gD 6 ?_); (try (refine Qck (by rfl) ?_; dsimp only)); refine bX ?_; intro aX hg w19 aC hb; replace dA := As0 (Kd.V_below (Kd.V_elderB (by (with_reducible repeat (first | apply Kd.V_alloc | apply Kd.V_drewN | apply Kd.V_drew)); exact dA.out) aX (Nat.le_of_eq hg.symm)) hb); replace cX := As0 (Kd.V_below (Kd.V_elderB (by (with_reducible repeat (first | apply Kd.V_alloc | apply Kd.V_drewN | apply Kd.V_drew)); exact cX.out) aX (Nat.le_of_eq hg.symm)) hb); replace cE := As0 (Kd.R_below (Kd.R_elderB (RU cE.out) aX (Nat.le_of_eq hg.symm)) hb); have dN := As0 (aC); have GW116 := gW hg HB.out; replace HB := sB HB hb; clear hb aC hg; have q20_ := cN2 dN.out))
     have n0_ : Qbf (Kd.V k47 47 ((w19.setCell ⟨aX, 0, none⟩ (.int .i64 ((Qaa aV 0).f0))).setCell ⟨aX, 1, none⟩ (.int .i64 ((Qaa aV 0).f1))) w.heap.size (fun k_ => ((P0_ k_ ∨ P1_ k_) ∨ w.heap.size ≤ k_) ∧ some k_ ≠ (u5 : Value).ownBlock ∧ k_ ≠ aX) (.slice (some jJ) aV.length co18) aV) := ⟨by (with_reducible repeat (first | apply Kd.V_alloc | apply Kd.V_drewN | apply Kd.V_drew)); exact Kd.V_mono (Kd.V_far (p := ⟨aX, 1, none⟩) (Kd.V_far (p := ⟨aX, 0, none⟩) (Kd.V_mono dA.out (fun k_ hk => (⟨hk, hk.2⟩ : _ ∧ k_ ≠ aX))) (fun _ hk => hk.2) (.int .i64 ((Qaa aV 0).f0))) (fun _ hk => hk.2) (.int .i64 ((Qaa aV 0).f1))) (fun _ hk => ⟨hk.1.1.1, ⟨hk.1.1.2, hk.1.2⟩⟩)⟩
     have n1_ : Qbf (Kd.V k47 47 ((w19.setCell ⟨aX, 0, none⟩ (.int .i64 ((Qaa aV 0).f0))).setCell ⟨aX, 1, none⟩ (.int .i64 ((Qaa aV 0).f1))) w.heap.size (fun k_ => ((P0_ k_ ∨ P1_ k_) ∨ w.heap.size ≤ k_) ∧ some k_ ≠ (u5 : Value).ownBlock ∧ k_ ≠ aX) u1 aM) := ⟨by (with_reducible repeat (first | apply Kd.V_alloc | apply Kd.V_drewN | apply Kd.V_drew)); exact Kd.V_mono (Kd.V_far (p := ⟨aX, 1, none⟩) (Kd.V_far (p := ⟨aX, 0, none⟩) (Kd.V_mono cX.out (fun k_ hk => (⟨hk, hk.2⟩ : _ ∧ k_ ≠ aX))) (fun _ hk => hk.2) (.int .i64 ((Qaa aV 0).f0))) (fun _ hk => hk.2) (.int .i64 ((Qaa aV 0).f1))) (fun _ hk => ⟨hk.1.1.1, ⟨hk.1.1.2, hk.1.2⟩⟩)⟩
     have n2_ : Qbf (Kd.R k47 47 ((w19.setCell ⟨aX, 0, none⟩ (.int .i64 ((Qaa aV 0).f0))).setCell ⟨aX, 1, none⟩ (.int .i64 ((Qaa aV 0).f1))) w.heap.size (fun k_ => (w.heap.size ≤ k_) ∧ k_ ≠ aX) u5 dB) := ⟨RU (Kd.R_mono (RF aX 1 (RF aX 0 (Kd.R_mono cE.out (fun k_ hk => (⟨hk, hk.2⟩ : _ ∧ k_ ≠ aX))) (.int .i64 ((Qaa aV 0).f0))) (.int .i64 ((Qaa aV 0).f1))) (fun _ hk => ⟨hk.1.1, hk.1.2⟩))⟩
     have n3_ : Qbf (((w19.setCell ⟨aX, 0, none⟩ (.int .i64 ((Qaa aV 0).f0))).setCell ⟨aX, 1, none⟩ (.int .i64 ((Qaa aV 0).f1))).heap[aX]? = some (.cells #[.int .i64 ((Qaa aV 0).f0), .int .i64 ((Qaa aV 0).f1)] 47 (0, 0))) := ⟨kV dN⟩
     have n4_ : Qbf (Below w.heap.size w ((w19.setCell ⟨aX, 0, none⟩ (.int .i64 ((Qaa aV 0).f0))).setCell ⟨aX, 1, none⟩ (.int .i64 ((Qaa aV 0).f1)))) := ⟨BU HB.out⟩
     (try clear dA)
     (try clear cX)
     (try clear cE)
     (try clear dN)
     (try clear HB)
     generalize ((w19.setCell ⟨aX, 0, none⟩ (.int .i64 ((Qaa aV 0).f0))).setCell ⟨aX, 1, none⟩ (.int .i64 ((Qaa aV 0).f1))) = w21 at n0_ n1_ n2_ n3_ n4_ ⊢
     have dA := n0_
     have cX := n1_
     have cE := n2_
     have dN := n3_
     have HB := n4_
     clear n0_ n1_ n2_ n3_ n4_
     replace dA := As0 (Kd.V_drew dA.out)
     replace cX := As0 (Kd.V_drew cX.out)
     replace cE := As0 (Kd.R_drew cE.out)
     replace dN := As0 (Qbm dN.out)
     replace HB := As0 (bd1 HB.out)
     obtain ⟨Ao23, co23, eo23⟩ := Kd.V_slice cX.out
     (first | subst eo23 | (injection eo23 with f1_ f2_ f3_; have f4_ := f1_.symm; have f5_ := f3_.symm; clear f1_ f2_ f3_; subst f4_; subst f5_))
     have p117 : 0 ≤ (0 : Int) := (by omega)
     have q117 : 0 < (aM.length : Int) := qR
     obtain ⟨eP, e117, lY, lX⟩ := Qcc (Kd.V_reads' cX.out).2.2 0 p117 q117
     cases e117
     have qi117 : (0 < aM.length) = True := eq_true (by omega)
     (try rw [show ((0 : Int)).toNat = 0 from rfl] at lY)
     (try rw [show 0 * 2 = 0 from rfl] at lY)
     (try rw [Addr.add_zero'] at lY)
     (try rw [show ((0 : Int)).toNat = 0 from rfl] at lX)
     (try rw [show 0 * 2 = 0 from rfl] at lX)
     (try rw [Addr.add_zero'] at lX)
     replace p117 := eq_true p117
     replace q117 := eq_true q117
     refine Qb1 (n := 5) (S := fun w' => w'.cell? ⟨aX, 0, none⟩ = some (.int .i64 ((Qaa aV 0).f0)) ∧ w'.cell? ⟨aX, 1, none⟩ = some (.int .i64 ((Qaa aV 0).f1)) ∧ w'.cell? eP = some (.int .i64 ((Qaa aM 0).f0)) ∧ w'.cell? ⟨eP.block, eP.off + 1, none⟩ = some (.int .i64 ((Qaa aM 0).f1))) (ds := []) (bb 5 0) (by kernel_rfl) rfl rfl ⟨bc dN 0, bc dN 1, lY, lX⟩ (fun aA => ?_)
     generalize w21.drew = w22 at dA cX cE dN HB lY lX aA ⊢
     refine pu 0 24 (bb 5 1) ?_
     refine pu 1 25 (bb 5 3) ?_
     refine tu aA 2 26 (bb 5 7) ?_
     refine tu aA 3 27 (bb 5 15) ?_
     refine one_ (i := 4) (N := some 28) (bb 5 31) rfl rfl (by kernel_rfl) (by decide) (fun K hK => ?_)
     refine gG Tryz.func122 #[.agg #[.int .i64 ((Qaa aM 0).f0), .int .i64 ((Qaa aM 0).f1)], .agg #[.int .i64 ((Qaa aV 0).f0), .int .i64 ((Qaa aV 0).f1)]] ?_
     with_reducible refine (Qa6.calls ((Qaa aM 0).f0) ((Qaa aM 0).f1) ((Qaa aV 0).f0) ((Qaa aV 0).f1) t118 _ A16.out).mono ?_
     rintro e w24 ⟨rfl, hb⟩
     have HS2_ := (hb.cell (World.block_lt_of_cell? _ _ (aA.2.2.1))).trans (aA.2.2.1)
     have HS3_ := (hb.cell (World.block_lt_of_cell? _ _ (aA.2.2.2))).trans (aA.2.2.2)
     refine ⟨_, rfl, ?_⟩
     replace dA := As0 (Kd.V_below (by (with_reducible repeat (first | apply Kd.V_alloc | apply Kd.V_drewN | apply Kd.V_drew)); exact dA.out) hb)
     replace cX := As0 (Kd.V_below (by (with_reducible repeat (first | apply Kd.V_alloc | apply Kd.V_drewN | apply Kd.V_drew)); exact cX.out) hb)
     replace cE := As0 (Kd.R_below (RU cE.out) hb)
     replace dN := kB dN hb
     replace HB := sB HB hb
     (try clear hb)
     (try clear hb2)
     (try clear hk)
     (try clear hi)
     refine hK.out _ _ ⟨bc dN 0, bc dN 1, HS2_, HS3_⟩ (fun aA => ?_)
     clear hK K
     refine Qbz (a' := ?_) ?_ ?_
     rotate_left
     ·show Act.put _ (some 28) _ = _
      simp only [Act.put, sL1, sL2, sL3, Qbo, Qbp]
      rfl
     refine Qch (by kernel_rfl) ?_
     go_upto_if 28 with (fail)
     go_cut [] (fun wc => ∃ (kq : Nat) (aJ : Int) (aI : Int), Qbf (Qac.j2 kq aV aM dB aJ aI = some r) ∧ Qbf (kq ≤ kj7) ∧ Qbf (Kd.V k47 47 wc w.heap.size (fun k_ => ((P0_ k_ ∨ P1_ k_) ∨ w.heap.size ≤ k_) ∧ some k_ ≠ (u5 : Value).ownBlock ∧ k_ ≠ aX) (.slice (some jJ) aV.length co18) aV) ∧ Qbf (Kd.V k47 47 wc w.heap.size (fun k_ => ((P0_ k_ ∨ P1_ k_) ∨ w.heap.size ≤ k_) ∧ some k_ ≠ (u5 : Value).ownBlock ∧ k_ ≠ aX) (.slice (some eP) aM.length co23) aM) ∧ Qbf (Kd.R k47 47 wc w.heap.size (fun k_ => (w.heap.size ≤ k_) ∧ k_ ≠ aX) u5 dB) ∧ Qbf (wc.heap[aX]? = some (.cells #[.int .i64 aJ, .int .i64 aI] 47 (0, 0))) ∧ Qbf (Below w.heap.size w wc))
     case first =>
      have H := C17.out
      clear C17
      by_cases c25 : t118 = true
      rotate_left
      ·replace c25 := Bool.eq_false_iff.mpr c25
       subst c25
       rw [if_neg bF] at H
       have H' := As0 H
       clear H
       go_wp2
       go_meet
       case rel => exact ⟨_, ((Qaa aV 0).f0), ((Qaa aV 0).f1), H', ⟨by have := HK1.out; have := HJ7.out; first | omega | exact Nat.le_refl _⟩, ⟨by (with_reducible repeat (first | apply Kd.V_alloc | apply Kd.V_drewN | apply Kd.V_drew)); exact dA.out⟩, ⟨by (with_reducible repeat (first | apply Kd.V_alloc | apply Kd.V_drewN | apply Kd.V_drew)); exact cX.out⟩, ⟨RU cE.out⟩, ⟨bU dN.out⟩, ⟨BU HB.out⟩⟩
      subst c25
      rw [if_pos rfl] at H
      have H' := As0 H
      clear H
      have p119 : 0 ≤ (0 : Int) := (by omega)
      have q119 : 0 < (aM.length : Int) := qR
      obtain ⟨ad119, e119, hx119_0, hx119_1⟩ := Qcc (Kd.V_reads' cX.out).2.2 0 p119 q119
      obtain rfl : eP = ad119 := (by injection e119)
      have qi119 : (0 < aM.length) = True := eq_true (by omega)
      (try rw [show ((0 : Int)).toNat = 0 from rfl] at hx119_0)
      (try rw [show 0 * 2 = 0 from rfl] at hx119_0)
      (try rw [Addr.add_zero'] at hx119_0)
      (try rw [show ((0 : Int)).toNat = 0 from rfl] at hx119_1)
      (try rw [show 0 * 2 = 0 from rfl] at hx119_1)
      (try rw [Addr.add_zero'] at hx119_1)
      replace p119 := eq_true p119
      replace q119 := eq_true q119
      have q26_ := cN2 dN.out
      go_wp2
      go_meet
      case rel => exact ⟨_, ((Qaa aM 0).f0), ((Qaa aM 0).f1), H', ⟨by have := HK1.out; have := HJ7.out; first | omega | exact Nat.le_refl _⟩, ⟨by (with_reducible repeat (first | apply Kd.V_alloc | apply Kd.V_drewN | apply Kd.V_drew)); exact Kd.V_mono (Kd.V_far (p := ⟨aX, 1, none⟩) (Kd.V_far (p := ⟨aX, 0, none⟩) (Kd.V_mono dA.out (fun k_ hk => (⟨hk, hk.2.2⟩ : _ ∧ k_ ≠ aX))) (fun _ hk => hk.2) (.int .i64 ((Qaa aM 0).f0))) (fun _ hk => hk.2) (.int .i64 ((Qaa aM 0).f1))) (fun _ hk => ⟨hk.1.1, ⟨hk.1.2.1, hk.1.2.2⟩⟩)⟩, ⟨by (with_reducible repeat (first | apply Kd.V_alloc | apply Kd.V_drewN | apply Kd.V_drew)); exact Kd.V_mono (Kd.V_far (p := ⟨aX, 1, none⟩) (Kd.V_far (p := ⟨aX, 0, none⟩) (Kd.V_mono cX.out (fun k_ hk => (⟨hk, hk.2.2⟩ : _ ∧ k_ ≠ aX))) (fun _ hk => hk.2) (.int .i64 ((Qaa aM 0).f0))) (fun _ hk => hk.2) (.int .i64 ((Qaa aM 0).f1))) (fun _ hk => ⟨hk.1.1, ⟨hk.1.2.1, hk.1.2.2⟩⟩)⟩, ⟨RU (Kd.R_mono (RF aX 1 (RF aX 0 (Kd.R_mono cE.out (fun k_ hk => (⟨hk, hk.2⟩ : _ ∧ k_ ≠ aX))) (.int .i64 ((Qaa aM 0).f0))) (.int .i64 ((Qaa aM 0).f1))) (fun _ hk => ⟨hk.1.1, hk.1.2⟩))⟩, ⟨kV dN⟩, ⟨BU HB.out⟩⟩
     case rest =>
      clear C17
      obtain ⟨kq, aJ, aI, HA, HJ16, dA, cX, cE, dN, HB⟩ := hcut
      cases kq with
      | zero => exact absurd HA.out (by simp [Qac.j2])
      | succ kj16 =>
       have H := HA.out
       clear HA
       simp only [Qac.j2] at H
       by_cases c27 : dB.length < 8796093022208
       rotate_left
       ·rw [if_neg c27] at H
        exact absurd H (by simp)
       rw [if_pos c27] at H
       have LMc27 := As0 c27
       clear c27
       obtain ⟨y120, hy120⟩ : ∃ y_ : List (S47), y_ = (dB ++ [(⟨aJ, aI⟩ : S47)]) := ⟨_, rfl⟩
       replace H : (if 0 < (aV.length : Int) then (if (((Qaa aV 0).f0) == aJ && (((Qaa aV 0).f1) == aI)) = true then (if 1 ≤ (aV.length : Int) then (Qac.j3 kj16 (aV.drop 1) aM y120 aJ aI) else (none)) else (Qac.j3 kj16 aV aM y120 aJ aI)) else (none)) = some r := by first | (rw [hy120]; exact H) | exact H
       have Ny120 := As0 hy120
       clear hy120
       by_cases c28 : 0 < (aV.length : Int)
       rotate_left
       ·rw [if_neg c28] at H
        exact absurd H (by simp)
       rw [if_pos c28] at H
       have c28b0 := decide_eq_true c28
       have c28b1 : decide (0 < aV.length) = true := decide_eq_true (by omega)
       clear c28
       have C29 := As0 H
       clear H
       have q30_ := cN2 dN.out
       try go_wp2_with (first | ((with_reducible refine Qb6 (b := .append) (xs := #[.tmp 32, .tmp 34]) rfl ?_); (try (refine Qck (by rfl) ?_; dsimp only)); at_builtin; refine Kd.R_append k47 (w0 := w) w.heap.size rfl (.tmp 32) (.tmp 34) 44 47 (.agg #[(.int .i64 0), (.int .i64 0)]) 16 rfl Tryz.underlying44 Qcq rfl (by decide) (by omega) u5 dB (⟨aJ, aI⟩ : S47) [.int .i64 aJ, .int .i64 aI] (fun k_ => (w.heap.size ≤ k_) ∧ k_ ≠ aX) (fun _ => False) rfl rfl ?aP (fun _ hk => hk.elim) ?aF ?aO ?aB ?aS ?aL ?_; (case aP => exact Qc8 _ _ _ (⟨aJ, aI⟩ : S47)); (case aB => exact (BU HB.out)); (case aF => exact (fun k_ hk => ⟨(Nat.le_trans (Qbi (BU HB.out)) hk), Kd.freshB (bU dN.out) k_ hk⟩)); (case aO => exact (RU cE.out)); (case aS => exact (Qbi (BU HB.out))); (case aL => have := LMc27.out; omega); intro v121 w31 ho hb hg hat; rw [← Ny120.out] at ho; replace dA := As0 (Kd.V_afterv (ok := (fun k_ => ((P0_ k_ ∨ P1_ k_) ∨ w.heap.size ≤ k_) ∧ k_ ≠ aX)) (by (with_reducible repeat (first | apply Kd.V_alloc | apply Kd.V_drewN | apply Kd.V_drew)); exact Kd.V_mono dA.out (fun _ hk => ⟨⟨hk.1, hk.2.2⟩, hk.2.1⟩)) hg hat); replace cX := As0 (Kd.V_afterv (ok := (fun k_ => ((P0_ k_ ∨ P1_ k_) ∨ w.heap.size ≤ k_) ∧ k_ ≠ aX)) (by (with_reducible repeat (first | apply Kd.V_alloc | apply Kd.V_drewN | apply Kd.V_drew)); exact Kd.V_mono cX.out (fun _ hk => ⟨⟨hk.1, hk.2.2⟩, hk.2.1⟩)) hg hat); replace dN := As0 (Qbu (bU dN.out) hg (Kd.R_away cE.out (fun _ hk => hk.2))); replace HB := As0 (hb); have O122 := As0 (ho); clear cE ho hb hg hat))
       replace dA := As0 (Kd.V_drew dA.out)
       replace cX := As0 (Kd.V_drew cX.out)
       replace O122 := As0 (Kd.R_drew O122.out)
       replace dN := As0 (Qbm dN.out)
       replace HB := As0 (bd1 HB.out)
       have p123 : 0 ≤ (0 : Int) := (by omega)
       have q123 : 0 < (aV.length : Int) := qR
       obtain ⟨ad123, e123, lW, lV⟩ := Qcc (Kd.V_reads' dA.out).2.2 0 p123 q123
       obtain rfl : jJ = ad123 := (by injection e123)
       have qi123 : (0 < aV.length) = True := eq_true (by omega)
       (try rw [show ((0 : Int)).toNat = 0 from rfl] at lW)
       (try rw [show 0 * 2 = 0 from rfl] at lW)
       (try rw [Addr.add_zero'] at lW)
       (try rw [show ((0 : Int)).toNat = 0 from rfl] at lV)
       (try rw [show 0 * 2 = 0 from rfl] at lV)
       (try rw [Addr.add_zero'] at lV)
       replace p123 := eq_true p123
       replace q123 := eq_true q123
       refine Qb1 (n := 5) (S := fun w' => w'.cell? ⟨aX, 0, none⟩ = some (.int .i64 aJ) ∧ w'.cell? ⟨aX, 1, none⟩ = some (.int .i64 aI) ∧ w'.cell? jJ = some (.int .i64 ((Qaa aV 0).f0)) ∧ w'.cell? ⟨jJ.block, jJ.off + 1, none⟩ = some (.int .i64 ((Qaa aV 0).f1))) (ds := []) (bb 5 0) (by kernel_rfl) rfl rfl ⟨bc dN 0, bc dN 1, lW, lV⟩ (fun aA => ?_)
       generalize w31.drew = w32 at dA cX O122 dN HB lW lV aA ⊢
       refine pu 0 36 (bb 5 1) ?_
       refine pu 1 37 (bb 5 3) ?_
       refine tu aA 2 38 (bb 5 7) ?_
       refine tu aA 3 39 (bb 5 15) ?_
       refine pu 4 40 (bb 5 31) ?_
       refine Qch (by kernel_rfl) ?_
       go_upto_if 40 with (fail)
       go_cut [0] (fun v0 wc => ∃ (kq : Nat) (x0_28 : List (S47)), Qbf (Qac.j3 kq x0_28 aM y120 aJ aI = some r) ∧ Qbf (kq ≤ kj16) ∧ Qbf (Kd.V k47 47 wc w.heap.size (fun k_ => ((P0_ k_ ∨ P1_ k_) ∨ w.heap.size ≤ k_) ∧ some k_ ≠ (v121 : Value).ownBlock ∧ k_ ≠ aX) v0 x0_28) ∧ Qbf (Kd.V k47 47 wc w.heap.size (fun k_ => ((P0_ k_ ∨ P1_ k_) ∨ w.heap.size ≤ k_) ∧ some k_ ≠ (v121 : Value).ownBlock ∧ k_ ≠ aX) (.slice (some eP) aM.length co23) aM) ∧ Qbf (Kd.R k47 47 wc w.heap.size (fun k_ => (w.heap.size ≤ k_) ∧ k_ ≠ aX) v121 y120) ∧ Qbf (wc.heap[aX]? = some (.cells #[.int .i64 aJ, .int .i64 aI] 47 (0, 0))) ∧ Qbf (Below w.heap.size w wc))
       case first =>
        have H := C29.out
        clear C29
        by_cases c33 : (((Qaa aV 0).f0) == aJ && (((Qaa aV 0).f1) == aI)) = true
        rotate_left
        ·rw [if_neg c33] at H
         have c33b0 : (((Qaa aV 0).f0) == aJ && (((Qaa aV 0).f1) == aI)) = false := by simpa using c33
         (try (have c33b1 : decide (((Qaa aV 0).f0) = aJ && (((Qaa aV 0).f1) == aI)) = false := by simpa using c33))
         (try (have c33b2 : (((Qaa aV 0).f0) == aJ && (((Qaa aV 0).f1) == aI)) = false := by simpa using c33))
         (try (have c33b3 : ¬ (((Qaa aV 0).f0) = aJ && (((Qaa aV 0).f1) == aI)) := by simpa using c33))
         clear c33
         (first | rw [c33b0] | (simp only [Qbo, Qbp]; rw [c33b0]) | skip)
         have H' := As0 H
         clear H
         go_wp2
         go_meet
         case rel => exact ⟨_, (aV), H', ⟨by have := HK1.out; have := HJ7.out; have := HJ16.out; first | omega | exact Nat.le_refl _⟩, ⟨by (with_reducible repeat (first | apply Kd.V_alloc | apply Kd.V_drewN | apply Kd.V_drew)); exact Kd.V_mono dA.out (fun _ hk => ⟨hk.1.1, ⟨hk.2, hk.1.2⟩⟩)⟩, ⟨by (with_reducible repeat (first | apply Kd.V_alloc | apply Kd.V_drewN | apply Kd.V_drew)); exact Kd.V_mono cX.out (fun _ hk => ⟨hk.1.1, ⟨hk.2, hk.1.2⟩⟩)⟩, ⟨RU O122.out⟩, ⟨bU dN.out⟩, ⟨BU HB.out⟩⟩
        rw [if_pos c33] at H
        have c33b0 : (((Qaa aV 0).f0) == aJ && (((Qaa aV 0).f1) == aI)) = true := c33
        (try (have c33b1 : decide (((Qaa aV 0).f0) = aJ && (((Qaa aV 0).f1) == aI)) = true := by simpa using c33))
        (try (have c33b2 : (((Qaa aV 0).f0) == aJ && (((Qaa aV 0).f1) == aI)) = true := by simpa using c33))
        clear c33
        (first | rw [c33b0] | (simp only [Qbo, Qbp]; rw [c33b0]) | skip)
        by_cases c34 : 1 ≤ (aV.length : Int)
        rotate_left
        ·rw [if_neg c34] at H
         exact absurd H (by simp)
        rw [if_pos c34] at H
        have c34b0 := eq_true c34
        have c34b1 := decide_eq_true c34
        clear c34
        obtain ⟨y124, hy124⟩ : ∃ y_ : List (S47), y_ = (aV.drop 1) := ⟨_, rfl⟩
        replace H : (Qac.j3 kj16 y124 aM y120 aJ aI) = some r := by first | (rw [hy124]; exact H) | exact H
        have Ny124 := As0 hy124
        clear hy124
        have H' := As0 H
        clear H
        have q35 : (1 : Int) ≤ ((aV.length : Int) : Int) := qR
        obtain ⟨i035, hi035, _, hsz35, _⟩ := info_parts Qcq
        have hroom35 : aV.length ≤ co18 := (Kd.V_reads' dA.out).2.1
        have hC35 : Kd.F k47 _ _ (some jJ) aV.length aV := (Kd.V_at (base := w.heap.size) dA.out).2.2
        have hcut35 := cut_from (P := Tryz.prog) 44 47 .i64 Tryz.underlying44 hi035 2 hsz35 (some jJ) aV.length co18 1 (by omega) q35
        have hr35 := Kd.F_cut (m := (1 : Int).toNat) (c := co18) hC35 (by omega) hroom35
        obtain ⟨A35, hA35⟩ : ∃ Aq_, Aq_ = (if co18 = (1 : Int).toNat then (some jJ) else ((some jJ) : Option Addr).map (·.add ((1 : Int).toNat * 2))) := ⟨_, rfl⟩
        obtain ⟨c35, hc35⟩ : ∃ cq_, cq_ = co18 - (1 : Int).toNat := ⟨_, rfl⟩
        have hy35 : y124.length = aV.length - (1 : Int).toNat := (by rw [Ny124.out, List.length_drop] <;> omega)
        rw [show (aV).drop (1 : Int).toNat = y124 from Ny124.out.symm] at hr35
        replace hr35 : Kd.F k47 _ _ A35 y124.length y124 := (by rw [hA35]; exact hr35)
        rw [← hy35, ← hA35, ← hc35] at hcut35
        have O128 := As0 (show Kd.V k47 47 _ w.heap.size _ (.slice A35 y124.length c35) y124 from Kd.V_mk (by rw [hy35, hc35]; exact Nat.sub_le_sub_right hroom35 _) hr35)
        have C128 := As0 (show y124.length ≤ c35 from by rw [hy35, hc35]; exact Nat.sub_le_sub_right hroom35 _)
        clear hr35 hC35 hroom35 hi035 hsz35 hc35
        have KY35 := As0 hy35
        have KA35 := As0 hA35
        clear hy35 hA35
        replace q35 := eq_true q35
        go_wp2
        go_meet
        case rel => exact ⟨_, (y124), H', ⟨by have := HK1.out; have := HJ7.out; have := HJ16.out; first | omega | exact Nat.le_refl _⟩, ⟨by (with_reducible repeat (first | apply Kd.V_alloc | apply Kd.V_drewN | apply Kd.V_drew)); exact Kd.V_mono O128.out (fun _ hk => ⟨hk.1.1, ⟨hk.2, hk.1.2⟩⟩)⟩, ⟨by (with_reducible repeat (first | apply Kd.V_alloc | apply Kd.V_drewN | apply Kd.V_drew)); exact Kd.V_mono cX.out (fun _ hk => ⟨hk.1.1, ⟨hk.2, hk.1.2⟩⟩)⟩, ⟨RU O122.out⟩, ⟨bU dN.out⟩, ⟨BU HB.out⟩⟩
       case rest =>
        clear C29
        obtain ⟨kq, x0_28, HA, HJ28, dA, cX, cE, dN, HB⟩ := hcut
        cases kq with
        | zero => exact absurd HA.out (by simp [Qac.j3])
        | succ kj28 =>
         have H := HA.out
         clear HA
         simp only [Qac.j3] at H
         by_cases c36 : 0 < (aM.length : Int)
         rotate_left
         ·rw [if_neg c36] at H
          exact absurd H (by simp)
         rw [if_pos c36] at H
         have c36b0 := decide_eq_true c36
         have c36b1 : decide (0 < aM.length) = true := decide_eq_true (by omega)
         clear c36
         by_cases c37 : (((Qaa aM 0).f0) == aJ && (((Qaa aM 0).f1) == aI)) = true
         rotate_left
         ·rw [if_neg c37] at H
          have c37b0 : (((Qaa aM 0).f0) == aJ && (((Qaa aM 0).f1) == aI)) = false := by simpa using c37
          (try (have c37b1 : decide (((Qaa aM 0).f0) = aJ && (((Qaa aM 0).f1) == aI)) = false := by simpa using c37))
          (try (have c37b2 : (((Qaa aM 0).f0) == aJ && (((Qaa aM 0).f1) == aI)) = false := by simpa using c37))
          (try (have c37b3 : ¬ (((Qaa aM 0).f0) = aJ && (((Qaa aM 0).f1) == aI)) := by simpa using c37))
          clear c37
          have H' := As0 H
          clear H
          try go_wp2
          replace dA := As0 (Kd.V_drew dA.out)
          replace cX := As0 (Kd.V_drew cX.out)
          replace cE := As0 (Kd.R_drew cE.out)
          replace dN := As0 (Qbm dN.out)
          replace HB := As0 (bd1 HB.out)
          have p129 : 0 ≤ (0 : Int) := (by omega)
          have q129 : 0 < (aM.length : Int) := qR
          obtain ⟨ad129, e129, eM, eL⟩ := Qcc (Kd.V_reads' cX.out).2.2 0 p129 q129
          obtain rfl : eP = ad129 := (by injection e129)
          have qi129 : (0 < aM.length) = True := eq_true (by omega)
          (try rw [show ((0 : Int)).toNat = 0 from rfl] at eM)
          (try rw [show 0 * 2 = 0 from rfl] at eM)
          (try rw [Addr.add_zero'] at eM)
          (try rw [show ((0 : Int)).toNat = 0 from rfl] at eL)
          (try rw [show 0 * 2 = 0 from rfl] at eL)
          (try rw [Addr.add_zero'] at eL)
          replace p129 := eq_true p129
          replace q129 := eq_true q129
          refine Qb1 (n := 5) (S := fun w' => w'.cell? ⟨aX, 0, none⟩ = some (.int .i64 aJ) ∧ w'.cell? ⟨aX, 1, none⟩ = some (.int .i64 aI) ∧ w'.cell? eP = some (.int .i64 ((Qaa aM 0).f0)) ∧ w'.cell? ⟨eP.block, eP.off + 1, none⟩ = some (.int .i64 ((Qaa aM 0).f1))) (ds := []) (bb 5 0) (by kernel_rfl) rfl rfl ⟨bc dN 0, bc dN 1, eM, eL⟩ (fun aA => ?_)
          generalize wc.drew = w41 at dA cX cE dN HB eM eL aA ⊢
          refine pu 0 43 (bb 5 1) ?_
          refine pu 1 44 (bb 5 3) ?_
          refine tu aA 2 45 (bb 5 7) ?_
          refine tu aA 3 46 (bb 5 15) ?_
          refine pu 4 47 (bb 5 31) ?_
          refine Qch (by kernel_rfl) ?_
          try go_wp2
          go_roundg kj28
          case measure => have := HK1.out; have := HJ7.out; have := HJ16.out; have := HJ28.out; omega
          case rel => exact ⟨(x0_28), (aM), (y120), H', ⟨by have := HK1.out; have := HJ7.out; have := HJ16.out; have := HJ28.out; omega⟩, ⟨by (with_reducible repeat (first | apply Kd.V_alloc | apply Kd.V_drewN | apply Kd.V_drew)); exact Kd.V_mono dA.out (fun _ hk => ⟨hk.1, hk.2.1⟩)⟩, ⟨by (with_reducible repeat (first | apply Kd.V_alloc | apply Kd.V_drewN | apply Kd.V_drew)); exact Kd.V_mono cX.out (fun _ hk => ⟨hk.1, hk.2.1⟩)⟩, ⟨RU (Kd.R_mono cE.out (fun _ hk => hk.1))⟩, ⟨BU HB.out⟩⟩
         rw [if_pos c37] at H
         have c37b0 : (((Qaa aM 0).f0) == aJ && (((Qaa aM 0).f1) == aI)) = true := c37
         (try (have c37b1 : decide (((Qaa aM 0).f0) = aJ && (((Qaa aM 0).f1) == aI)) = true := by simpa using c37))
         (try (have c37b2 : (((Qaa aM 0).f0) == aJ && (((Qaa aM 0).f1) == aI)) = true := by simpa using c37))
         clear c37
         by_cases c38 : 1 ≤ (aM.length : Int)
         rotate_left
         ·rw [if_neg c38] at H
          exact absurd H (by simp)
         rw [if_pos c38] at H
         have c38b0 := eq_true c38
         have c38b1 := decide_eq_true c38
         clear c38
         obtain ⟨y130, hy130⟩ : ∃ y_ : List (S47), y_ = (aM.drop 1) := ⟨_, rfl⟩
         replace H : (Qac.l0 kj28 x0_28 y130 y120) = some r := by first | (rw [hy130]; exact H) | exact H
         have Ny130 := As0 hy130
         clear hy130
         have H' := As0 H
         clear H
         try go_wp2
         replace dA := As0 (Kd.V_drew dA.out)
         replace cX := As0 (Kd.V_drew cX.out)
         replace cE := As0 (Kd.R_drew cE.out)
         replace dN := As0 (Qbm dN.out)
         replace HB := As0 (bd1 HB.out)
         have p129 : 0 ≤ (0 : Int) := (by omega)
         have q129 : 0 < (aM.length : Int) := qR
         obtain ⟨ad129, e129, eM, eL⟩ := Qcc (Kd.V_reads' cX.out).2.2 0 p129 q129
         obtain rfl : eP = ad129 := (by injection e129)
         have qi129 : (0 < aM.length) = True := eq_true (by omega)
         (try rw [show ((0 : Int)).toNat = 0 from rfl] at eM)
         (try rw [show 0 * 2 = 0 from rfl] at eM)
         (try rw [Addr.add_zero'] at eM)
         (try rw [show ((0 : Int)).toNat = 0 from rfl] at eL)
         (try rw [show 0 * 2 = 0 from rfl] at eL)
         (try rw [Addr.add_zero'] at eL)
         replace p129 := eq_true p129
         replace q129 := eq_true q129
         refine Qb1 (n := 5) (S := fun w' => w'.cell? ⟨aX, 0, none⟩ = some (.int .i64 aJ) ∧ w'.cell? ⟨aX, 1, none⟩ = some (.int .i64 aI) ∧ w'.cell? eP = some (.int .i64 ((Qaa aM 0).f0)) ∧ w'.cell? ⟨eP.block, eP.off + 1, none⟩ = some (.int .i64 ((Qaa aM 0).f1))) (ds := []) (bb 5 0) (by kernel_rfl) rfl rfl ⟨bc dN 0, bc dN 1, eM, eL⟩ (fun aA => ?_)
         generalize wc.drew = w39 at dA cX cE dN HB eM eL aA ⊢
         refine pu 0 43 (bb 5 1) ?_
         refine pu 1 44 (bb 5 3) ?_
         refine tu aA 2 45 (bb 5 7) ?_
         refine tu aA 3 46 (bb 5 15) ?_
         refine pu 4 47 (bb 5 31) ?_
         refine Qch (by kernel_rfl) ?_
         have q40 : (1 : Int) ≤ ((aM.length : Int) : Int) := qR
         obtain ⟨i040, hi040, _, hsz40, _⟩ := info_parts Qcq
         have hroom40 : aM.length ≤ co23 := (Kd.V_reads' cX.out).2.1
         have hC40 : Kd.F k47 _ _ (some eP) aM.length aM := (Kd.V_at (base := w.heap.size) cX.out).2.2
         have hcut40 := cut_from (P := Tryz.prog) 44 47 .i64 Tryz.underlying44 hi040 2 hsz40 (some eP) aM.length co23 1 (by omega) q40
         have hr40 := Kd.F_cut (m := (1 : Int).toNat) (c := co23) hC40 (by omega) hroom40
         obtain ⟨A40, hA40⟩ : ∃ Aq_, Aq_ = (if co23 = (1 : Int).toNat then (some eP) else ((some eP) : Option Addr).map (·.add ((1 : Int).toNat * 2))) := ⟨_, rfl⟩
         obtain ⟨c40, hc40⟩ : ∃ cq_, cq_ = co23 - (1 : Int).toNat := ⟨_, rfl⟩
         have hy40 : y130.length = aM.length - (1 : Int).toNat := (by rw [Ny130.out, List.length_drop] <;> omega)
         rw [show (aM).drop (1 : Int).toNat = y130 from Ny130.out.symm] at hr40
         replace hr40 : Kd.F k47 _ _ A40 y130.length y130 := (by rw [hA40]; exact hr40)
         rw [← hy40, ← hA40, ← hc40] at hcut40
         have O134 := As0 (show Kd.V k47 47 _ w.heap.size _ (.slice A40 y130.length c40) y130 from Kd.V_mk (by rw [hy40, hc40]; exact Nat.sub_le_sub_right hroom40 _) hr40)
         have C134 := As0 (show y130.length ≤ c40 from by rw [hy40, hc40]; exact Nat.sub_le_sub_right hroom40 _)
         clear hr40 hC40 hroom40 hi040 hsz40 hc40
         have KY40 := As0 hy40
         have KA40 := As0 hA40
         clear hy40 hA40
         replace q40 := eq_true q40
         try go_wp2
         go_roundg kj28
         case measure => have := HK1.out; have := HJ7.out; have := HJ16.out; have := HJ28.out; omega
         case rel => exact ⟨(x0_28), (y130), (y120), H', ⟨by have := HK1.out; have := HJ7.out; have := HJ16.out; have := HJ28.out; omega⟩, ⟨by (with_reducible repeat (first | apply Kd.V_alloc | apply Kd.V_drewN | apply Kd.V_drew)); exact Kd.V_mono dA.out (fun _ hk => ⟨hk.1, hk.2.1⟩)⟩, ⟨by (with_reducible repeat (first | apply Kd.V_alloc | apply Kd.V_drewN | apply Kd.V_drew)); exact Kd.V_mono O134.out (fun _ hk => ⟨hk.1, hk.2.1⟩)⟩, ⟨RU (Kd.R_mono cE.out (fun _ hk => hk.1))⟩, ⟨BU HB.out⟩⟩
def Qak.j0 : Nat → List (S47) → Int → List (S47) → Bool → Option ((List (S47)))
 | 0, _, _, _, _ => none
 | k + 1, x0, x5, x6, x33 => if x33 = true then (if 0 ≤ (wrap64 (x5 + 1)) then (if (wrap64 (x5 + 1)) ≤ (x0.length : Int) then ((some (x0.drop ((wrap64 (x5 + 1)) : Int).toNat : List (S47))).bind fun y160 => (if x6.length + y160.length < 8796093022208 then (some (x6 ++ y160)) else (none))) else (none)) else (none)) else (if 0 ≤ x5 then (if x5 ≤ (x0.length : Int) then ((some (x0.drop (x5 : Int).toNat : List (S47))).bind fun y167 => (if x6.length + y167.length < 8796093022208 then (some (x6 ++ y167)) else (none))) else (none)) else (none))
def Qak.f (k : Nat) (l0 : List (S47)) (a1_0 a1_1 : Int) : Option ((List (S47))) := (Qa3.f k l0 a1_0 a1_1).bind fun aQ => (if 0 ≤ (wrap64 ((l0.length : Int) + 1)) then (if (wrap64 ((l0.length : Int) + 1) : Int).toNat ≤ 17592186044416 then ((some ([] : List (S47))).bind fun y143 => (if 0 ≤ aQ then (if aQ ≤ (l0.length : Int) then ((some (l0.take (aQ : Int).toNat : List (S47))).bind fun y146 => (if y143.length + y146.length < 8796093022208 then ((some (y143 ++ y146 : List (S47))).bind fun y150 => ((some (([(⟨a1_0, a1_1⟩ : S47)] : List (S47)) : List (S47))).bind fun y153 => (if y150.length + y153.length < 8796093022208 then ((some (y150 ++ y153 : List (S47))).bind fun y156 => (if aQ < (l0.length : Int) then (Qak.j0 k l0 aQ y156 (((Qaa l0 aQ).f0) == a1_0 && (((Qaa l0 aQ).f1) == a1_1))) else (Qak.j0 k l0 aQ y156 false))) else (none)))) else (none))) else (none)) else (none))) else (none)) else (none))
def Qak.T3 : Bool × List (List Nat × List Nat) := (true, [([], []), ([], []), ([], []), ([1, 2], [1, 2]), ([0, 3], [0, 3]), ([], []), ([5], [5]), ([4, 6, 4], [4, 6]), ([7, 7, 0, 1, 2, 3, 4, 5, 6, 7], [0, 7])])
def Qak.B3 : List Nat := [0, 0, 0, 6, 15, 0, 32, 127, 255]
theorem Qak.tab3 : rtab .any (opsOf Tryz.f208 3) = Qak.T3 := by kernel_rfl
theorem Qak.bits3 : Qco Qak.T3.2 Qak.B3 = true := by kernel_rfl
def Qak.T4 : Bool × List (List Nat × List Nat) := (true, [([], []), ([], []), ([1], [1]), ([0, 2], [0, 2]), ([3], [3]), ([4], [4]), ([4], [4]), ([5, 6, 4], [4, 5, 6]), ([7, 4], [4, 7]), ([4], [4]), ([8, 9, 4], [4, 8, 9]), ([4, 10], [4, 10])])
def Qak.B4 : List Nat := [0, 0, 2, 7, 15, 31, 31, 127, 255, 31, 1023, 2047]
theorem Qak.tab4 : rtab .any (opsOf Tryz.f208 4) = Qak.T4 := by kernel_rfl
theorem Qak.bits4 : Qco Qak.T4.2 Qak.B4 = true := by kernel_rfl
theorem Qak.calls (k : Nat) (A0 : Option Addr) (c0 : Nat) (l0 : List (S47)) (a1_0 a1_1 : Int) (r : List (S47)) (w : World) (hr0 : Kd.C k47 w A0 l0.length l0) (hc0 : l0.length ≤ c0) (h : Qak.f k l0 a1_0 a1_1 = some r) :
 Calls Tryz.prog 208 #[.slice A0 l0.length c0, .agg #[.int .i64 a1_0, .int .i64 a1_1]] w fun e w' => ∃ v0_ : Value, e = .returned (v0_) ∧ Kd.R k47 47 w' w.heap.size (fun _ => True) v0_ r ∧ Below w.heap.size w w' := by
 have hu47 := Tryz.underlying47
 have R0 := As0 hr0
 have C0 := As0 hc0
 clear hr0 hc0
 have HB := As0 (Below.refl w.heap.size w)
 have H : ((Qa3.f k l0 a1_0 a1_1).bind fun aQ => (if 0 ≤ (wrap64 ((l0.length : Int) + 1)) then (if (wrap64 ((l0.length : Int) + 1) : Int).toNat ≤ 17592186044416 then ((some ([] : List (S47))).bind fun y143 => (if 0 ≤ aQ then (if aQ ≤ (l0.length : Int) then ((some (l0.take (aQ : Int).toNat : List (S47))).bind fun y146 => (if y143.length + y146.length < 8796093022208 then ((some (y143 ++ y146 : List (S47))).bind fun y150 => ((some (([(⟨a1_0, a1_1⟩ : S47)] : List (S47)) : List (S47))).bind fun y153 => (if y150.length + y153.length < 8796093022208 then ((some (y150 ++ y153 : List (S47))).bind fun y156 => (if aQ < (l0.length : Int) then (Qak.j0 k l0 aQ y156 (((Qaa l0 aQ).f0) == a1_0 && (((Qaa l0 aQ).f1) == a1_1))) else (Qak.j0 k l0 aQ y156 false))) else (none)))) else (none))) else (none)) else (none))) else (none)) else (none))) = some r := h
 clear h
 replace H := Option.bind_eq_some_iff.mp H
 obtain ⟨aQ, A30, H⟩ := H
 have A3 := As0 A30
 clear A30
 obtain ⟨ji4, hji4⟩ : ∃ j_ : Int, (wrap64 ((l0.length : Int) + 1)) = j_ := ⟨_, rfl⟩
 replace H : (if 0 ≤ (ji4) then (if (ji4 : Int).toNat ≤ 17592186044416 then ((some ([] : List (S47))).bind fun y143 => (if 0 ≤ aQ then (if aQ ≤ (l0.length : Int) then ((some (l0.take (aQ : Int).toNat : List (S47))).bind fun y146 => (if y143.length + y146.length < 8796093022208 then ((some (y143 ++ y146 : List (S47))).bind fun y150 => ((some (([(⟨a1_0, a1_1⟩ : S47)] : List (S47)) : List (S47))).bind fun y153 => (if y150.length + y153.length < 8796093022208 then ((some (y150 ++ y153 : List (S47))).bind fun y156 => (if aQ < (l0.length : Int) then (Qak.j0 k l0 aQ y156 (((Qaa l0 aQ).f0) == a1_0 && (((Qaa l0 aQ).f1) == a1_1))) else (Qak.j0 k l0 aQ y156 false))) else (none)))) else (none))) else (none)) else (none))) else (none)) else (none)) = some r := by first | (rw [hji4] at H; exact H) | (simp only [hji4] at H ⊢; exact H)
 (try rw [hji4] at A3)
 have hji4w : (IntKind.i64.wrap ((l0.length : Int) + 1)) = ji4 := (Qbo _).trans hji4
 by_cases c5 : 0 ≤ (ji4)
 rotate_left
 ·rw [if_neg c5] at H
  exact absurd H (by simp)
 rw [if_pos c5] at H
 have c5b0 := eq_true c5
 have c5b1 := decide_eq_true c5
 clear c5
 by_cases c6 : (ji4 : Int).toNat ≤ 17592186044416
 rotate_left
 ·rw [if_neg c6] at H
  exact absurd H (by simp)
 rw [if_pos c6] at H
 have c6b0 := eq_true c6
 have c6b1 := decide_eq_true c6
 clear c6
 obtain ⟨y143, hy143⟩ : ∃ y_ : List (S47), y_ = ([]) := ⟨_, rfl⟩
 replace H : (if 0 ≤ aQ then (if aQ ≤ (l0.length : Int) then ((some (l0.take (aQ : Int).toNat : List (S47))).bind fun y146 => (if y143.length + y146.length < 8796093022208 then ((some (y143 ++ y146 : List (S47))).bind fun y150 => ((some (([(⟨a1_0, a1_1⟩ : S47)] : List (S47)) : List (S47))).bind fun y153 => (if y150.length + y153.length < 8796093022208 then ((some (y150 ++ y153 : List (S47))).bind fun y156 => (if aQ < (l0.length : Int) then (Qak.j0 k l0 aQ y156 (((Qaa l0 aQ).f0) == a1_0 && (((Qaa l0 aQ).f1) == a1_1))) else (Qak.j0 k l0 aQ y156 false))) else (none)))) else (none))) else (none)) else (none)) = some r := by first | (rw [hy143]; exact H) | exact H
 have Ny143 := As0 hy143
 clear hy143
 by_cases c7 : 0 ≤ aQ
 rotate_left
 ·rw [if_neg c7] at H
  exact absurd H (by simp)
 rw [if_pos c7] at H
 have c7b0 := eq_true c7
 have c7b1 := decide_eq_true c7
 clear c7
 by_cases c8 : aQ ≤ (l0.length : Int)
 rotate_left
 ·rw [if_neg c8] at H
  exact absurd H (by simp)
 rw [if_pos c8] at H
 have c8b0 := eq_true c8
 have c8b1 := decide_eq_true c8
 clear c8
 obtain ⟨y146, hy146⟩ : ∃ y_ : List (S47), y_ = (l0.take (aQ : Int).toNat) := ⟨_, rfl⟩
 replace H : (if y143.length + y146.length < 8796093022208 then ((some (y143 ++ y146 : List (S47))).bind fun y150 => ((some (([(⟨a1_0, a1_1⟩ : S47)] : List (S47)) : List (S47))).bind fun y153 => (if y150.length + y153.length < 8796093022208 then ((some (y150 ++ y153 : List (S47))).bind fun y156 => (if aQ < (l0.length : Int) then (Qak.j0 k l0 aQ y156 (((Qaa l0 aQ).f0) == a1_0 && (((Qaa l0 aQ).f1) == a1_1))) else (Qak.j0 k l0 aQ y156 false))) else (none)))) else (none)) = some r := by first | (rw [hy146]; exact H) | exact H
 have Ny146 := As0 hy146
 clear hy146
 by_cases c9 : y143.length + y146.length < 8796093022208
 rotate_left
 ·rw [if_neg c9] at H
  exact absurd H (by simp)
 rw [if_pos c9] at H
 have LMc9 := As0 c9
 clear c9
 obtain ⟨y150, hy150⟩ : ∃ y_ : List (S47), y_ = (y143 ++ y146) := ⟨_, rfl⟩
 replace H : ((some (([(⟨a1_0, a1_1⟩ : S47)] : List (S47)) : List (S47))).bind fun y153 => (if y150.length + y153.length < 8796093022208 then ((some (y150 ++ y153 : List (S47))).bind fun y156 => (if aQ < (l0.length : Int) then (Qak.j0 k l0 aQ y156 (((Qaa l0 aQ).f0) == a1_0 && (((Qaa l0 aQ).f1) == a1_1))) else (Qak.j0 k l0 aQ y156 false))) else (none))) = some r := by first | (rw [hy150]; exact H) | exact H
 have Ny150 := As0 hy150
 clear hy150
 obtain ⟨y153, hy153⟩ : ∃ y_ : List (S47), y_ = (([(⟨a1_0, a1_1⟩ : S47)] : List (S47))) := ⟨_, rfl⟩
 replace H : (if y150.length + y153.length < 8796093022208 then ((some (y150 ++ y153 : List (S47))).bind fun y156 => (if aQ < (l0.length : Int) then (Qak.j0 k l0 aQ y156 (((Qaa l0 aQ).f0) == a1_0 && (((Qaa l0 aQ).f1) == a1_1))) else (Qak.j0 k l0 aQ y156 false))) else (none)) = some r := by first | (rw [hy153]; exact H) | exact H
 have Ny153 := As0 hy153
 clear hy153
 by_cases c10 : y150.length + y153.length < 8796093022208
 rotate_left
 ·rw [if_neg c10] at H
  exact absurd H (by simp)
 rw [if_pos c10] at H
 have LMc10 := As0 c10
 clear c10
 obtain ⟨y156, hy156⟩ : ∃ y_ : List (S47), y_ = (y150 ++ y153) := ⟨_, rfl⟩
 replace H : (if aQ < (l0.length : Int) then (Qak.j0 k l0 aQ y156 (((Qaa l0 aQ).f0) == a1_0 && (((Qaa l0 aQ).f1) == a1_1))) else (Qak.j0 k l0 aQ y156 false)) = some r := by first | (rw [hy156]; exact H) | exact H
 have Ny156 := As0 hy156
 clear hy156
 have C11 := As0 H
 clear H
 go_enter Tryz.func208, Tryz.ntmps208
 try go_wp2_with (first | ((with_reducible refine gD 3 ?_); refine bY HB.out ?_; intro dS w12 hg hb cJ GW138 HB; clear hb hg; have q13_ := cN2 cJ.out) | ((with_reducible refine Qbk (f := 190) rfl ?_); refine gL (some 9) Tryz.func190 #[.slice A0 l0.length c0, .agg #[.int .i64 a1_0, .int .i64 a1_1]] ?_; (with_reducible refine (Qa3.calls k _ _ l0 a1_0 a1_1 aQ _ ?side1 ?side2 A3.out).mono ?_); (case side1 => exact CU (Kd.C_below R0.out HB.out)); (case side2 => exact C0.out); rintro e w14 ⟨rfl, hb⟩; refine ⟨_, rfl, ?_⟩; replace cJ := kB cJ hb; replace HB := sB HB hb; (try clear hb)) | ((with_reducible refine gD 13 ?_); refine Kd.R_make0 k47 _ 47 rfl (N := 13) rfl 44 _ _ rfl ji4 rfl rfl Tryz.underlying44 (.agg #[(.int .i64 0), (.int .i64 0)]) 16 Qcq rfl (by decide) (by omega) z47 (ok := fun _ => True) (okp := fun _ => True) (Qc8 _ _ _ z47 ) (fun _ hk => hk) trivial (qR) (Nat.le_trans (Nat.mul_le_mul_right _ (qR : ji4.toNat ≤ 17592186044416)) (by omega)) (Below.refl _ _) (Nat.le_refl _) ?_; intro v144 w15 ho16 hb hg_ hnew_; clear hg_ hnew_; (first | rw [← Ny143.out] at ho16 | (simp only [Int.reduceToNat] at ho16; rw [← Ny143.out] at ho16)); have mE := As0 (Kd.R_lower (Kd.R_newB ho16 (bU cJ.out)) (Qbi (BU HB.out))); replace cJ := kB cJ hb; replace HB := sB HB hb; clear hb ho16; obtain ⟨Ao17, co17, eo17⟩ := Kd.R_slice mE.out; subst eo17))
 replace mE := As0 (Kd.R_drew mE.out)
 replace cJ := As0 (Qbm cJ.out)
 replace HB := As0 (bd1 HB.out)
 have q19 : (aQ : Int) ≤ ((l0.length : Int) : Int) := qR
 obtain ⟨i019, hi019, _, hsz19, _⟩ := info_parts Qcq
 have hroom19 : l0.length ≤ c0 := C0.out
 have hC19 : Kd.C k47 _ A0 l0.length l0 := R0.out
 have hcut19 := cut_to (P := Tryz.prog) 44 47 .i64 Tryz.underlying44 hi019 A0 l0.length c0 aQ (qR) q19 hroom19
 have hr19 := Kd.C_take (m := (aQ : Int).toNat) hC19 (by omega)
 have hy19 : y146.length = (aQ : Int).toNat := (by rw [Ny146.out, List.length_take]; omega)
 rw [← Ny146.out] at hr19
 rw [← hy19] at hcut19
 have R149 := As0 hr19
 have C149 := As0 (show y146.length ≤ c0 from by omega)
 clear hr19 hC19 hroom19 hi019 hsz19
 have KY19 := As0 hy19
 clear hy19
 replace q19 := eq_true q19
 refine Qb1 (n := 9) (S := fun w' => w'.cell? ⟨dS, 0, none⟩ = some (.int .i64 a1_0) ∧ w'.cell? ⟨dS, 1, none⟩ = some (.int .i64 a1_1)) (ds := []) (bb 9 0) (by kernel_rfl) rfl rfl ⟨bc cJ 0, bc cJ 1⟩ (fun aA => ?_); refine Qb8 Qak.tab3 Qak.bits3 (fun HT_ HW_ => ?_)
 generalize w15.drew = w18 at mE cJ HB R149 aA ⊢
 refine pv HT_.out 0 14 (bb 9 1) ?_
 refine pv HT_.out 1 15 (bb 9 3) ?_
 refine pv HT_.out 2 16 (bb 9 7) ?_
 refine pv HT_.out 3 17 (bb 9 15) ?_
 refine tv aA HT_.out HW_.out 5 19 (bb 9 47) ?_
 refine join_ (σ := Value × Value) 2 (bb 9 127) (fun s_ => [(18, s_.1), (20, s_.2)]) (fun s_ w' => (w'.cell? ⟨dS, 0, none⟩ = some (.int .i64 a1_0) ∧ w'.cell? ⟨dS, 1, none⟩ = some (.int .i64 a1_1)) ∧ (Kd.R k47 47 w' w.heap.size (fun k_ => some k_ ≠ (s_.2 : Value).ownBlock ∧ k_ ≠ dS) s_.1 y150) ∧ (Kd.R k47 47 w' w.heap.size (fun k_ => some k_ ≠ (s_.1 : Value).ownBlock ∧ k_ ≠ dS) s_.2 y153) ∧ (w'.heap[dS]? = some (.cells #[.int .i64 a1_0, .int .i64 a1_1] 47 (0, 0))) ∧ (Below w.heap.size w w')) ?_ ?_
 rotate_left
 ·intro hCont
  refine two_ (i := 4) (j := 6) (Ni := some 18) (Nj := some 20) (bb 9 63) (bb 9 111) rfl rfl rfl rfl (two_of HT_.out (by kernel_rfl)) (by decide) (by decide) (fun K hK => ?_) (fun K hK => ?_)
  ·skip
   refine Kd.R_append_rows_step k47 (w0 := w) w.heap.size (by rfl) (.tmp 14) (.tmp 17) 44 47 (.agg #[(.int .i64 0), (.int .i64 0)]) 16 rfl Tryz.underlying44 Qcq rfl (by decide) (by omega) (.slice Ao17 y143.length co17) y143 y146 _ _ _ (fun k_ => k_ ≠ dS) (fun _ => False) rfl rfl ?aO ?aR (fun _ _ h => h) (fun _ h => h.elim) ?aF ?aB ?aS ?aL ?_
   (case aR => exact CU (Kd.C_below R149.out HB.out))
   (case aB => exact (BU HB.out))
   (case aF => exact (fun k_ hk => Kd.freshB (bU cJ.out) k_ hk))
   (case aO => exact (RU (Kd.R_mono mE.out (fun _ hk => hk.2))))
   (case aS => exact (Qbi (BU HB.out)))
   (case aL => have := LMc9.out; omega)
   intro v151 w20 ho hb hg hat
   rw [← Ny150.out] at ho
   replace cJ := As0 (Qbu (bU cJ.out) hg (Kd.R_away mE.out (fun _ hk => hk.2)))
   replace HB := As0 (hb)
   have O152 := As0 (ho)
   clear mE ho hb hg hat
   refine hK.out _ _ ⟨bc cJ 0, bc cJ 1⟩ (fun aA => ?_)
   clear hK K
   refine Qbz (a' := ?_) ?_ ?_
   rotate_left
   ·show Act.put _ (some 18) _ = _
    simp only [Act.put, sL1, sL2, sL3, Qbo, Qbp]
    rfl
   refine one_ (i := 6) (N := some 20) (bb 9 127) rfl rfl (Qcf HT_.out (by kernel_rfl)) (by decide) (fun K hK => ?_)
   refine Kd.R_lit_step k47 _ 47 ?hg (N := 20) ?hd (xs := ([(⟨a1_0, a1_1⟩ : S47)] : List (S47))) (inner := [.int .i64 a1_0, .int .i64 a1_1]) (ok := fun _ => True) (okp := fun _ => True) ?hr ?hp (fun _ hk => hk) trivial (Below.refl _ _) (Nat.le_refl _) (by simp) ?_; (case hd => rfl); (case hg => rfl); (case hr => first | (go_simp; done) | (go_simp; rfl)); (case hp => exact (Reps.c2 (Qc8 _ _ _ (⟨a1_0, a1_1⟩ : S47)) (Reps.none _ _)))
   intro v154 w21 ho22 hb hg_ hnew_
   clear hg_ hnew_
   (first | rw [← Ny153.out] at ho22 | (simp only [Int.reduceToNat] at ho22; rw [← Ny153.out] at ho22))
   have iF := As0 (Kd.R_lower (Kd.R_newB (Kd.R_new' ho22 (Kd.R_lt (RU O152.out))) (bU cJ.out)) (Qbi (BU HB.out)))
   replace O152 := As0 (Kd.R_elder' (RU O152.out) (Kd.R_base ho22) hb)
   replace cJ := kB cJ hb
   replace HB := sB HB hb
   clear hb ho22
   refine hK.out _ _ ⟨bc cJ 0, bc cJ 1⟩ (fun aA => ?_)
   clear hK K
   refine Qbz (a' := ?_) ?_ ?_
   rotate_left
   ·show Act.put _ (some 20) _ = _
    simp only [Act.put, sL1, sL2, sL3, Qbo, Qbp]
    rfl
   exact Qbz (by simp only [Qda, Act.put, sL1, sL2, sL3]) (hCont (v151, v154) _ ⟨aA, (RU (Kd.R_mono O152.out (fun _ hk => ⟨hk.2, hk.1⟩))), (RU (Kd.R_mono iF.out (fun _ hk => ⟨hk.1.2, hk.2⟩))), (bU cJ.out), (BU HB.out)⟩)
  ·skip
   refine Kd.R_lit_step k47 _ 47 ?hg (N := 20) ?hd (xs := ([(⟨a1_0, a1_1⟩ : S47)] : List (S47))) (inner := [.int .i64 a1_0, .int .i64 a1_1]) (ok := fun _ => True) (okp := fun _ => True) ?hr ?hp (fun _ hk => hk) trivial (Below.refl _ _) (Nat.le_refl _) (by simp) ?_; (case hd => rfl); (case hg => rfl); (case hr => first | (go_simp; done) | (go_simp; rfl)); (case hp => exact (Reps.c2 (Qc8 _ _ _ (⟨a1_0, a1_1⟩ : S47)) (Reps.none _ _)))
   intro v154 w20 ho21 hb hg_ hnew_
   clear hg_ hnew_
   (first | rw [← Ny153.out] at ho21 | (simp only [Int.reduceToNat] at ho21; rw [← Ny153.out] at ho21))
   have iF := As0 (Kd.R_lower (Kd.R_newB (Kd.R_new' ho21 (Kd.R_lt (RU mE.out))) (bU cJ.out)) (Qbi (BU HB.out)))
   replace mE := As0 (Kd.R_elder' (RU mE.out) (Kd.R_base ho21) hb)
   replace cJ := kB cJ hb
   replace HB := sB HB hb
   clear hb ho21
   refine hK.out _ _ ⟨bc cJ 0, bc cJ 1⟩ (fun aA => ?_)
   clear hK K
   refine Qbz (a' := ?_) ?_ ?_
   rotate_left
   ·show Act.put _ (some 20) _ = _
    simp only [Act.put, sL1, sL2, sL3, Qbo, Qbp]
    rfl
   refine one_ (i := 4) (N := some 18) (bb 9 127) rfl rfl (Qcf HT_.out (by kernel_rfl)) (by decide) (fun K hK => ?_)
   refine Kd.R_append_rows_step k47 (w0 := w) w.heap.size (by rfl) (.tmp 14) (.tmp 17) 44 47 (.agg #[(.int .i64 0), (.int .i64 0)]) 16 rfl Tryz.underlying44 Qcq rfl (by decide) (by omega) (.slice Ao17 y143.length co17) y143 y146 _ _ _ (fun k_ => some k_ ≠ (v154 : Value).ownBlock ∧ k_ ≠ dS) (fun _ => False) rfl rfl ?aO ?aR (fun _ _ h => h) (fun _ h => h.elim) ?aF ?aB ?aS ?aL ?_
   (case aR => exact CU (Kd.C_below R149.out HB.out))
   (case aB => exact (BU HB.out))
   (case aF => exact (fun k_ hk => ⟨Kd.fresh' (Kd.R_lt (RU iF.out)) k_ hk, Kd.freshB (bU cJ.out) k_ hk⟩))
   (case aO => exact (RU (Kd.R_mono mE.out (fun _ hk => ⟨hk.2, hk.1.2⟩))))
   (case aS => exact (Qbi (BU HB.out)))
   (case aL => have := LMc9.out; omega)
   intro v151 w22 ho hb hg hat
   rw [← Ny150.out] at ho
   replace cJ := As0 (Qbu (bU cJ.out) hg (Kd.R_away mE.out (fun _ hk => hk.1.2)))
   replace iF := As0 (Kd.R_after (ok := (fun k_ => k_ ≠ dS)) (RU (Kd.R_mono iF.out (fun _ hk => ⟨hk.2, hk.1.2⟩))) hg hat)
   replace HB := As0 (hb)
   have O152 := As0 (ho)
   clear mE ho hb hg hat
   refine hK.out _ _ ⟨bc cJ 0, bc cJ 1⟩ (fun aA => ?_)
   clear hK K
   refine Qbz (a' := ?_) ?_ ?_
   rotate_left
   ·show Act.put _ (some 18) _ = _
    simp only [Act.put, sL1, sL2, sL3, Qbo, Qbp]
    rfl
   exact Qbz (by simp only [Qda, Act.put, sL1, sL2, sL3]) (hCont (v151, v154) _ ⟨aA, (RU O152.out), (RU (Kd.R_mono iF.out (fun _ hk => ⟨hk.2, hk.1⟩))), (bU cJ.out), (BU HB.out)⟩)
 rintro ⟨v151, v154⟩ w23 ⟨hS_, h0_, h1_, h2_, h3_⟩
 have O152 : Qbf (Kd.R k47 47 w23 w.heap.size (fun k_ => some k_ ≠ (v154 : Value).ownBlock ∧ k_ ≠ dS) v151 y150) := ⟨h0_⟩
 have iF : Qbf (Kd.R k47 47 w23 w.heap.size (fun k_ => some k_ ≠ (v151 : Value).ownBlock ∧ k_ ≠ dS) v154 y153) := ⟨h1_⟩
 replace cJ : Qbf (w23.heap[dS]? = some (.cells #[.int .i64 a1_0, .int .i64 a1_1] 47 (0, 0))) := ⟨h2_⟩
 replace HB : Qbf (Below w.heap.size w w23) := ⟨h3_⟩
 clear mE h0_ h1_ h2_ h3_
 have aA : w23.cell? ⟨dS, 0, none⟩ = some (.int .i64 a1_0) ∧ w23.cell? ⟨dS, 1, none⟩ = some (.int .i64 a1_1) := hS_
 obtain ⟨Ao25, co25, eo25⟩ := Kd.R_slice iF.out
 (first | subst eo25 | (injection eo25 with f1_ f2_ f3_; have f4_ := f1_.symm; have f5_ := f3_.symm; clear f1_ f2_ f3_; subst f4_; subst f5_))
 refine Qbz (a' := ?_) ?_ ?_
 rotate_left
 ·simp only [Qda, Act.put, sL1, sL2, sL3]
  rfl
 refine one_ (i := 7) (N := some 21) (bb 9 255) rfl rfl (Qcf HT_.out (by kernel_rfl)) (by decide) (fun K hK => ?_)
 refine Kd.R_append_rows_step k47 (w0 := w) w.heap.size (by rfl) (.tmp 18) (.tmp 20) 44 47 (.agg #[(.int .i64 0), (.int .i64 0)]) 16 rfl Tryz.underlying44 Qcq rfl (by decide) (by omega) v151 y150 y153 _ _ _ (fun k_ => some k_ ≠ (.slice Ao25 y153.length co25 : Value).ownBlock ∧ k_ ≠ dS) (fun _ => False) rfl rfl ?aO ?aR (fun _ _ h => h) (fun _ h => h.elim) ?aF ?aB ?aS ?aL ?_
 (case aR => exact CU (Kd.R_reads' iF.out).2.2)
 (case aB => exact (BU HB.out))
 (case aF => exact (fun k_ hk => ⟨Kd.fresh' (Kd.R_lt (RU iF.out)) k_ hk, Kd.freshB (bU cJ.out) k_ hk⟩))
 (case aO => exact (RU O152.out))
 (case aS => exact (Qbi (BU HB.out)))
 (case aL => have := LMc10.out; omega)
 intro v157 w24 ho hb hg hat
 rw [← Ny156.out] at ho
 replace cJ := As0 (Qbu (bU cJ.out) hg (Kd.R_away O152.out (fun _ hk => hk.2)))
 replace iF := As0 (Kd.R_after (ok := (fun k_ => k_ ≠ dS)) (RU (Kd.R_mono iF.out (fun _ hk => ⟨hk.2, hk.1⟩))) hg hat)
 replace HB := As0 (hb)
 have O158 := As0 (ho)
 clear O152 ho hb hg hat
 refine hK.out _ _ ⟨bc cJ 0, bc cJ 1⟩ (fun aA => ?_)
 clear hK K
 refine Qbz (a' := ?_) ?_ ?_
 rotate_left
 ·show Act.put _ (some 21) _ = _
  simp only [Act.put, sL1, sL2, sL3, Qbo, Qbp]
  rfl
 refine pv HT_.out 8 6 (bb 9 511) ?_
 refine Qch (Qcm HT_.out (by kernel_rfl)) ?_
 go_upto_region 4 with (fail)
 go_cut [33] (fun v33 wc => ∃ (kq : Nat) (x33_10 : Bool), v33 = .bool x33_10 ∧ Qbf (Qak.j0 kq l0 aQ y156 x33_10 = some r) ∧ Qbf (kq ≤ k) ∧ Qbf (Kd.R k47 47 wc w.heap.size (fun k_ => k_ ≠ dS) v157 y156) ∧ Qbf (wc.heap[dS]? = some (.cells #[.int .i64 a1_0, .int .i64 a1_1] 47 (0, 0))) ∧ Qbf (Below w.heap.size w wc))
 case first =>
  have H := C11.out
  clear C11
  by_cases c26 : aQ < (l0.length : Int)
  rotate_left
  ·rw [if_neg c26] at H
   have c26b0 := decide_eq_false c26
   clear c26
   (first | rw [c26b0] | (simp only [Qbo, Qbp]; rw [c26b0]) | skip)
   have H' := As0 H
   clear H
   try go_wp2
   replace iF := As0 (Kd.R_drew iF.out)
   replace O158 := As0 (Kd.R_drew O158.out)
   replace cJ := As0 (Qbm cJ.out)
   replace HB := As0 (bd1 HB.out)
   refine Qb1 (n := 12) (S := fun w' => True) (ds := []) (bb 12 0) (by kernel_rfl) rfl rfl trivial (fun aA => ?_); refine Qb8 Qak.tab4 Qak.bits4 (fun HT_ HW_ => ?_)
   generalize w24.drew = w28 at iF O158 cJ HB aA ⊢
   refine pv HT_.out 0 22 (bb 12 1) ?_
   refine pv HT_.out 1 23 (bb 12 3) ?_
   refine pv HT_.out 2 24 (bb 12 7) ?_
   refine pv HT_.out 3 25 (bb 12 15) ?_
   refine pv HT_.out 4 26 (bb 12 31) ?_
   refine py HT_.out 5 27 (bb 12 63) ?_
   refine py HT_.out 6 28 (bb 12 127) ?_
   refine py HT_.out 7 29 (bb 12 255) ?_
   refine py HT_.out 8 30 (bb 12 511) ?_
   refine py HT_.out 9 31 (bb 12 1023) ?_
   refine py HT_.out 10 32 (bb 12 2047) ?_
   refine pv HT_.out 11 33 (bb 12 4095) ?_
   refine Qch (Qcm HT_.out (by kernel_rfl)) ?_
   try go_wp2
   go_meet
   case rel => exact ⟨_, (false), eR, H', ⟨by first | omega | exact Nat.le_refl _⟩, ⟨RU (Kd.R_mono O158.out (fun _ hk => hk.2))⟩, ⟨bU cJ.out⟩, ⟨BU HB.out⟩⟩
  rw [if_pos c26] at H
  have c26b0 := decide_eq_true c26
  clear c26
  (first | rw [c26b0] | (simp only [Qbo, Qbp]; rw [c26b0]) | skip)
  have H' := As0 H
  clear H
  try go_wp2
  replace iF := As0 (Kd.R_drew iF.out)
  replace O158 := As0 (Kd.R_drew O158.out)
  replace cJ := As0 (Qbm cJ.out)
  replace HB := As0 (bd1 HB.out)
  have p159 : 0 ≤ (aQ : Int) := qR
  have q159 : aQ < (l0.length : Int) := qR
  obtain ⟨ad159, e159, hx159_0, hx159_1⟩ := Qcc R0.out aQ p159 q159
  have hw159_1 := hx159_1
  have hw159_0 := hx159_0
  cases e159
  replace hx159_0 := cl HB hx159_0
  replace hx159_1 := cl HB hx159_1
  replace p159 := eq_true p159
  replace q159 := eq_true q159
  refine Qb1 (n := 12) (S := fun w' => w'.cell? ⟨dS, 0, none⟩ = some (.int .i64 a1_0) ∧ w'.cell? ⟨dS, 1, none⟩ = some (.int .i64 a1_1) ∧ w'.cell? (ad159.add ((aQ).toNat * 2)) = some (.int .i64 ((Qaa l0 aQ).f0)) ∧ w'.cell? ⟨(ad159.add ((aQ).toNat * 2)).block, (ad159.add ((aQ).toNat * 2)).off + 1, none⟩ = some (.int .i64 ((Qaa l0 aQ).f1))) (ds := []) (bb 12 0) (by kernel_rfl) rfl rfl ⟨bc cJ 0, bc cJ 1, (cl HB hw159_0), (cl HB hw159_1)⟩ (fun aA => ?_); refine Qb8 Qak.tab4 Qak.bits4 (fun HT_ HW_ => ?_)
  generalize w24.drew = w27 at iF O158 cJ HB hx159_0 hx159_1 aA ⊢
  refine pv HT_.out 0 22 (bb 12 1) ?_
  refine pv HT_.out 1 23 (bb 12 3) ?_
  refine pv HT_.out 2 24 (bb 12 7) ?_
  refine pv HT_.out 3 25 (bb 12 15) ?_
  refine pv HT_.out 4 26 (bb 12 31) ?_
  refine pv HT_.out 5 27 (bb 12 63) ?_
  refine pv HT_.out 6 28 (bb 12 127) ?_
  refine pv HT_.out 7 29 (bb 12 255) ?_
  refine tv aA HT_.out HW_.out 8 30 (bb 12 511) ?_
  refine tv aA HT_.out HW_.out 9 31 (bb 12 1023) ?_
  refine pv HT_.out 10 32 (bb 12 2047) ?_
  refine pv HT_.out 11 33 (bb 12 4095) ?_
  refine Qch (Qcm HT_.out (by kernel_rfl)) ?_
  try go_wp2
  go_meet
  case rel => exact ⟨_, ((((Qaa l0 aQ).f0) == a1_0 && (((Qaa l0 aQ).f1) == a1_1))), eR, H', ⟨by first | omega | exact Nat.le_refl _⟩, ⟨RU (Kd.R_mono O158.out (fun _ hk => hk.2))⟩, ⟨bU cJ.out⟩, ⟨BU HB.out⟩⟩
 case rest =>
  clear C11
  obtain ⟨kq, x33_10, rfl, HA, HJ10, HO_6, cJ, HB⟩ := hcut
  cases kq with
  | zero => exact absurd HA.out (by simp [Qak.j0])
  | succ kj10 =>
   have H := HA.out
   clear HA
   simp only [Qak.j0] at H
   by_cases c29 : x33_10 = true
   rotate_left
   ·replace c29 := Bool.eq_false_iff.mpr c29
    subst c29
    rw [if_neg bF] at H
    by_cases c36 : 0 ≤ aQ
    rotate_left
    ·rw [if_neg c36] at H
     exact absurd H (by simp)
    rw [if_pos c36] at H
    have c36b0 := eq_true c36
    have c36b1 := decide_eq_true c36
    clear c36
    by_cases c37 : aQ ≤ (l0.length : Int)
    rotate_left
    ·rw [if_neg c37] at H
     exact absurd H (by simp)
    rw [if_pos c37] at H
    have c37b0 := eq_true c37
    have c37b1 := decide_eq_true c37
    clear c37
    obtain ⟨y167, hy167⟩ : ∃ y_ : List (S47), y_ = (l0.drop (aQ : Int).toNat) := ⟨_, rfl⟩
    replace H : (if y156.length + y167.length < 8796093022208 then (some (y156 ++ y167)) else (none)) = some r := by first | (rw [hy167]; exact H) | exact H
    have Ny167 := As0 hy167
    clear hy167
    by_cases c38 : y156.length + y167.length < 8796093022208
    rotate_left
    ·rw [if_neg c38] at H
     exact absurd H (by simp)
    rw [if_pos c38] at H
    have LMc38 := As0 c38
    clear c38
    obtain ⟨y171, hy171⟩ : ∃ y_ : List (S47), y_ = (y156 ++ y167) := ⟨_, rfl⟩
    replace H : (some y171) = some r := by first | (rw [hy171]; exact H) | exact H
    have Ny171 := As0 hy171
    clear hy171
    obtain rfl := Option.some.inj H
    have q39 : (aQ : Int) ≤ ((l0.length : Int) : Int) := qR
    obtain ⟨i039, hi039, _, hsz39, _⟩ := info_parts Qcq
    have hroom39 : l0.length ≤ c0 := C0.out
    have hC39 : Kd.C k47 _ A0 l0.length l0 := R0.out
    have q039 : (0 : Int) ≤ (aQ : Int) := qR
    have hcut39 := cut_from (P := Tryz.prog) 44 47 .i64 Tryz.underlying44 hi039 2 hsz39 A0 l0.length c0 aQ q039 q39
    have hr39 := Kd.C_drop (m := (aQ : Int).toNat) (c := c0) hC39 (by omega) hroom39
    obtain ⟨A39, hA39⟩ : ∃ Aq_, Aq_ = (if c0 = (aQ : Int).toNat then A0 else (A0 : Option Addr).map (·.add ((aQ : Int).toNat * 2))) := ⟨_, rfl⟩
    obtain ⟨c39, hc39⟩ : ∃ cq_, cq_ = c0 - (aQ : Int).toNat := ⟨_, rfl⟩
    have hy39 : y167.length = l0.length - (aQ : Int).toNat := (by rw [Ny167.out, List.length_drop] <;> omega)
    rw [show (l0).drop (aQ : Int).toNat = y167 from Ny167.out.symm] at hr39
    replace hr39 : Kd.C k47 _ A39 y167.length y167 := (by rw [hA39]; exact hr39)
    rw [← hy39, ← hA39, ← hc39] at hcut39
    have R170 := As0 hr39
    have C170 := As0 (show y167.length ≤ c39 from by rw [hy39, hc39]; exact Nat.sub_le_sub_right hroom39 _)
    clear hr39 hC39 hroom39 hi039 hsz39 hc39
    have KY39 := As0 hy39
    have KA39 := As0 hA39
    clear hy39 hA39
    replace q39 := eq_true q39
    go_wp2_with (first | ((with_reducible refine Qb6 (b := .append) (xs := #[.tmp 36, .tmp 39]) rfl ?_); at_builtin; refine Kd.R_append_rows k47 (w0 := w) w.heap.size rfl (.tmp 36) (.tmp 39) 44 47 (.agg #[(.int .i64 0), (.int .i64 0)]) 16 rfl Tryz.underlying44 Qcq rfl (by decide) (by omega) v157 y156 y167 _ _ _ (fun k_ => k_ ≠ dS) (fun _ => False) rfl rfl ?aO ?aR (fun _ _ h => h) (fun _ h => h.elim) ?aF ?aB ?aS ?aL ?_; (case aR => exact CU (Kd.C_below R170.out HB.out)); (case aB => exact (BU HB.out)); (case aF => exact (fun k_ hk => Kd.freshB (bU cJ.out) k_ hk)); (case aO => exact (RU HO_6.out)); (case aS => exact (Qbi (BU HB.out))); (case aL => have := LMc38.out; omega); intro v172 w40 ho hb hg hat; rw [← Ny171.out] at ho; replace cJ := As0 (Qbu (bU cJ.out) hg (Kd.R_away HO_6.out (fun _ hk => hk))); replace HB := As0 (hb); have O173 := As0 (ho); clear HO_6 ho hb hg hat))
    go_ret
    exact ⟨_, by first | rfl | (simp [Qa9, Qa8] <;> rfl) | (simp only [← hji4]; first | rfl | (simp [Qa9, Qa8] <;> rfl)) | (simp [*, Qa9, Qa8] <;> rfl), RU (Kd.R_mono O173.out (fun _ hk => trivial)), BU HB.out⟩
   subst c29
   rw [if_pos rfl] at H
   obtain ⟨jH, hji30⟩ : ∃ j_ : Int, (wrap64 (aQ + 1)) = j_ := ⟨_, rfl⟩
   replace H : (if 0 ≤ (jH) then (if (jH) ≤ (l0.length : Int) then ((some (l0.drop ((jH) : Int).toNat : List (S47))).bind fun y160 => (if y156.length + y160.length < 8796093022208 then (some (y156 ++ y160)) else (none))) else (none)) else (none)) = some r := by first | (rw [hji30] at H; exact H) | (simp only [hji30] at H ⊢; exact H)
   have hji30w : (IntKind.i64.wrap (aQ + 1)) = jH := (Qbo _).trans hji30
   by_cases c31 : 0 ≤ (jH)
   rotate_left
   ·rw [if_neg c31] at H
    exact absurd H (by simp)
   rw [if_pos c31] at H
   have c31b0 := eq_true c31
   have c31b1 := decide_eq_true c31
   clear c31
   by_cases c32 : (jH) ≤ (l0.length : Int)
   rotate_left
   ·rw [if_neg c32] at H
    exact absurd H (by simp)
   rw [if_pos c32] at H
   have c32b0 := eq_true c32
   have c32b1 := decide_eq_true c32
   clear c32
   obtain ⟨y160, hy160⟩ : ∃ y_ : List (S47), y_ = (l0.drop ((jH) : Int).toNat) := ⟨_, rfl⟩
   replace H : (if y156.length + y160.length < 8796093022208 then (some (y156 ++ y160)) else (none)) = some r := by first | (rw [hy160]; exact H) | exact H
   have Ny160 := As0 hy160
   clear hy160
   by_cases c33 : y156.length + y160.length < 8796093022208
   rotate_left
   ·rw [if_neg c33] at H
    exact absurd H (by simp)
   rw [if_pos c33] at H
   have LMc33 := As0 c33
   clear c33
   obtain ⟨y164, hy164⟩ : ∃ y_ : List (S47), y_ = (y156 ++ y160) := ⟨_, rfl⟩
   replace H : (some y164) = some r := by first | (rw [hy164]; exact H) | exact H
   have Ny164 := As0 hy164
   clear hy164
   obtain rfl := Option.some.inj H
   have q34 : ((jH) : Int) ≤ ((l0.length : Int) : Int) := qR
   obtain ⟨i034, hi034, _, hsz34, _⟩ := info_parts Qcq
   have hroom34 : l0.length ≤ c0 := C0.out
   have hC34 : Kd.C k47 _ A0 l0.length l0 := R0.out
   have q034 : (0 : Int) ≤ ((jH) : Int) := qR
   have hcut34 := cut_from (P := Tryz.prog) 44 47 .i64 Tryz.underlying44 hi034 2 hsz34 A0 l0.length c0 (jH) q034 q34
   have hr34 := Kd.C_drop (m := ((jH) : Int).toNat) (c := c0) hC34 (by omega) hroom34
   obtain ⟨A34, hA34⟩ : ∃ Aq_, Aq_ = (if c0 = ((jH) : Int).toNat then A0 else (A0 : Option Addr).map (·.add (((jH) : Int).toNat * 2))) := ⟨_, rfl⟩
   obtain ⟨c34, hc34⟩ : ∃ cq_, cq_ = c0 - ((jH) : Int).toNat := ⟨_, rfl⟩
   have hy34 : y160.length = l0.length - ((jH) : Int).toNat := (by rw [Ny160.out, List.length_drop] <;> omega)
   rw [show (l0).drop ((jH) : Int).toNat = y160 from Ny160.out.symm] at hr34
   replace hr34 : Kd.C k47 _ A34 y160.length y160 := (by rw [hA34]; exact hr34)
   rw [← hy34, ← hA34, ← hc34] at hcut34
   have R163 := As0 hr34
   have C163 := As0 (show y160.length ≤ c34 from by rw [hy34, hc34]; exact Nat.sub_le_sub_right hroom34 _)
   clear hr34 hC34 hroom34 hi034 hsz34 hc34
   have KY34 := As0 hy34
   have KA34 := As0 hA34
   clear hy34 hA34
   replace q34 := eq_true q34
   go_wp2_with (first | ((with_reducible refine Qb6 (b := .append) (xs := #[.tmp 36, .tmp 39]) rfl ?_); at_builtin; refine Kd.R_append_rows k47 (w0 := w) w.heap.size rfl (.tmp 36) (.tmp 39) 44 47 (.agg #[(.int .i64 0), (.int .i64 0)]) 16 rfl Tryz.underlying44 Qcq rfl (by decide) (by omega) v157 y156 y160 _ _ _ (fun k_ => k_ ≠ dS) (fun _ => False) rfl rfl ?aO ?aR (fun _ _ h => h) (fun _ h => h.elim) ?aF ?aB ?aS ?aL ?_; (case aR => exact CU (Kd.C_below R163.out HB.out)); (case aB => exact (BU HB.out)); (case aF => exact (fun k_ hk => Kd.freshB (bU cJ.out) k_ hk)); (case aO => exact (RU HO_6.out)); (case aS => exact (Qbi (BU HB.out))); (case aL => have := LMc33.out; omega); intro v165 w35 ho hb hg hat; rw [← Ny164.out] at ho; replace cJ := As0 (Qbu (bU cJ.out) hg (Kd.R_away HO_6.out (fun _ hk => hk))); replace HB := As0 (hb); have O166 := As0 (ho); clear HO_6 ho hb hg hat))
   go_ret
   exact ⟨_, by first | rfl | (simp [Qa9, Qa8] <;> rfl) | (simp only [← hji4, ← hji30]; first | rfl | (simp [Qa9, Qa8] <;> rfl)) | (simp [*, Qa9, Qa8] <;> rfl), RU (Kd.R_mono O166.out (fun _ hk => trivial)), BU HB.out⟩
theorem less_eq (p q : S47) : Qa6.f p.f0 p.f1 q.f0 q.f1 = some (Qb7 p q) := by
 unfold Qa6.f Qb7 Qd6
 by_cases h1 : p.f0 < q.f0
 ·rw [if_pos h1]; simp [h1]
 ·rw [if_neg h1]
  by_cases h2 : p.f0 = q.f0
  ·rw [if_pos h2]; simp [h2]
  ·rw [if_neg h2]; simp [h1, h2]
theorem Qcp {x y z : S47} (h1 : Qb7 x y = true) (h2 : Qb7 y z = true) : Qb7 x z = true := by rw [Qdf] at *; omega
theorem rd47 (l : List S47) (i : Nat) (h : i < l.length) : Qaa l (i : Int) = l[i] := by
 show l.getD i z47 = _
 rw [List.getD_eq_getElem?_getD, List.getElem?_eq_getElem h]; rfl
theorem Asc.lt {l : List S47} (h : Asc l) {i j : Nat} (hij : i < j) (hj : j < l.length) : Qb7 (Qaa l (i : Int)) (Qaa l (j : Int)) = true := by
 rw [rd47 l i (by omega), rd47 l j hj]; exact List.pairwise_iff_getElem.1 h i j (by omega) hj hij
theorem find_spec (l : List S47) (x : S47) (hl : l.length ≤ 100000000) (hA : Asc l) : ∀ m (lo hi : Nat), hi - lo = m → lo ≤ hi → hi ≤ l.length → (∀ i : Nat, i < lo → Qb7 (Qaa l (i : Int)) x = true) → (∀ i : Nat, hi ≤ i → i < l.length → Qb7 (Qaa l (i : Int)) x = false) →
    ∃ r : Nat, r ≤ l.length ∧ Ev (fun k => Qa3.l0 k l (lo : Int) (hi : Int) x.f0 x.f1) (r : Int) ∧ (∀ i : Nat, i < r → Qb7 (Qaa l (i : Int)) x = true) ∧ (∀ i : Nat, r ≤ i → i < l.length → Qb7 (Qaa l (i : Int)) x = false) := by
 intro m
 induction m using Nat.strongRecOn with
 | _ m ih =>
  intro lo hi hm h1 h2 hlo hhi
  by_cases h : lo < hi
  ·have hd : lo + (hi - lo) / 2 < hi := by omega
   have ht : Ev (fun _ : Nat => Qa6.f (Qaa l ((lo + (hi - lo) / 2 : Nat) : Int)).f0 (Qaa l ((lo + (hi - lo) / 2 : Nat) : Int)).f1 x.f0 x.f1) (Qb7 (Qaa l ((lo + (hi - lo) / 2 : Nat) : Int)) x) := ⟨0, fun _ _ => less_eq _ _⟩
   cases hb : Qb7 (Qaa l ((lo + (hi - lo) / 2 : Nat) : Int)) x with
   | true =>
    rw [hb] at ht
    obtain ⟨r, hr, hx, h3, h4⟩ := ih _ (by omega) (lo + (hi - lo) / 2 + 1) hi rfl (by omega) h2 (fun i hi' => by
     rcases Nat.lt_or_eq_of_le (Nat.le_of_lt_succ hi') with h5 | h5
     ·exact Qcp (hA.lt h5 (by omega)) hb
     ·rw [h5]; exact hb) hhi
    refine ⟨r, hr, Ev.up (g := fun k => _) (fun k => by rw [Qa3.l0, mid_eq lo hi h1 (by omega)]) (Ev.pos (by omega) (Ev.pos (by omega) (Ev.pos (by omega) (Ev.then ht (Ev.pos (c := true = true) (g := fun _ => none) rfl ?_))))), h3, h4⟩
    rw [w64s (n := hi) (by omega) hd]; exact hx
   | false =>
    rw [hb] at ht
    obtain ⟨r, hr, hx, h3, h4⟩ := ih _ (by omega) lo (lo + (hi - lo) / 2) rfl (by omega) (by omega) hlo (fun i hi' hil => by
     rcases Nat.lt_or_eq_of_le hi' with h5 | h5
     ·cases h6 : Qb7 (Qaa l (i : Int)) x with
      | false => rfl
      | true => rw [Qcp (hA.lt h5 hil) h6] at hb; cases hb
     ·rw [← h5]; exact hb)
    exact ⟨r, hr, Ev.up (g := fun k => _) (fun k => by rw [Qa3.l0, mid_eq lo hi h1 (by omega)]) (Ev.pos (by omega) (Ev.pos (by omega) (Ev.pos (by omega) (Ev.then ht (Ev.neg (c := false = true) (f := fun _ => none) (by simp) hx))))), h3, h4⟩
  ·obtain rfl : lo = hi := by omega
   exact ⟨lo, by omega, Ev.up (g := fun k => _) (fun k => by rw [Qa3.l0]) (Ev.neg (by omega) (Ev.val rfl)), hlo, hhi⟩
def At (l : List S47) (x : S47) (r : Nat) : Prop := r ≤ l.length ∧ (∀ i : Nat, i < r → Qb7 (Qaa l (i : Int)) x = true) ∧ (∀ i : Nat, r ≤ i → i < l.length → Qb7 (Qaa l (i : Int)) x = false)
theorem find_at (l : List S47) (x : S47) (hl : l.length ≤ 100000000) (hA : Asc l) : ∃ r, At l x r ∧ Ev (fun k => Qa3.f k l x.f0 x.f1) (r : Int) := by
 obtain ⟨r, h0, h1, h2, h3⟩ := find_spec l x hl hA _ 0 l.length rfl (by omega) (by omega) (fun i hi => by omega) (fun i hi h => by omega)
 exact ⟨r, ⟨h0, h2, h3⟩, h1⟩
theorem Qd8 (x : S47) : Qb7 x x = false := by rw [Qd7]; omega
theorem lessB_tot {x y : S47} (h : Qb7 y x = false) (hne : y ≠ x) : Qb7 x y = true := by
 cases h2 : Qb7 x y with
 | true => rfl
 | false => exact absurd (tot47 y x ((lt47 y x).trans h) ((lt47 x y).trans h2)) hne
theorem At.mem {l : List S47} {x : S47} {r : Nat} (h : At l x r) (hA : Asc l) : x ∈ l ↔ r < l.length ∧ Qaa l (r : Int) = x := by
 constructor
 ·intro hx
  obtain ⟨i, hi, rfl⟩ := List.mem_iff_getElem.1 hx
  have hir : r ≤ i := Nat.le_of_not_lt fun hlt => by
   have := h.2.1 i hlt
   rw [rd47 l i hi, Qd8] at this; cases this
  rcases Nat.eq_or_lt_of_le hir with rfl | hlt
  ·exact ⟨hi, rd47 l r hi⟩
  ·have h1 := h.2.2 r (Nat.le_refl _) (by omega)
   have h2 := hA.lt hlt hi
   rw [rd47 l i hi] at h2
   rw [h1] at h2; cases h2
 ·rintro ⟨h1, h2⟩
  rw [rd47 l r h1] at h2
  exact h2 ▸ List.getElem_mem h1
theorem has_spec (l : List S47) (x : S47) (hl : l.length ≤ 100000000) (hA : Asc l) : Ab (fun k => pairset_Has.f k l x.f0 x.f1) (x ∈ l) := by
 obtain ⟨r, hr, hx⟩ := find_at l x hl hA
 unfold pairset_Has.f
 by_cases h : (r : Int) < (l.length : Int)
 ·refine ⟨_, Ev.then hx (Ev.pos h (Ev.pos (by omega) (Ev.val rfl))), ?_⟩
  rw [hr.mem hA]
  cases hq : Qaa l (r : Int); cases x
  simp; omega
 ·refine ⟨_, Ev.then hx (Ev.neg h (Ev.val rfl)), ?_⟩
  rw [hr.mem hA]; simp; omega
end Go.Proofs.YtchpkjgibloleaaGreat.Z
namespace Go.Proofs.YtchpkjgibloleaaGreat.Z
set_option maxRecDepth 100000
set_option maxHeartbeats 8000000
open Go.RowKit Go.Proofs.YtchpkjgibloleaaGreatW.PrintWords Go.Proofs.YtchpkjgibloleaaGreatW.PrintLast Go.Proofs.YtchpkjgibloleaaGreatW.PrintMore
theorem At.take {l : List S47} {x : S47} {r : Nat} (h : At l x r) {y : S47} (hy : y ∈ l.take r) : Qb7 y x = true := by
 obtain ⟨i, hi, rfl⟩ := List.mem_iff_getElem.1 hy
 have h1 := hi
 rw [List.length_take] at h1
 have h2 : i < l.length := by omega
 have := h.2.1 i (by omega)
 rw [rd47 l i h2] at this
 rw [List.getElem_take]; exact this
theorem At.drop {l : List S47} {x : S47} {r : Nat} (h : At l x r) {y : S47} (hy : y ∈ l.drop r) : Qb7 y x = false := by
 obtain ⟨i, hi, rfl⟩ := List.mem_iff_getElem.1 hy
 have h1 := hi
 rw [List.length_drop] at h1
 have h2 : r + i < l.length := by omega
 have := h.2.2 (r + i) (by omega) h2
 rw [rd47 l (r + i) h2] at this
 rw [List.getElem_drop]; exact this
theorem asc_join {a b : List S47} (ha : Asc a) (hb : Asc b) (h : ∀ x ∈ a, ∀ y ∈ b, Qb7 x y = true) : Asc (a ++ b) := List.pairwise_append.2 ⟨ha, hb, h⟩
theorem asc_one (x : S47) : Asc [x] := List.pairwise_singleton _ _
theorem Asc.sub {a b : List S47} (h : Asc b) (s : List.Sublist a b) : Asc a := List.Pairwise.sublist s h
theorem add_j0t (k : Nat) (l : List S47) (t : Int) (y : List S47) : Qak.j0 (k + 1) l t y true = (if 0 ≤ wrap64 (t + 1) then (if wrap64 (t + 1) ≤ (l.length : Int) then (if y.length + (l.drop (wrap64 (t + 1)).toNat).length < 8796093022208 then some (y ++ l.drop (wrap64 (t + 1)).toNat) else none) else none) else none) := by
 rw [Qak.j0]; rfl
theorem add_j0f (k : Nat) (l : List S47) (t : Int) (y : List S47) : Qak.j0 (k + 1) l t y false = (if 0 ≤ t then (if t ≤ (l.length : Int) then (if y.length + (l.drop t.toNat).length < 8796093022208 then some (y ++ l.drop t.toNat) else none) else none) else none) := by
 rw [Qak.j0]; rfl
theorem add_j0 (l y : List S47) (t : Nat) (b : Bool) (hl : l.length ≤ 100000000) (hy : y.length ≤ 200000000) (ht : t ≤ l.length) (hb : b = true → t < l.length) : Ev (fun k => Qak.j0 k l (t : Int) y b) (y ++ l.drop (if b = true then t + 1 else t)) := by
 refine ⟨1, fun n hn => ?_⟩
 obtain ⟨m, rfl⟩ : ∃ m, n = m + 1 := ⟨n - 1, by omega⟩
 cases b with
 | true =>
  have := hb rfl
  show Qak.j0 (m + 1) l (t : Int) y true = _
  rw [add_j0t, w64s (n := l.length) (by omega) this, if_pos (by omega), if_pos (by omega), if_pos (by rw [List.length_drop]; omega)]; rfl
 | false =>
  show Qak.j0 (m + 1) l (t : Int) y false = _
  rw [add_j0f, if_pos (by omega), if_pos (by omega), if_pos (by rw [List.length_drop]; omega)]; rfl
theorem add_spec (l : List S47) (x : S47) (hl : l.length ≤ 50000000) (hA : Asc l) : ∃ r, Ev (fun k => Qak.f k l x.f0 x.f1) r ∧ Asc r ∧ r.length ≤ l.length + 1 ∧ ∀ y, y ∈ r ↔ y = x ∨ y ∈ l := by
 obtain ⟨t, ht, hx⟩ := find_at l x (by omega) hA
 have hb : ∀ b : Bool, (b = true ↔ (t < l.length ∧ Qaa l (t : Int) = x)) → ∃ r, Ev (fun k => Qak.j0 k l (t : Int) (l.take t ++ [x]) b) r ∧ Asc r ∧ r.length ≤ l.length + 1 ∧ ∀ y, y ∈ r ↔ y = x ∨ y ∈ l := by
  intro b hb
  refine ⟨_, add_j0 l _ t b (by omega) (by rw [List.length_append, List.length_take, List.length_singleton]; omega) ht.1 (fun h => (hb.1 h).1), ?_⟩
  cases b with
  | true =>
   obtain ⟨h1, h2⟩ := hb.1 rfl
   rw [rd47 l t h1] at h2
   have e : l.take t ++ [x] = l.take (t + 1) := by rw [List.take_add_one, List.getElem?_eq_getElem h1, h2]; rfl
   simp only [if_true]
   rw [e, List.take_append_drop]
   exact ⟨hA, by omega, fun y => ⟨fun h => Or.inr h, fun h => h.elim (fun h => by rw [h, ← h2]; exact List.getElem_mem h1) id⟩⟩
  | false =>
   have hn : x ∉ l := fun h => by have := hb.2 ((ht.mem hA).1 h); cases this
   simp only [Bool.false_eq_true, if_false]
   have hd : ∀ y ∈ l.drop t, Qb7 x y = true := fun y hy => lessB_tot (ht.drop hy) fun e => hn (e ▸ List.mem_of_mem_drop hy)
   refine ⟨asc_join (asc_join (hA.sub (List.take_sublist _ _)) (asc_one x) fun a ha b hb => ?_) (hA.sub (List.drop_sublist _ _)) fun a ha b hb => ?_, ?_, fun y => ?_⟩
   ·rw [List.mem_singleton] at hb; rw [hb]; exact ht.take ha
   ·rcases List.mem_append.1 ha with h | h
    ·exact Qcp (ht.take h) (hd b hb)
    ·rw [List.mem_singleton] at h; rw [h]; exact hd b hb
   ·simp only [List.length_append, List.length_take, List.length_drop, List.length_singleton]; have := ht.1; omega
   ·have : y ∈ l ↔ y ∈ l.take t ∨ y ∈ l.drop t := by rw [← List.mem_append, List.take_append_drop]
    rw [this]
    simp only [List.mem_append, List.mem_singleton]
    constructor
    ·rintro ((h | h) | h)
     ·exact Or.inr (Or.inl h)
     ·exact Or.inl h
     ·exact Or.inr (Or.inr h)
    ·rintro (h | h | h)
     ·exact Or.inl (Or.inr h)
     ·exact Or.inl (Or.inl h)
     ·exact Or.inr h
 have htl := ht.1
 unfold Qak.f
 have hw : wrap64 ((l.length : Int) + 1) = (l.length : Int) + 1 := w64i (by omega) (by omega)
 have main : ∀ r, Ev (fun k => if (t : Int) < (l.length : Int) then Qak.j0 k l (t : Int) (l.take t ++ [x]) ((Qaa l (t : Int)).f0 == x.f0 && ((Qaa l (t : Int)).f1 == x.f1)) else Qak.j0 k l (t : Int) (l.take t ++ [x]) false) r → Ev (fun k => (Qa3.f k l x.f0 x.f1).bind fun aQ => (if 0 ≤ (wrap64 ((l.length : Int) + 1)) then (if (wrap64 ((l.length : Int) + 1) : Int).toNat ≤ 17592186044416 then ((some ([] : List (S47))).bind fun y143 => (if 0 ≤ aQ then (if aQ ≤ (l.length : Int) then ((some (l.take (aQ : Int).toNat : List (S47))).bind fun y146 => (if y143.length + y146.length < 8796093022208 then ((some (y143 ++ y146 : List (S47))).bind fun y150 => ((some (([(⟨x.f0, x.f1⟩ : S47)] : List (S47)) : List (S47))).bind fun y153 => (if y150.length + y153.length < 8796093022208 then ((some (y150 ++ y153 : List (S47))).bind fun y156 => (if aQ < (l.length : Int) then (Qak.j0 k l aQ y156 (((Qaa l aQ).f0) == x.f0 && (((Qaa l aQ).f1) == x.f1))) else (Qak.j0 k l aQ y156 false))) else (none)))) else (none))) else (none)) else (none))) else (none)) else (none))) r := fun r h =>
  Ev.then hx (Ev.pos (by omega) (Ev.pos (by omega) (Ev.pos (by omega) (Ev.pos (by simp only [List.length_nil, List.length_take]; omega) (Ev.pos (by simp only [List.nil_append, List.length_take, List.length_singleton, Int.toNat_natCast]; omega) h)))))
 by_cases h : (t : Int) < (l.length : Int)
 ·obtain ⟨r, h1, h2⟩ := hb ((Qaa l (t : Int)).f0 == x.f0 && ((Qaa l (t : Int)).f1 == x.f1)) (by
    cases hq : Qaa l (t : Int); cases x
    simp; omega)
  exact ⟨r, main r (Ev.pos h h1), h2⟩
 ·obtain ⟨r, h1, h2⟩ := hb false (by simp; omega)
  exact ⟨r, main r (Ev.neg h h1), h2⟩
theorem Ev.upn {α : Type} {f g : Nat → Option α} {r : α} (m : Nat) (h : ∀ k, f (k + m) = g k) (k : Ev g r) : Ev f r := by
 obtain ⟨K, k⟩ := k
 exact ⟨K + m, fun n hn => by obtain ⟨i, rfl⟩ : ∃ i, n = i + m := ⟨n - m, by omega⟩; rw [h]; exact k i (by omega)⟩
theorem uni_end (k : Nat) (a b o : List S47) (h : a = [] ∨ b = []) (hl : o.length + a.length + b.length ≤ 100000000) : Qac.l0 (k + 2) a b o = some (o ++ a ++ b) := by
 have e : Qac.l0 (k + 2) a b o = Qac.j1 (k + 1) a b o false := by
  rw [Qac.l0]
  rcases h with rfl | rfl
  ·rfl
  ·split <;> rfl
 rw [e, Qac.j1]
 show (if o.length + a.length < 8796093022208 then ((some (o ++ a : List S47)).bind fun y => if y.length + b.length < 8796093022208 then some (y ++ b) else none) else none) = _
 rw [if_pos (by omega)]
 show (if (o ++ a).length + b.length < 8796093022208 then some (o ++ a ++ b) else none) = _
 rw [if_pos (by rw [List.length_append]; omega)]
open Classical in
theorem uni_j3 (k : Nat) (a b o : List S47) (q p : S47) : Qac.j3 (k + 1) a (q :: b) o p.f0 p.f1 = Qac.l0 k a (if q = p then b else q :: b) o := by
 rw [Qac.j3, if_pos (by simp)]
 show (if (q.f0 == p.f0 && (q.f1 == p.f1)) = true then _ else _) = _
 by_cases h : q = p
 ·subst h; simp; omega
 ·rw [if_neg h, if_neg (fun h2 => h (by cases q; cases p; simp at h2 ⊢; omega))]
open Classical in
theorem uni_j2 (k : Nat) (a b o : List S47) (q p : S47) (hl : o.length ≤ 100000000) : Qac.j2 (k + 1) (q :: a) b o p.f0 p.f1 = Qac.j3 k (if q = p then a else q :: a) b (o ++ [p]) p.f0 p.f1 := by
 rw [Qac.j2, if_pos (by omega)]
 show (if 0 < (((q :: a).length : Nat) : Int) then (if (q.f0 == p.f0 && (q.f1 == p.f1)) = true then _ else _) else none) = _
 rw [if_pos (by simp)]
 by_cases h : q = p
 ·subst h; simp; omega
 ·rw [if_neg h, if_neg (fun h2 => h (by cases q; cases p; simp at h2 ⊢; omega))]
open Classical in
theorem uni_j1 (k : Nat) (s t o : List S47) (p q : S47) (hl : o.length ≤ 100000000) : Qac.l0 (k + 4) (p :: s) (q :: t) o = if Qb7 q p = true then Qac.l0 k (if p = q then s else p :: s) (if q = q then t else q :: t) (o ++ [q]) else Qac.l0 k (if p = p then s else p :: s) (if q = p then t else q :: t) (o ++ [p]) := by
 rw [Qac.l0, if_pos (by simp), Qac.j1, if_pos (by simp), if_pos (by simp), if_pos (by simp)]
 show (Qa6.f q.f0 q.f1 p.f0 p.f1).bind _ = _
 rw [less_eq]
 show (if Qb7 q p = true then Qac.j2 (k + 2) (p :: s) (q :: t) o q.f0 q.f1 else Qac.j2 (k + 2) (p :: s) (q :: t) o p.f0 p.f1) = _
 rw [uni_j2 _ _ _ _ _ _ hl, uni_j2 _ _ _ _ _ _ hl, uni_j3, uni_j3]
theorem asc_cons {x : S47} {l : List S47} (h : Asc (x :: l)) : (∀ y ∈ l, Qb7 x y = true) ∧ Asc l := List.pairwise_cons.1 h
theorem uni_spec : ∀ n (a b o : List S47), a.length + b.length = n → o.length + n ≤ 100000000 → Asc a → Asc b → Asc o → (∀ y ∈ o, ∀ z, z ∈ a ∨ z ∈ b → Qb7 y z = true) →
    ∃ r, Ev (fun k => Qac.l0 k a b o) r ∧ Asc r ∧ r.length ≤ o.length + n ∧ ∀ y, y ∈ r ↔ y ∈ o ∨ y ∈ a ∨ y ∈ b := by
 intro n
 induction n using Nat.strongRecOn with
 | _ n ih =>
  intro a b o hn hl ha hb ho hlt
  match a, b, hn, ha, hb, hlt with
  | [], b, hn, ha, hb, hlt =>
   refine ⟨o ++ [] ++ b, ⟨2, fun n hn => by obtain ⟨m, rfl⟩ : ∃ m, n = m + 2 := ⟨n - 2, by omega⟩; exact uni_end m [] b o (Or.inl rfl) (by simp at *; omega)⟩, ?_, ?_, fun y => by simp⟩
   ·rw [List.append_nil]; exact asc_join ho hb fun x hx y hy => hlt x hx y (Or.inr hy)
   ·simp at *; omega
  | p :: s, [], hn, ha, hb, hlt =>
   refine ⟨o ++ (p :: s) ++ [], ⟨2, fun n hn => by obtain ⟨m, rfl⟩ : ∃ m, n = m + 2 := ⟨n - 2, by omega⟩; exact uni_end m _ [] o (Or.inr rfl) (by simp at *; omega)⟩, ?_, ?_, fun y => by simp⟩
   ·rw [List.append_nil]; exact asc_join ho ha fun x hx y hy => hlt x hx y (Or.inl hy)
   ·simp at *; omega
  | p :: s, q :: t, hn, ha, hb, hlt =>
   obtain ⟨hp, hs⟩ := asc_cons ha
   obtain ⟨hq, ht⟩ := asc_cons hb
   simp only [List.length_cons] at hn
   have snoc : ∀ z, z ∈ p :: s ∨ z ∈ q :: t → Asc (o ++ [z]) := fun z hz => asc_join ho (asc_one z) fun x hx y hy => by rw [List.mem_singleton] at hy; rw [hy]; exact hlt x hx z hz
   have hup : ∀ k, Qac.l0 (k + 4) (p :: s) (q :: t) o = _ := fun k => uni_j1 k s t o p q (by omega)
   by_cases hqp : Qb7 q p = true
   ·have hne : p ≠ q := fun e => by rw [e, Qd8] at hqp; cases hqp
    simp only [if_pos hqp, if_neg hne, if_true] at hup
    obtain ⟨r, h1, h2, h3, h4⟩ := ih (s.length + 1 + t.length) (by omega) (p :: s) t (o ++ [q]) rfl (by rw [List.length_append, List.length_singleton]; omega) ha ht (snoc q (Or.inr (by simp))) (fun y hy z hz => by
     rcases List.mem_append.1 hy with h | h
     ·exact hlt y h z (hz.imp id fun h => List.mem_cons_of_mem _ h)
     ·rw [List.mem_singleton] at h; rw [h]
      rcases hz with h | h
      ·rcases List.mem_cons.1 h with h | h
       ·rw [h]; exact hqp
       ·exact Qcp hqp (hp z h)
      ·exact hq z h)
    refine ⟨r, Ev.upn 4 hup h1, h2, by rw [List.length_append, List.length_singleton] at h3; omega, fun y => (h4 y).trans ?_⟩
    simp only [List.mem_append, List.mem_cons, List.not_mem_nil, or_false]
    constructor
    ·rintro ((h | h) | h | h)
     ·exact Or.inl h
     ·exact Or.inr (Or.inr (Or.inl h))
     ·exact Or.inr (Or.inl h)
     ·exact Or.inr (Or.inr (Or.inr h))
    ·rintro (h | h | (h | h))
     ·exact Or.inl (Or.inl h)
     ·exact Or.inr (Or.inl h)
     ·exact Or.inl (Or.inr h)
     ·exact Or.inr (Or.inr h)
   ·have hqp' : Qb7 q p = false := by simpa using hqp
    by_cases hne : q = p
    ·simp only [if_neg hqp, if_pos hne, if_true] at hup
     subst hne
     obtain ⟨r, h1, h2, h3, h4⟩ := ih (s.length + t.length) (by omega) s t (o ++ [q]) rfl (by rw [List.length_append, List.length_singleton]; omega) hs ht (snoc q (Or.inl (by simp))) (fun y hy z hz => by
      rcases List.mem_append.1 hy with h | h
      ·exact hlt y h z (hz.imp (fun h => List.mem_cons_of_mem _ h) fun h => List.mem_cons_of_mem _ h)
      ·rw [List.mem_singleton] at h; rw [h]
       rcases hz with h | h
       ·exact hp z h
       ·exact hq z h)
     refine ⟨r, Ev.upn 4 hup h1, h2, by rw [List.length_append, List.length_singleton] at h3; omega, fun y => (h4 y).trans ?_⟩
     simp only [List.mem_append, List.mem_cons, List.not_mem_nil, or_false]
     constructor
     ·rintro ((h | h) | h | h)
      ·exact Or.inl h
      ·exact Or.inr (Or.inl (Or.inl h))
      ·exact Or.inr (Or.inl (Or.inr h))
      ·exact Or.inr (Or.inr (Or.inr h))
     ·rintro (h | (h | h) | h | h)
      ·exact Or.inl (Or.inl h)
      ·exact Or.inl (Or.inr h)
      ·exact Or.inr (Or.inl h)
      ·exact Or.inl (Or.inr h)
      ·exact Or.inr (Or.inr h)
    ·have hpq : Qb7 p q = true := lessB_tot hqp' hne
     simp only [if_neg hqp, if_neg hne, if_true] at hup
     obtain ⟨r, h1, h2, h3, h4⟩ := ih (s.length + (t.length + 1)) (by omega) s (q :: t) (o ++ [p]) rfl (by rw [List.length_append, List.length_singleton]; omega) hs hb (snoc p (Or.inl (by simp))) (fun y hy z hz => by
      rcases List.mem_append.1 hy with h | h
      ·exact hlt y h z (hz.imp (fun h => List.mem_cons_of_mem _ h) id)
      ·rw [List.mem_singleton] at h; rw [h]
       rcases hz with h | h
       ·exact hp z h
       ·rcases List.mem_cons.1 h with h | h
        ·rw [h]; exact hpq
        ·exact Qcp hpq (hq z h))
     refine ⟨r, Ev.upn 4 hup h1, h2, by rw [List.length_append, List.length_singleton] at h3; omega, fun y => (h4 y).trans ?_⟩
     simp only [List.mem_append, List.mem_cons, List.not_mem_nil, or_false]
     constructor
     ·rintro ((h | h) | h | h)
      ·exact Or.inl h
      ·exact Or.inr (Or.inl (Or.inl h))
      ·exact Or.inr (Or.inl (Or.inr h))
      ·exact Or.inr (Or.inr h)
     ·rintro (h | (h | h) | h)
      ·exact Or.inl (Or.inl h)
      ·exact Or.inl (Or.inr h)
      ·exact Or.inr (Or.inl h)
      ·exact Or.inr (Or.inr h)
theorem union_spec (a b : List S47) (ha : Asc a) (hb : Asc b) (hl : a.length + b.length ≤ 50000000) : ∃ r, Ev (fun k => Qac.f k a b) r ∧ Asc r ∧ r.length ≤ a.length + b.length ∧ ∀ y, y ∈ r ↔ y ∈ a ∨ y ∈ b := by
 obtain ⟨r, h1, h2, h3, h4⟩ := uni_spec _ a b [] rfl (by simp; omega) ha hb List.Pairwise.nil (fun y hy => absurd hy (by simp))
 have hw : wrap64 ((a.length : Int) + (b.length : Int)) = (a.length : Int) + (b.length : Int) := w64i (by omega) (by omega)
 refine ⟨r, ?_, h2, by simpa using h3, fun y => (h4 y).trans (by simp)⟩
 unfold Qac.f
 exact Ev.pos (by omega) (Ev.pos (by omega) h1)
attribute [local go_sem] Qbt Qb0
theorem dropV1 (v p0 p1 : Int) (g : Nat) (W : World) (hg : W.heap[g]? = some (.cells #[.int .i64 v] 3 (0, 0))) :
    Calls Tryz.prog 206 #[.agg #[.int .i64 p0, .int .i64 p1], .pointer (some ⟨g, 0, none⟩)] W fun e w' => e = .returned (.bool (p0 != v)) ∧ Below W.heap.size W w' := by
 have hu47 := Tryz.underlying47
 have HG := As0 hg
 clear hg
 have HB := As0 (Below.refl W.heap.size W)
 go_enter Tryz.func206, Tryz.ntmps206
 go_wp2_with ((with_reducible refine gD 2 ?_); refine bX ?_; intro gb hg w1 aC hb; have X := As0 aC; replace HB := sB HB hb; replace HG := As0 (Qbg HG.out hb); (obtain ⟨z0, z1, y0, y1⟩ := cN2 X.out); have c0 := (Qbh HG.out 0).trans rfl; have f0 := Qbj HG.out 0; clear hb aC hg)
 go_ret
 exact ⟨by first | rfl | simp, BU HB.out⟩
theorem dropL1 (v p0 p1 : Int) (g : Nat) (W : World) (hg : W.heap[g]? = some (.cells #[.int .i64 v] 45 (0, 0))) :
    Calls Tryz.prog 207 #[.agg #[.int .i64 p0, .int .i64 p1], .pointer (some ⟨g, 0, none⟩)] W fun e w' => e = .returned (.bool (p1 != v)) ∧ Below W.heap.size W w' := by
 have hu47 := Tryz.underlying47
 have HG := As0 hg
 clear hg
 have HB := As0 (Below.refl W.heap.size W)
 go_enter Tryz.func207, Tryz.ntmps207
 go_wp2_with ((with_reducible refine gD 2 ?_); refine bX ?_; intro gb hg w1 aC hb; have X := As0 aC; replace HB := sB HB hb; replace HG := As0 (Qbg HG.out hb); (obtain ⟨z0, z1, y0, y1⟩ := cN2 X.out); have c0 := (Qbh HG.out 0).trans rfl; have f0 := Qbj HG.out 0; clear hb aC hg)
 go_ret
 exact ⟨by first | rfl | simp, BU HB.out⟩
theorem filter_calls (K : S47 → Bool) (fv : Nat) (cap : Array Value) (A : Option Addr) (c : Nat) (l : List S47) (w : World) (hr : Kd.C k47 w A l.length l) (hc : l.length ≤ c) (hl : l.length < 8796093022208)
    (eg : ∀ args w, (callFunc fv args).run Tryz.prog w = .ok (.enter fv args) w)
    (hK : ∀ W, Below w.heap.size w W → ∀ p : S47, Calls Tryz.prog fv (#[.agg #[.int .i64 p.f0, .int .i64 p.f1]] ++ cap) W fun e w' => e = .returned (.bool (K p)) ∧ Below W.heap.size W w') :
    Calls Tryz.prog 205 #[.slice A l.length c, .func (.func fv) #[] cap] w fun e w' => ∃ v, e = .returned v ∧ Kd.R k47 47 w' w.heap.size (fun _ => True) v (l.filter K) ∧ Below w.heap.size w w' := by
 have hu47 := Tryz.underlying47
 have hu44 := Tryz.underlying44
 have HR := As0 hr
 have HC := As0 hc
 have HL := As0 hl
 have HK := As0 hK
 clear hr hc hl hK
 have HB := As0 (Below.refl w.heap.size w)
 go_enter Tryz.func205, Tryz.ntmps205
 go_wp2_with ((with_reducible refine gD 10 ?_); (try (refine Qck (by rfl) ?_; dsimp only)); refine Kd.R_make0 k47 _ 47 rfl (N := 10) rfl 44 _ _ rfl (l.length : Int) rfl rfl Tryz.underlying44 (.agg #[(.int .i64 0), (.int .i64 0)]) 16 Qcq rfl (by decide) (by omega) z47 (ok := fun _ => True) (okp := fun _ => True) (Qc8 _ _ _ z47) (fun _ hk => hk) trivial (Int.natCast_nonneg _) (by have := HL.out; simp only [Int.toNat_natCast]; omega) (Below.refl _ _) (Nat.le_refl _) ?_; intro v0 w1 ho hb _h1 _h2; have HO := As0 ho; replace HB := As0 hb; clear ho hb _h1 _h2)
 go_loopg [5, 13] (l.length + 1) (fun g v5 v13 w' => ∃ i : Nat, v13 = .int .i64 (i : Int) ∧ Qbf (i ≤ l.length ∧ l.length - i < g) ∧ Qbf (Kd.R k47 47 w' w.heap.size (fun _ => True) v5 ((l.take i).filter K)) ∧ Qbf (Below w.heap.size w w'))
 case atStart => exact ⟨0, rfl, ⟨by omega, by omega⟩, ⟨RU HO.out⟩, ⟨BU HB.out⟩⟩
 case round =>
  clear HO HB
  obtain ⟨i, rfl, HI, HO, HB⟩ := hrel
  by_cases hi : i < l.length
  ·have hlt : (i : Int) < (l.length : Int) := by omega
   have h0 : (0 : Int) ≤ (i : Int) := by omega
   obtain ⟨ad, e, hx0, hx1⟩ := Qcc HR.out i h0 hlt
   cases e
   replace hx0 := cl HB hx0
   replace hx1 := cl HB hx1
   have hw : wrap64 ((i : Int) + 1) = ((i + 1 : Nat) : Int) := by have := HL.out; unfold wrap64; omega
   have hp : Qaa l (i : Int) = l[i] := by simp [Qaa, List.getD_eq_getElem?_getD, hi]
   rw [hp] at hx0 hx1
   simp only [Int.toNat_natCast] at hx0 hx1
   have htk : l.take (i + 1) = l.take i ++ [l[i]] := by simp [List.take_append_getElem, hi]
   generalize l[i] = p at hx0 hx1 htk
   clear hp
   have HT := As0 htk
   clear htk
   cases hq : K p with
   | true =>
    go_wp2_with (first
     | ((with_reducible refine gD 7 ?_); refine bX ?_; intro gb hg w2 aC hb; have X := As0 aC; have GE := As0 (by rw [hg]; exact Qbi (BU HB.out) : w.heap.size ≤ gb); have GB := As0 hg; replace HO := As0 (Kd.R_mono (Kd.R_below (Kd.R_elderB (RU HO.out) gb (Nat.le_of_eq hg.symm)) hb) (fun _ hk => hk.2) : Kd.R k47 47 w2 w.heap.size (fun k_ => k_ ≠ gb) u5 ((l.take i).filter K)); replace HB := sB HB hb; clear hb aC hg)
     | ((with_reducible refine Qcb (.store 47 (.tmp 7) (.tmp 16)) rfl ?_); go_loud (refine Qae rfl rfl 47 _ _ rfl gb #[.int .i64 p.f0, .int .i64 p.f1] rfl rfl 47 #[.int .i64 0, .int .i64 0] X.out (by kernel_rfl) rfl (by kernel_rfl) ?_); intro w3 hg ho hB; replace HO := As0 (Kd.R_step (RU HO.out) (fun k hk _ => ho k hk)); replace X := As0 hg; replace HB := As0 (hB _ _ GE.out HB.out); (obtain ⟨z0, z1, y0, y1⟩ := cN2 X.out); clear hg ho hB)
     | (go_at_fn fv; refine (HK.out _ (BU HB.out) p).mono ?_; rintro e w4 ⟨rfl, hb⟩; rw [hq]; clear z0 z1 y0 y1; replace HO := As0 (Kd.R_below (RU HO.out) hb); replace X := kB X hb; replace HB := sB HB hb; (obtain ⟨z0, z1, y0, y1⟩ := cN2 X.out); clear hb)
     | ((with_reducible refine Qb6 (b := .append) (xs := #[.tmp 20, .tmp 22]) rfl ?_); (try (refine Qck (by rfl) ?_; dsimp only)); at_builtin; refine Kd.R_append k47 (w0 := w) w.heap.size rfl (.tmp 20) (.tmp 22) 44 47 (.agg #[(.int .i64 0), (.int .i64 0)]) 16 rfl Tryz.underlying44 Qcq rfl (by decide) (by omega) u5 ((l.take i).filter K) p [.int .i64 p.f0, .int .i64 p.f1] (fun k_ => k_ ≠ gb) (fun _ => False) rfl rfl (Qc8 _ _ _ p) (fun _ hk => hk.elim) ?aF (RU HO.out) (BU HB.out) (Qbi (BU HB.out)) ?aL ?_; (case aF => exact (fun k_ hk => Kd.freshB (g := gb) (bU X.out) k_ hk)); (case aL => have := HL.out; have := List.length_filter_le K (l.take i); have := List.length_take_le i l; omega); intro v5 w5 ho hb hg hat; replace HO := As0 ho; replace HB := As0 hb; clear ho hb hg hat))
    go_roundg (l.length - i)
    case measure => have := HI.out; omega
    case rel => exact ⟨i + 1, by rw [hw], ⟨by omega, by omega⟩, ⟨by rw [HT.out, List.filter_append, List.filter_cons_of_pos (by exact hq)]; exact Kd.R_mono (RU HO.out) (fun _ _ => trivial)⟩, ⟨BU HB.out⟩⟩
   | false =>
    go_wp2_with (first
     | ((with_reducible refine gD 7 ?_); refine bX ?_; intro gb hg w2 aC hb; have X := As0 aC; have GE := As0 (by rw [hg]; exact Qbi (BU HB.out) : w.heap.size ≤ gb); have GB := As0 hg; replace HO := As0 (Kd.R_mono (Kd.R_below (Kd.R_elderB (RU HO.out) gb (Nat.le_of_eq hg.symm)) hb) (fun _ hk => hk.2) : Kd.R k47 47 w2 w.heap.size (fun k_ => k_ ≠ gb) u5 ((l.take i).filter K)); replace HB := sB HB hb; clear hb aC hg)
     | ((with_reducible refine Qcb (.store 47 (.tmp 7) (.tmp 16)) rfl ?_); go_loud (refine Qae rfl rfl 47 _ _ rfl gb #[.int .i64 p.f0, .int .i64 p.f1] rfl rfl 47 #[.int .i64 0, .int .i64 0] X.out (by kernel_rfl) rfl (by kernel_rfl) ?_); intro w3 hg ho hB; replace HO := As0 (Kd.R_step (RU HO.out) (fun k hk _ => ho k hk)); replace X := As0 hg; replace HB := As0 (hB _ _ GE.out HB.out); (obtain ⟨z0, z1, y0, y1⟩ := cN2 X.out); clear hg ho hB)
     | (go_at_fn fv; refine (HK.out _ (BU HB.out) p).mono ?_; rintro e w4 ⟨rfl, hb⟩; rw [hq]; clear z0 z1 y0 y1; replace HO := As0 (Kd.R_below (RU HO.out) hb); replace X := kB X hb; replace HB := sB HB hb; (obtain ⟨z0, z1, y0, y1⟩ := cN2 X.out); clear hb))
    go_roundg (l.length - i)
    case measure => have := HI.out; omega
    case rel => exact ⟨i + 1, by rw [hw], ⟨by omega, by omega⟩, ⟨by rw [HT.out, List.filter_append, List.filter_cons_of_neg (by rw [hq]; decide), List.filter_nil, List.append_nil]; exact Kd.R_mono (RU HO.out) (fun _ _ => trivial)⟩, ⟨BU HB.out⟩⟩
  ·have hi' : i = l.length := by have := HI.out.1; omega
   subst hi'
   go_wp2
   go_ret
   refine ⟨_, rfl, ?_, BU HB.out⟩
   have := HO.out
   rw [List.take_length] at this
   exact RU this
theorem dropV_calls (A : Option Addr) (c : Nat) (l : List S47) (v : Int) (w : World) (hr : Kd.C k47 w A l.length l) (hc : l.length ≤ c) (hl : l.length < 8796093022208) :
    Calls Tryz.prog 185 #[.slice A l.length c, .int .i64 v] w fun e w' => ∃ u, e = .returned u ∧ Kd.R k47 47 w' w.heap.size (fun _ => True) u (l.filter fun p => p.f0 != v) ∧ Below w.heap.size w w' := by
 have hu47 := Tryz.underlying47
 have hu44 := Tryz.underlying44
 have HR := As0 hr
 clear hr
 have HB := As0 (Below.refl w.heap.size w)
 have hmf : ∀ (fn : Fn) (first cap : Array Value) (w : World), (Instr.makeFunc fn first cap).run Tryz.prog w = .ok (.func fn first cap) w := fun _ _ _ _ => rfl
 go_enter Tryz.func185, Tryz.ntmps185
 go_wp2_with (first
  | ((with_reducible refine gD 3 ?_); refine bX ?_; intro gb hg w1 aC hb; have X := As0 aC; replace HB := sB HB hb; replace HR := As0 (Kd.C_below HR.out hb); clear hb aC hg)
  | (go_at_call 205; refine (filter_calls (fun p => p.f0 != v) 206 #[.pointer (some ⟨gb, 0, none⟩)] A c l _ HR.out hc hl (enters_of Tryz.func206 (by kernel_rfl) rfl) (fun W hW p => dropV1 v p.f0 p.f1 gb W (Qbg X.out hW))).mono ?_; rintro e w2 ⟨u, rfl, hu, hb⟩; have HO := As0 (Kd.R_lower hu (Qbi (BU HB.out))); replace HB := sB HB hb; clear hb hu))
 go_ret
 exact ⟨u, rfl, RU HO.out, BU HB.out⟩
theorem dropL_calls (A : Option Addr) (c : Nat) (l : List S47) (v : Int) (w : World) (hr : Kd.C k47 w A l.length l) (hc : l.length ≤ c) (hl : l.length < 8796093022208) :
    Calls Tryz.prog 187 #[.slice A l.length c, .int .i64 v] w fun e w' => ∃ u, e = .returned u ∧ Kd.R k47 47 w' w.heap.size (fun _ => True) u (l.filter fun p => p.f1 != v) ∧ Below w.heap.size w w' := by
 have hu47 := Tryz.underlying47
 have hu44 := Tryz.underlying44
 have HR := As0 hr
 clear hr
 have HB := As0 (Below.refl w.heap.size w)
 have hmf : ∀ (fn : Fn) (first cap : Array Value) (w : World), (Instr.makeFunc fn first cap).run Tryz.prog w = .ok (.func fn first cap) w := fun _ _ _ _ => rfl
 go_enter Tryz.func187, Tryz.ntmps187
 go_wp2_with (first
  | ((with_reducible refine gD 3 ?_); refine bX ?_; intro gb hg w1 aC hb; have X := As0 aC; replace HB := sB HB hb; replace HR := As0 (Kd.C_below HR.out hb); clear hb aC hg)
  | (go_at_call 205; refine (filter_calls (fun p => p.f1 != v) 207 #[.pointer (some ⟨gb, 0, none⟩)] A c l _ HR.out hc hl (enters_of Tryz.func207 (by kernel_rfl) rfl) (fun W hW p => dropL1 v p.f0 p.f1 gb W (Qbg X.out hW))).mono ?_; rintro e w2 ⟨u, rfl, hu, hb⟩; have HO := As0 (Kd.R_lower hu (Qbi (BU HB.out))); replace HB := sB HB hb; clear hb hu))
 go_ret
 exact ⟨u, rfl, RU HO.out, BU HB.out⟩
theorem put2 {w : World} {g t : Nat} {a0 a1 b0 b1 : Value} (h : w.heap[g]? = some (.cells #[a0, a1] t (0, 0))) : ((w.setCell ⟨g, 0, none⟩ b0).setCell ⟨g, 1, none⟩ b1).heap[g]? = some (.cells #[b0, b1] t (0, 0)) :=
 Qb5 (cs := #[b0, a1]) (Qb5 (cs := #[a0, a1]) h 0 _ rfl) 1 _ rfl
theorem copy1 (d a p0 p1 : Int) (g1 g2 : Nat) (W : World) (h1 : W.heap[g1]? = some (.cells #[.int .i64 d] 3 (0, 0))) (h2 : W.heap[g2]? = some (.cells #[.int .i64 a] 3 (0, 0))) :
    Calls Tryz.prog 186 #[.agg #[.int .i64 p0, .int .i64 p1], .pointer (some ⟨g1, 0, none⟩), .pointer (some ⟨g2, 0, none⟩)] W fun e w' => e = .returned (.tuple #[.agg #[.int .i64 d, .int .i64 p1], .bool (p0 == a)]) ∧ Below W.heap.size W w' := by
 have hu47 := Tryz.underlying47
 have H1 := As0 h1
 have H2 := As0 h2
 clear h1 h2
 have HB := As0 (Below.refl W.heap.size W)
 go_enter Tryz.func186, Tryz.ntmps186
 go_wp2_with (first
  | ((with_reducible refine gD 3 ?_); refine bX ?_; intro gb hg w1 aC hb; have X := As0 aC; replace HB := sB HB hb; replace H1 := As0 (Qbg H1.out hb); replace H2 := As0 (Qbg H2.out hb); clear hb aC hg)
  | ((with_reducible refine gD 4 ?_); go_loud (refine bX ?_); intro gc hg w2 aC hb; have nb : gb ≠ gc := (by have q := Qbs X.out; omega); have n1 : g1 ≠ gc := (by have q := Qbs H1.out; omega); have n2 : g2 ≠ gc := (by have q := Qbs H2.out; omega); have mb := nb.symm; have m1 := n1.symm; have m2 := n2.symm; have Y := As0 aC; have GY := As0 (by have q := Qbi HB.out; omega : W.heap.size ≤ gc); replace HB := sB HB hb; replace H1 := As0 (Qbg H1.out hb); replace H2 := As0 (Qbg H2.out hb); replace X := As0 (Qbg X.out hb); (obtain ⟨z0, z1, y0, y1⟩ := cN2 X.out); (obtain ⟨e0, e1, f0, f1⟩ := cN2 Y.out); have c0 := (Qbh H1.out 0).trans rfl; have c1 := (Qbh H2.out 0).trans rfl; clear hb aC hg))
 go_region
 go_wp2
 exact bodyPost_ret (Qcu rfl _ _ gc 47 #[.int .i64 d, .int .i64 p1] (0, 0) _ rfl (by repeat (refine Qbm ?_); exact put2 Y.out) Tryz.underlying47 rfl (by kernel_rfl)) rfl ⟨rfl, BU HB.out⟩
theorem move1 (d a p0 p1 : Int) (g1 g2 : Nat) (W : World) (h1 : W.heap[g1]? = some (.cells #[.int .i64 d] 45 (0, 0))) (h2 : W.heap[g2]? = some (.cells #[.int .i64 a] 45 (0, 0))) :
    Calls Tryz.prog 188 #[.agg #[.int .i64 p0, .int .i64 p1], .pointer (some ⟨g1, 0, none⟩), .pointer (some ⟨g2, 0, none⟩)] W fun e w' => e = .returned (.tuple #[.agg #[.int .i64 p0, .int .i64 d], .bool (p1 == a)]) ∧ Below W.heap.size W w' := by
 have hu47 := Tryz.underlying47
 have H1 := As0 h1
 have H2 := As0 h2
 clear h1 h2
 have HB := As0 (Below.refl W.heap.size W)
 go_enter Tryz.func188, Tryz.ntmps188
 go_wp2_with (first
  | ((with_reducible refine gD 3 ?_); refine bX ?_; intro gb hg w1 aC hb; have X := As0 aC; replace HB := sB HB hb; replace H1 := As0 (Qbg H1.out hb); replace H2 := As0 (Qbg H2.out hb); clear hb aC hg)
  | ((with_reducible refine gD 4 ?_); go_loud (refine bX ?_); intro gc hg w2 aC hb; have nb : gb ≠ gc := (by have q := Qbs X.out; omega); have n1 : g1 ≠ gc := (by have q := Qbs H1.out; omega); have n2 : g2 ≠ gc := (by have q := Qbs H2.out; omega); have mb := nb.symm; have m1 := n1.symm; have m2 := n2.symm; have Y := As0 aC; have GY := As0 (by have q := Qbi HB.out; omega : W.heap.size ≤ gc); replace HB := sB HB hb; replace H1 := As0 (Qbg H1.out hb); replace H2 := As0 (Qbg H2.out hb); replace X := As0 (Qbg X.out hb); (obtain ⟨z0, z1, y0, y1⟩ := cN2 X.out); (obtain ⟨e0, e1, f0, f1⟩ := cN2 Y.out); have c0 := (Qbh H1.out 0).trans rfl; have c1 := (Qbh H2.out 0).trans rfl; clear hb aC hg))
 go_region
 go_wp2
 exact bodyPost_ret (Qcu rfl _ _ gc 47 #[.int .i64 p0, .int .i64 d] (0, 0) _ rfl (by repeat (refine Qbm ?_); exact put2 Y.out) Tryz.underlying47 rfl (by kernel_rfl)) rfl ⟨rfl, BU HB.out⟩
theorem rename_calls (k : Nat) (K1 : S47 → S47) (K2 : S47 → Bool) (fv : Nat) (cap : Array Value) (vk : Value) (kept : List S47) (b0 : Nat) (ok0 : Nat → Prop) (A : Option Addr) (c : Nat) (l r : List S47) (w : World) (hk : Kd.R k47 47 w b0 ok0 vk kept) (hr : Kd.C k47 w A l.length l) (hc : l.length ≤ c) (hl : l.length < 8796093022208)
    (eg : ∀ args w, (callFunc fv args).run Tryz.prog w = .ok (.enter fv args) w)
    (hK : ∀ W, Below w.heap.size w W → ∀ p : S47, Calls Tryz.prog fv (#[.agg #[.int .i64 p.f0, .int .i64 p.f1]] ++ cap) W fun e w' => e = .returned (.tuple #[.agg #[.int .i64 (K1 p).f0, .int .i64 (K1 p).f1], .bool (K2 p)]) ∧ Below W.heap.size W w')
    (hs : Asc ((l.filter K2).map K1)) (hu : Qac.f k kept ((l.filter K2).map K1) = some r) :
    Calls Tryz.prog 184 #[vk, .slice A l.length c, .func (.func fv) #[] cap] w fun e w' => ∃ v, e = .returned v ∧ Kd.R k47 47 w' w.heap.size (fun _ => True) v r ∧ Below w.heap.size w w' := by
 have hu47 := Tryz.underlying47
 have hu44 := Tryz.underlying44
 have HV := As0 hk
 have HR := As0 hr
 have HL := As0 hl
 have HK := As0 hK
 have HS := As0 hs
 have HU := As0 hu
 clear hk hr hl hK hs hu
 have HB := As0 (Below.refl w.heap.size w)
 go_enter Tryz.func184, Tryz.ntmps184
 go_wp2
 go_loopg [7, 14] (l.length + 1) (fun g v7 v14 w' => ∃ i : Nat, v14 = .int .i64 (i : Int) ∧ Qbf (i ≤ l.length ∧ l.length - i < g) ∧ Qbf (Kd.R k47 47 w' w.heap.size (fun _ => True) v7 (((l.take i).filter K2).map K1)) ∧ Qbf (Below w.heap.size w w'))
 case atStart => exact ⟨0, rfl, ⟨by omega, by omega⟩, ⟨Kd.R_nil _ _ _ _ _⟩, ⟨BU HB.out⟩⟩
 case round =>
  clear HB
  obtain ⟨i, rfl, HI, HO, HB⟩ := hrel
  by_cases hi : i < l.length
  ·have hlt : (i : Int) < (l.length : Int) := by omega
   have h0 : (0 : Int) ≤ (i : Int) := by omega
   obtain ⟨ad, e, hx0, hx1⟩ := Qcc HR.out i h0 hlt
   cases e
   replace hx0 := cl HB hx0
   replace hx1 := cl HB hx1
   have hw : wrap64 ((i : Int) + 1) = ((i + 1 : Nat) : Int) := by have := HL.out; unfold wrap64; omega
   have hp : Qaa l (i : Int) = l[i] := by simp [Qaa, List.getD_eq_getElem?_getD, hi]
   rw [hp] at hx0 hx1
   simp only [Int.toNat_natCast] at hx0 hx1
   have htk : l.take (i + 1) = l.take i ++ [l[i]] := by simp [List.take_append_getElem, hi]
   generalize l[i] = p at hx0 hx1 htk
   clear hp
   have HT := As0 htk
   clear htk
   cases hq : K2 p with
   | true =>
    go_wp2_with (first
     | ((with_reducible refine gD 9 ?_); refine bX ?_; intro gb hg w2 aC hb; have X := As0 aC; have GE := As0 (by rw [hg]; exact Qbi (BU HB.out) : w.heap.size ≤ gb); replace HO := As0 (Kd.R_mono (Kd.R_below (Kd.R_elderB (RU HO.out) gb (Nat.le_of_eq hg.symm)) hb) (fun _ hk => hk.2) : Kd.R k47 47 w2 w.heap.size (fun k_ => k_ ≠ gb) u7 (((l.take i).filter K2).map K1)); replace HB := sB HB hb; clear hb aC hg)
     | ((with_reducible refine Qcb (.store 47 (.tmp 9) (.tmp 17)) rfl ?_); go_loud (refine Qae rfl rfl 47 _ _ rfl gb #[.int .i64 p.f0, .int .i64 p.f1] rfl rfl 47 #[.int .i64 0, .int .i64 0] X.out (by kernel_rfl) rfl (by kernel_rfl) ?_); intro w3 hg ho hB; replace HO := As0 (Kd.R_step (RU HO.out) (fun k hk _ => ho k hk)); replace X := As0 hg; replace HB := As0 (hB _ _ GE.out HB.out); (obtain ⟨z0, z1, y0, y1⟩ := cN2 X.out); clear hg ho hB)
     | (go_at_fn fv; refine (HK.out _ (BU HB.out) p).mono ?_; rintro e w4 ⟨rfl, hb⟩; rw [hq]; clear z0 z1 y0 y1; replace HO := As0 (Kd.R_below (RU HO.out) hb); replace HB := sB HB hb; clear X hb)
     | ((with_reducible refine gD 10 ?_); refine bX ?_; intro gd hg w5 aC hb; have Y := As0 aC; have GF := As0 (by rw [hg]; exact Qbi (BU HB.out) : w.heap.size ≤ gd); replace HO := As0 (Kd.R_mono (Kd.R_below (Kd.R_elderB (RU HO.out) gd (Nat.le_of_eq hg.symm)) hb) (fun _ hk => hk.2) : Kd.R k47 47 w5 w.heap.size (fun k_ => k_ ≠ gd) u7 (((l.take i).filter K2).map K1)); replace HB := sB HB hb; clear hb aC hg)
     | ((with_reducible refine Qcb (.store 47 (.tmp 10) (.tmp 22)) rfl ?_); go_loud (refine Qae rfl rfl 47 _ _ rfl gd #[.int .i64 (K1 p).f0, .int .i64 (K1 p).f1] rfl rfl 47 #[.int .i64 0, .int .i64 0] Y.out (by kernel_rfl) rfl (by kernel_rfl) ?_); intro w6 hg ho hB; replace HO := As0 (Kd.R_step (RU HO.out) (fun k hk _ => ho k hk)); replace Y := As0 hg; replace HB := As0 (hB _ _ GF.out HB.out); (obtain ⟨e0, e1, f0, f1⟩ := cN2 Y.out); clear hg ho hB)
     | ((with_reducible refine Qb6 (b := .append) (xs := #[.tmp 25, .tmp 27]) rfl ?_); (try (refine Qck (by rfl) ?_; dsimp only)); at_builtin; refine Kd.R_append k47 (w0 := w) w.heap.size rfl (.tmp 25) (.tmp 27) 44 47 (.agg #[(.int .i64 0), (.int .i64 0)]) 16 rfl Tryz.underlying44 Qcq rfl (by decide) (by omega) u7 (((l.take i).filter K2).map K1) (K1 p) [.int .i64 (K1 p).f0, .int .i64 (K1 p).f1] (fun k_ => k_ ≠ gd) (fun _ => False) rfl rfl (Qc8 _ _ _ (K1 p)) (fun _ hk => hk.elim) ?aF (RU HO.out) (BU HB.out) (Qbi (BU HB.out)) ?aL ?_; (case aF => exact (fun k_ hk => Kd.freshB (g := gd) (bU Y.out) k_ hk)); (case aL => have := HL.out; have := List.length_filter_le K2 (l.take i); have := List.length_take_le i l; rw [List.length_map]; omega); intro v7 w7 ho hb hg hat; replace HO := As0 ho; replace HB := As0 hb; clear ho hb hg hat))
    go_roundg (l.length - i)
    case measure => have := HI.out; omega
    case rel => exact ⟨i + 1, by rw [hw], ⟨by omega, by omega⟩, ⟨by rw [HT.out, List.filter_append, List.map_append, List.filter_cons_of_pos (by exact hq)]; exact Kd.R_mono (RU HO.out) (fun _ _ => trivial)⟩, ⟨BU HB.out⟩⟩
   | false =>
    go_wp2_with (first
     | ((with_reducible refine gD 9 ?_); refine bX ?_; intro gb hg w2 aC hb; have X := As0 aC; have GE := As0 (by rw [hg]; exact Qbi (BU HB.out) : w.heap.size ≤ gb); replace HO := As0 (Kd.R_mono (Kd.R_below (Kd.R_elderB (RU HO.out) gb (Nat.le_of_eq hg.symm)) hb) (fun _ hk => hk.2) : Kd.R k47 47 w2 w.heap.size (fun k_ => k_ ≠ gb) u7 (((l.take i).filter K2).map K1)); replace HB := sB HB hb; clear hb aC hg)
     | ((with_reducible refine Qcb (.store 47 (.tmp 9) (.tmp 17)) rfl ?_); go_loud (refine Qae rfl rfl 47 _ _ rfl gb #[.int .i64 p.f0, .int .i64 p.f1] rfl rfl 47 #[.int .i64 0, .int .i64 0] X.out (by kernel_rfl) rfl (by kernel_rfl) ?_); intro w3 hg ho hB; replace HO := As0 (Kd.R_step (RU HO.out) (fun k hk _ => ho k hk)); replace X := As0 hg; replace HB := As0 (hB _ _ GE.out HB.out); (obtain ⟨z0, z1, y0, y1⟩ := cN2 X.out); clear hg ho hB)
     | (go_at_fn fv; refine (HK.out _ (BU HB.out) p).mono ?_; rintro e w4 ⟨rfl, hb⟩; rw [hq]; clear z0 z1 y0 y1; replace HO := As0 (Kd.R_below (RU HO.out) hb); replace HB := sB HB hb; clear X hb)
     | ((with_reducible refine gD 10 ?_); refine bX ?_; intro gd hg w5 aC hb; have Y := As0 aC; have GF := As0 (by rw [hg]; exact Qbi (BU HB.out) : w.heap.size ≤ gd); replace HO := As0 (Kd.R_mono (Kd.R_below (Kd.R_elderB (RU HO.out) gd (Nat.le_of_eq hg.symm)) hb) (fun _ hk => hk.2) : Kd.R k47 47 w5 w.heap.size (fun k_ => k_ ≠ gd) u7 (((l.take i).filter K2).map K1)); replace HB := sB HB hb; clear hb aC hg)
     | ((with_reducible refine Qcb (.store 47 (.tmp 10) (.tmp 22)) rfl ?_); go_loud (refine Qae rfl rfl 47 _ _ rfl gd #[.int .i64 (K1 p).f0, .int .i64 (K1 p).f1] rfl rfl 47 #[.int .i64 0, .int .i64 0] Y.out (by kernel_rfl) rfl (by kernel_rfl) ?_); intro w6 hg ho hB; replace HO := As0 (Kd.R_step (RU HO.out) (fun k hk _ => ho k hk)); replace Y := As0 hg; replace HB := As0 (hB _ _ GF.out HB.out); (obtain ⟨e0, e1, f0, f1⟩ := cN2 Y.out); clear hg ho hB))
    go_roundg (l.length - i)
    case measure => have := HI.out; omega
    case rel => exact ⟨i + 1, by rw [hw], ⟨by omega, by omega⟩, ⟨by rw [HT.out, List.filter_append, List.map_append, List.filter_cons_of_neg (by rw [hq]; decide), List.filter_nil, List.map_nil, List.append_nil]; exact Kd.R_mono (RU HO.out) (fun _ _ => trivial)⟩, ⟨BU HB.out⟩⟩
  ·have hi' : i = l.length := by have := HI.out.1; omega
   subst hi'
   have O1 := HO.out
   rw [List.take_length] at O1
   obtain ⟨A1, c1, e1, hc1, C1⟩ := Kd.R_reads O1
   replace HO := As0 O1
   replace C1 := As0 C1
   clear O1
   subst e1
   replace HV := As0 (Kd.R_below HV.out HB.out)
   have HLM : ((l.filter K2).map K1).length < 8796093022208 := by have := HL.out; have := List.length_filter_le K2 l; rw [List.length_map]; omega
   generalize ((l.filter K2).map K1) = mr at *
   obtain ⟨A0, c0, e0⟩ := Kd.R_slice HV.out
   subst e0
   go_wp2_with (first
    | (go_at_call 65; refine (Qem _ A1 c1 mr C1.out HS.out HLM).mono ?_; rintro e w8 ⟨v8, rfl, ho, hb⟩; replace HO := As0 (Kd.R_lower ho (Qbi (BU HB.out))); replace HV := As0 (Kd.R_below (RU HV.out) hb); replace HB := sB HB hb; (obtain ⟨A2, c2, e2⟩ := Kd.R_slice HO.out); subst e2; clear ho hb)
    | (go_at_call 204; refine (Qac.calls k (fun _ => True) A0 c0 kept (fun _ => True) A2 c2 mr r _ (Kd.V_mono (Kd.R_V HV.out) (fun _ _ => trivial)) (Kd.V_mono (Kd.R_V HO.out) (fun _ _ => trivial)) HU.out).mono ?_; rintro e w9 ⟨v9, rfl, ho, hb⟩; replace HO := As0 (Kd.R_lower ho (Qbi (BU HB.out))); replace HB := sB HB hb; clear ho hb))
   go_ret
   exact ⟨_, rfl, Kd.R_mono (RU HO.out) (fun _ _ => trivial), BU HB.out⟩
theorem copy_same (A : Option Addr) (c : Nat) (l : List S47) (d : Int) (w : World) (hr : Kd.C k47 w A l.length l) (hs : Asc l) (hl : l.length < 8796093022208) :
    Calls Tryz.prog 157 #[.slice A l.length c, .int .i64 d, .int .i64 d] w fun e w' => ∃ u, e = .returned u ∧ Kd.R k47 47 w' w.heap.size (fun _ => True) u l ∧ Below w.heap.size w w' := by
 have hu44 := Tryz.underlying44
 have hu47 := Tryz.underlying47
 have HR := As0 hr
 have HS := As0 hs
 clear hr hs
 have HB := As0 (Below.refl w.heap.size w)
 have hq : (d == d) = true := beq_self_eq_true d
 go_enter Tryz.func157, Tryz.ntmps157
 go_wp2_with (first
  | ((with_reducible refine gD 4 ?_); refine bX ?_; intro g1 hg w1 aC hb; have Xg1 := As0 aC; replace HB := sB HB hb; replace HR := As0 (Kd.C_below HR.out hb); have cg1 := (Qbh Xg1.out 0).trans rfl; clear hb aC hg)
  | ((with_reducible refine gD 5 ?_); refine bX ?_; intro g2 hg w2 aC hb; have Xg2 := As0 aC; replace HB := sB HB hb; replace HR := As0 (Kd.C_below HR.out hb); replace Xg1 := As0 (Qbg Xg1.out hb); clear cg1; have cg1 := (Qbh Xg1.out 0).trans rfl; have cg2 := (Qbh Xg2.out 0).trans rfl; clear hb aC hg)
  | (go_at_call 65; refine (Qem _ A c l HR.out HS.out hl).mono ?_; rintro e w3 ⟨u, rfl, ho, hb⟩; have HO := As0 (Kd.R_lower ho (Qbi (BU HB.out))); replace HB := sB HB hb; clear ho hb))
 go_ret
 exact ⟨_, rfl, RU HO.out, BU HB.out⟩
theorem copy_other (k : Nat) (A : Option Addr) (c : Nat) (l r : List S47) (d a : Int) (w : World) (hda : d ≠ a) (hr : Kd.C k47 w A l.length l) (hc : l.length ≤ c) (hl : l.length < 8796093022208)
    (hs : Asc ((l.filter fun p => p.f0 == a).map fun p => (⟨d, p.f1⟩ : S47))) (hu : Qac.f k (l.filter fun p => p.f0 != d) ((l.filter fun p => p.f0 == a).map fun p => (⟨d, p.f1⟩ : S47)) = some r) :
    Calls Tryz.prog 157 #[.slice A l.length c, .int .i64 d, .int .i64 a] w fun e w' => ∃ u, e = .returned u ∧ Kd.R k47 47 w' w.heap.size (fun _ => True) u r ∧ Below w.heap.size w w' := by
 have hu44 := Tryz.underlying44
 have hu47 := Tryz.underlying47
 have HR := As0 hr
 have HS := As0 hs
 have HU := As0 hu
 clear hr hs hu
 have HB := As0 (Below.refl w.heap.size w)
 have hq : (d == a) = false := beq_eq_false_iff_ne.mpr hda
 have hmf : ∀ (fn : Fn) (first cap : Array Value) (w : World), (Instr.makeFunc fn first cap).run Tryz.prog w = .ok (.func fn first cap) w := fun _ _ _ _ => rfl
 go_enter Tryz.func157, Tryz.ntmps157
 go_wp2_with (first
  | ((with_reducible refine gD 4 ?_); refine bX ?_; intro g1 hg w1 aC hb; have Xg1 := As0 aC; replace HB := sB HB hb; replace HR := As0 (Kd.C_below HR.out hb); have cg1 := (Qbh Xg1.out 0).trans rfl; clear hb aC hg)
  | ((with_reducible refine gD 5 ?_); refine bX ?_; intro g2 hg w2 aC hb; have Xg2 := As0 aC; replace HB := sB HB hb; replace HR := As0 (Kd.C_below HR.out hb); replace Xg1 := As0 (Qbg Xg1.out hb); clear cg1; have cg1 := (Qbh Xg1.out 0).trans rfl; have cg2 := (Qbh Xg2.out 0).trans rfl; clear hb aC hg)
  | (go_at_call 185; refine (dropV_calls A c l d _ HR.out hc hl).mono ?_; rintro e w3 ⟨u, rfl, ho, hb⟩; have HO := As0 ho; replace HR := As0 (Kd.C_below HR.out hb); replace Xg1 := As0 (Qbg Xg1.out hb); replace Xg2 := As0 (Qbg Xg2.out hb); replace HB := sB HB hb; clear ho hb cg1 cg2; have cg1 := (Qbh Xg1.out 0).trans rfl; have cg2 := (Qbh Xg2.out 0).trans rfl)
  | (go_at_call 184; refine (rename_calls k (fun p => (⟨d, p.f1⟩ : S47)) (fun p => p.f0 == a) 186 #[.pointer (some ⟨g1, 0, none⟩), .pointer (some ⟨g2, 0, none⟩)] u _ _ _ A c l r _ HO.out HR.out hc hl (enters_of Tryz.func186 (by kernel_rfl) rfl) (fun W hW p => copy1 d a p.f0 p.f1 g1 g2 W (Qbg Xg1.out hW) (Qbg Xg2.out hW)) HS.out HU.out).mono ?_; rintro e w4 ⟨u2, rfl, ho, hb⟩; replace HO := As0 (Kd.R_lower ho (Qbi (BU HB.out))); replace HB := sB HB hb; clear ho hb))
 go_ret
 exact ⟨_, rfl, RU HO.out, BU HB.out⟩
theorem move_same (A : Option Addr) (c : Nat) (l : List S47) (d : Int) (w : World) (hr : Kd.C k47 w A l.length l) (hs : Asc l) (hl : l.length < 8796093022208) :
    Calls Tryz.prog 158 #[.slice A l.length c, .int .i64 d, .int .i64 d] w fun e w' => ∃ u, e = .returned u ∧ Kd.R k47 47 w' w.heap.size (fun _ => True) u l ∧ Below w.heap.size w w' := by
 have hu44 := Tryz.underlying44
 have hu47 := Tryz.underlying47
 have HR := As0 hr
 have HS := As0 hs
 clear hr hs
 have HB := As0 (Below.refl w.heap.size w)
 have hq : (d == d) = true := beq_self_eq_true d
 go_enter Tryz.func158, Tryz.ntmps158
 go_wp2_with (first
  | ((with_reducible refine gD 4 ?_); refine bX ?_; intro g1 hg w1 aC hb; have Xg1 := As0 aC; replace HB := sB HB hb; replace HR := As0 (Kd.C_below HR.out hb); have cg1 := (Qbh Xg1.out 0).trans rfl; clear hb aC hg)
  | ((with_reducible refine gD 5 ?_); refine bX ?_; intro g2 hg w2 aC hb; have Xg2 := As0 aC; replace HB := sB HB hb; replace HR := As0 (Kd.C_below HR.out hb); replace Xg1 := As0 (Qbg Xg1.out hb); clear cg1; have cg1 := (Qbh Xg1.out 0).trans rfl; have cg2 := (Qbh Xg2.out 0).trans rfl; clear hb aC hg)
  | (go_at_call 65; refine (Qem _ A c l HR.out HS.out hl).mono ?_; rintro e w3 ⟨u, rfl, ho, hb⟩; have HO := As0 (Kd.R_lower ho (Qbi (BU HB.out))); replace HB := sB HB hb; clear ho hb))
 go_ret
 exact ⟨_, rfl, RU HO.out, BU HB.out⟩
theorem move_other (k : Nat) (A : Option Addr) (c : Nat) (l r : List S47) (d a : Int) (w : World) (hda : d ≠ a) (hr : Kd.C k47 w A l.length l) (hc : l.length ≤ c) (hl : l.length < 8796093022208)
    (hs : Asc ((l.filter fun p => p.f1 == a).map fun p => (⟨p.f0, d⟩ : S47))) (hu : Qac.f k (l.filter fun p => p.f1 != d) ((l.filter fun p => p.f1 == a).map fun p => (⟨p.f0, d⟩ : S47)) = some r) :
    Calls Tryz.prog 158 #[.slice A l.length c, .int .i64 d, .int .i64 a] w fun e w' => ∃ u, e = .returned u ∧ Kd.R k47 47 w' w.heap.size (fun _ => True) u r ∧ Below w.heap.size w w' := by
 have hu44 := Tryz.underlying44
 have hu47 := Tryz.underlying47
 have HR := As0 hr
 have HS := As0 hs
 have HU := As0 hu
 clear hr hs hu
 have HB := As0 (Below.refl w.heap.size w)
 have hq : (d == a) = false := beq_eq_false_iff_ne.mpr hda
 have hmf : ∀ (fn : Fn) (first cap : Array Value) (w : World), (Instr.makeFunc fn first cap).run Tryz.prog w = .ok (.func fn first cap) w := fun _ _ _ _ => rfl
 go_enter Tryz.func158, Tryz.ntmps158
 go_wp2_with (first
  | ((with_reducible refine gD 4 ?_); refine bX ?_; intro g1 hg w1 aC hb; have Xg1 := As0 aC; replace HB := sB HB hb; replace HR := As0 (Kd.C_below HR.out hb); have cg1 := (Qbh Xg1.out 0).trans rfl; clear hb aC hg)
  | ((with_reducible refine gD 5 ?_); refine bX ?_; intro g2 hg w2 aC hb; have Xg2 := As0 aC; replace HB := sB HB hb; replace HR := As0 (Kd.C_below HR.out hb); replace Xg1 := As0 (Qbg Xg1.out hb); clear cg1; have cg1 := (Qbh Xg1.out 0).trans rfl; have cg2 := (Qbh Xg2.out 0).trans rfl; clear hb aC hg)
  | (go_at_call 187; refine (dropL_calls A c l d _ HR.out hc hl).mono ?_; rintro e w3 ⟨u, rfl, ho, hb⟩; have HO := As0 ho; replace HR := As0 (Kd.C_below HR.out hb); replace Xg1 := As0 (Qbg Xg1.out hb); replace Xg2 := As0 (Qbg Xg2.out hb); replace HB := sB HB hb; clear ho hb cg1 cg2; have cg1 := (Qbh Xg1.out 0).trans rfl; have cg2 := (Qbh Xg2.out 0).trans rfl)
  | (go_at_call 184; refine (rename_calls k (fun p => (⟨p.f0, d⟩ : S47)) (fun p => p.f1 == a) 188 #[.pointer (some ⟨g1, 0, none⟩), .pointer (some ⟨g2, 0, none⟩)] u _ _ _ A c l r _ HO.out HR.out hc hl (enters_of Tryz.func188 (by kernel_rfl) rfl) (fun W hW p => move1 d a p.f0 p.f1 g1 g2 W (Qbg Xg1.out hW) (Qbg Xg2.out hW)) HS.out HU.out).mono ?_; rintro e w4 ⟨u2, rfl, ho, hb⟩; replace HO := As0 (Kd.R_lower ho (Qbi (BU HB.out))); replace HB := sB HB hb; clear ho hb))
 go_ret
 exact ⟨_, rfl, RU HO.out, BU HB.out⟩
theorem define_aux (k : Nat) (A : Option Addr) (c : Nat) (l l1 l2 r : List S47) (d a : Int) (w : World) (hr : Kd.C k47 w A l.length l) (hc : l.length ≤ c) (hl : l.length < 8796093022208)
    (e1 : (l.filter fun p => p.f0 != d) = l1) (e2 : (l1.filter fun p => p.f1 != a) = l2) (hl1 : l1.length < 8796093022208) (hu : Qak.f k l2 d a = some r) :
    Calls Tryz.prog 189 #[.slice A l.length c, .int .i64 d, .int .i64 a] w fun e w' => ∃ u, e = .returned u ∧ Kd.R k47 47 w' w.heap.size (fun _ => True) u r ∧ Below w.heap.size w w' := by
 have hu44 := Tryz.underlying44
 have hu47 := Tryz.underlying47
 have HB := As0 (Below.refl w.heap.size w)
 have H1 := As0 (dropV_calls A c l d w hr hc hl)
 rw [e1] at H1
 have H2 := As0 (fun (A1 : Option Addr) (c1 : Nat) (W : World) (h1 : Kd.C k47 W A1 l1.length l1) (h2 : l1.length ≤ c1) => dropL_calls A1 c1 l1 a W h1 h2 hl1)
 rw [e2] at H2
 have HU := As0 hu
 clear hr hu e1 e2 hc hl hl1
 go_enter Tryz.func189, Tryz.ntmps189
 go_wp2_with (first
  | (go_at_call 185; refine H1.out.mono ?_; rintro e w3 ⟨u, rfl, ho, hb⟩; (obtain ⟨A1, c1, e1, hc1, C1⟩ := Kd.R_reads ho); subst e1; replace C1 := As0 C1; replace HB := sB HB hb; clear ho hb)
  | (go_at_call 187; refine (H2.out A1 c1 _ C1.out hc1).mono ?_; rintro e w4 ⟨u, rfl, ho, hb⟩; (obtain ⟨A2, c2, e2, hc2, C2⟩ := Kd.R_reads ho); subst e2; replace C2 := As0 C2; replace HB := sB HB hb; clear ho hb)
  | (go_at_call 208; refine (Qak.calls k A2 c2 l2 d a r _ C2.out hc2 HU.out).mono ?_; rintro e w5 ⟨u, rfl, ho, hb⟩; have HO := As0 (Kd.R_lower ho (Qbi (BU HB.out))); replace HB := sB HB hb; clear ho hb))
 go_ret
 exact ⟨_, rfl, RU HO.out, BU HB.out⟩
theorem define_calls (k : Nat) (A : Option Addr) (c : Nat) (l r : List S47) (d a : Int) (w : World) (hr : Kd.C k47 w A l.length l) (hc : l.length ≤ c) (hl : l.length < 8796093022208)
    (hu : Qak.f k ((l.filter fun p => p.f0 != d).filter fun p => p.f1 != a) d a = some r) :
    Calls Tryz.prog 189 #[.slice A l.length c, .int .i64 d, .int .i64 a] w fun e w' => ∃ u, e = .returned u ∧ Kd.R k47 47 w' w.heap.size (fun _ => True) u r ∧ Below w.heap.size w w' :=
 define_aux k A c l _ _ r d a w hr hc hl rfl rfl (Nat.lt_of_le_of_lt (List.length_filter_le _ _) hl) hu
end Go.Proofs.YtchpkjgibloleaaGreat.Z
