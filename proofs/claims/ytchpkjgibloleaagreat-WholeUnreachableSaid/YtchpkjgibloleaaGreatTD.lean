/- TD -/
import Derived.Test.YtchpkjgibloleaaGreatTA
import Derived.Test.YtchpkjgibloleaaGreatTB
import Derived.Test.YtchpkjgibloleaaGreatTC
import Derived.Shelf.Abstract
import Derived.WalkMore
import Derived.Deep.LoopGhost
import Derived.Orders
import Derived.Laws.CopyOwn
import Derived.Calls
import Derived.LoopN
import Derived.Scope
import Derived.Recover
import Derived.Below
import Derived.Laws.AppendOwn
import Derived.Maps.AppendAt
import Derived.Laws.MakeOwn
import Derived.Laws.Cells
import Derived.Laws.Tables
import Derived.Handy
import Derived.WalkKit
import Derived.KernelRfl
namespace Go.Proofs.YtchpkjgibloleaaGreat.Z
set_option maxRecDepth 100000
set_option maxHeartbeats 8000000
open Go.RowKit Go.Proofs.YtchpkjgibloleaaGreatW.PrintWords Go.Proofs.YtchpkjgibloleaaGreatW.PrintLast Go.Proofs.YtchpkjgibloleaaGreatW.PrintMore
attribute [local go_sem] Qb2 Qb9
set_option linter.unusedVariables false
set_option linter.unusedSimpArgs false
mutual
def Qa0.j0 : Nat → Bool → Int → Int → List (S39) → Option (Int)
 | 0, _, _, _, _ => none
 | k + 1, x6, x162000, x162001, x162002 => if x6 = true then (some 9) else (if x162001 > 1048576 then (some 6) else (if (x162002.length : Int) = 0 then (some 14) else (if (x162002.length : Int) > 1048576 then (Qa0.j1 k true x162000 x162001 x162002) else ((source_Code.f k x162000 x162001 x162002).bind fun t162 => (Qa0.j1 k (decide (t162 > 1048576)) x162000 x162001 x162002)))))
def Qa0.j1 : Nat → Bool → Int → Int → List (S39) → Option (Int)
 | 0, _, _, _, _ => none
 | k + 1, x26, x162000, x162001, x162002 => if x26 = true then (some 6) else (Qa0.l0 k x162002 (x162002.length : Int) 0 x162000 x162001 x162002)
def Qa0.l0 : Nat → List (S39) → Int → Int → Int → Int → List (S39) → Option (Int)
 | 0, _, _, _, _, _, _ => none
 | k + 1, x37, x38, x39, x162000, x162001, x162002 => if x39 < x38 then (if 0 ≤ x39 then (if x39 < (x37.length : Int) then ((source_block.f k ((Qap x37 x39).f0) ((Qap x37 x39).f1.f0) ((Qap x37 x39).f1.f1) ((Qap x37 x39).f1.f2) ((Qap x37 x39).f1.f3) x162001 (x162002.length : Int)).bind fun t165 => (if t165 = 0 then (Qa0.l0 k x37 x38 (wrap64 (x39 + 1)) x162000 x162001 x162002) else (some t165))) else (none)) else (none)) else (some 0)
end
def Qa0.f (k : Nat) (a0_0 : Int) (a0_1 : Int) (l0_2 : List (S39)) : Option (Int) := if a0_0 < 0 then (Qa0.j0 k true a0_0 a0_1 l0_2) else (Qa0.j0 k (decide (a0_0 > a0_1)) a0_0 a0_1 l0_2)
theorem Qa0.calls (k : Nat) (a0_0 : Int) (a0_1 : Int) (A0_2 : Option Addr) (c0_2 : Nat) (l0_2 : List (S39)) (r : Int) (w : World) (hr0_2 : Kd.C k39 w A0_2 l0_2.length l0_2) (hc0_2 : l0_2.length ≤ c0_2) (h : Qa0.f k a0_0 a0_1 l0_2 = some r) :
  Calls Tryz.prog 59 #[.agg #[.int .i64 a0_0, .int .i64 a0_1, .slice A0_2 l0_2.length c0_2]] w fun e w' => e = .returned (.int .i64 r) ∧ Below w.heap.size w w' := by
 have hu24 := Tryz.underlying24
 have hu39 := Tryz.underlying39
 have HR0_2 := As0 hr0_2
 have HC0_2 := As0 hc0_2
 clear hr0_2 hc0_2
 have HB := As0 (Below.refl w.heap.size w)
 have H : (if a0_0 < 0 then (Qa0.j0 k true a0_0 a0_1 l0_2) else (Qa0.j0 k (decide (a0_0 > a0_1)) a0_0 a0_1 l0_2)) = some r := h
 clear h
 have HC2 := As0 H
 clear H
 go_enter Tryz.func59, Tryz.ntmps59
 go_upto_region 1 with (first | ((with_reducible refine Qbn (N := 1) rfl ?_); refine bX (N := 1) (cs := #[.int .i64 a0_0, .int .i64 a0_1, .slice A0_2 l0_2.length c0_2]) (t := 24) ?_; intro gb161 hg w3 hbox hb; have BK161 := As0 (hbox); have GW161 := gW hg HB.out; have GE161 := GW161; replace HB := As0 (Qbj (BU HB.out) hb); clear hb hbox hg))
 (try simp only [Act.put, sL1, sL2, sL3])
 go_cut [6] (fun v6 wc => ∃ (kq : Nat) (x6_1 : Bool), v6 = .bool x6_1 ∧ Qbm (Qa0.j0 kq x6_1 a0_0 a0_1 l0_2 = some r) ∧ Qbm (kq ≤ k) ∧ Qbm (wc.heap[gb161]? = some (.cells #[.int .i64 a0_0, .int .i64 a0_1, (.slice A0_2 l0_2.length c0_2)] 24 (0, 0))) ∧ Qbm (Below w.heap.size w wc))
 case first =>
  have H := HC2.out
  clear HC2
  by_cases c4 : a0_0 < 0
  rotate_left
  ·rw [if_neg c4] at H
   have c4b0 := decide_eq_false c4
   clear c4
   (first | rw [c4b0] | (simp only [Qbw, Qbx]; rw [c4b0]) | skip)
   have H' := As0 H
   clear H
   obtain ⟨z6_0, z6_1, z6_2, y_6_0, y_6_1, y_6_2⟩ := cN3 BK161.out
   go_wp2
   go_meet
   case rel => exact ⟨_, (decide (a0_0 > a0_1)), eR, H', ⟨by first | omega | exact Nat.le_refl _⟩, ⟨bU BK161.out⟩, ⟨BU HB.out⟩⟩
  rw [if_pos c4] at H
  have c4b0 := decide_eq_true c4
  clear c4
  (first | rw [c4b0] | (simp only [Qbw, Qbx]; rw [c4b0]) | skip)
  have H' := As0 H
  clear H
  obtain ⟨z5_0, z5_1, z5_2, y_5_0, y_5_1, y_5_2⟩ := cN3 BK161.out
  go_wp2
  go_meet
  case rel => exact ⟨_, (true), eR, H', ⟨by first | omega | exact Nat.le_refl _⟩, ⟨bU BK161.out⟩, ⟨BU HB.out⟩⟩
 case rest =>
  clear HC2
  obtain ⟨kq, x6_1, rfl, HA, HJ1, BK161, HB⟩ := hcut
  cases kq with
  | zero => exact absurd HA.out (by simp [Qa0.j0])
  | succ kj1 =>
   have H := HA.out
   clear HA
   simp only [Qa0.j0] at H
   by_cases c7 : x6_1 = true
   ·subst c7
    rw [if_pos rfl] at H
    obtain rfl := Option.some.inj H
    go_wp2
    go_ret
    exact ⟨oR, BU HB.out⟩
   replace c7 := Bool.eq_false_iff.mpr c7
   subst c7
   rw [if_neg bF] at H
   by_cases c8 : a0_1 > 1048576
   ·rw [if_pos c8] at H
    have c8b0 := decide_eq_true c8
    clear c8
    obtain rfl := Option.some.inj H
    obtain ⟨z9_0, z9_1, z9_2, y_9_0, y_9_1, y_9_2⟩ := cN3 BK161.out
    go_wp2
    go_ret
    exact ⟨oR, BU HB.out⟩
   rw [if_neg c8] at H
   have c8b0 := decide_eq_false c8
   clear c8
   by_cases c10 : (l0_2.length : Int) = 0
   ·rw [if_pos c10] at H
    have c10b0 : ((l0_2.length : Int) == 0) = true := beq_iff_eq.mpr c10
    have c10b1 : ((l0_2.length : Int) != 0) = false := bne_eq_false_iff_eq.mpr c10
    clear c10
    obtain rfl := Option.some.inj H
    obtain ⟨z11_0, z11_1, z11_2, y_11_0, y_11_1, y_11_2⟩ := cN3 BK161.out
    go_wp2
    go_ret
    exact ⟨oR, BU HB.out⟩
   rw [if_neg c10] at H
   have c10b0 : ((l0_2.length : Int) == 0) = false := beq_eq_false_iff_ne.mpr c10
   have c10b1 : ((l0_2.length : Int) != 0) = true := bne_iff_ne.mpr c10
   have c10b2 : ¬ (l0_2 = []) := fun h_ => c10 (by rw [h_]; rfl)
   have HC12 := As0 H
   clear H
   obtain ⟨z13_0, z13_1, z13_2, y_13_0, y_13_1, y_13_2⟩ := cN3 BK161.out
   go_upto_region 7 with (fail)
   go_cut [26] (fun v26 wc => ∃ (kq : Nat) (x26_11 : Bool), v26 = .bool x26_11 ∧ Qbm (Qa0.j1 kq x26_11 a0_0 a0_1 l0_2 = some r) ∧ Qbm (kq ≤ kj1) ∧ Qbm (wc.heap[gb161]? = some (.cells #[.int .i64 a0_0, .int .i64 a0_1, (.slice A0_2 l0_2.length c0_2)] 24 (0, 0))) ∧ Qbm (Below w.heap.size w wc))
   case first =>
    have H := HC12.out
    clear HC12
    by_cases c14 : (l0_2.length : Int) > 1048576
    ·rw [if_pos c14] at H
     have c14b0 := decide_eq_true c14
     have c14b1 : decide (1048576 < l0_2.length) = true := decide_eq_true (by omega)
     clear c14
     (first | rw [c14b0] | (simp only [Qbw, Qbx]; rw [c14b0]) | skip)
     have H' := As0 H
     clear H
     obtain ⟨z15_0, z15_1, z15_2, y_15_0, y_15_1, y_15_2⟩ := cN3 BK161.out
     go_wp2
     go_meet
     case rel => exact ⟨_, (true), eR, H', ⟨by have := HJ1.out; first | omega | exact Nat.le_refl _⟩, ⟨bU BK161.out⟩, ⟨BU HB.out⟩⟩
    rw [if_neg c14] at H
    have c14b0 := decide_eq_false c14
    have c14b1 : decide (1048576 < l0_2.length) = false := decide_eq_false (by omega)
    clear c14
    (first | rw [c14b0] | (simp only [Qbw, Qbx]; rw [c14b0]) | skip)
    replace H := Option.bind_eq_some_iff.mp H
    obtain ⟨t162, A160, H⟩ := H
    have A16 := As0 A160
    clear A160
    have H' := As0 H
    clear H
    obtain ⟨z17_0, z17_1, z17_2, y_17_0, y_17_1, y_17_2⟩ := cN3 BK161.out
    go_wp2_with (first | (go_at_call 103; (with_reducible refine (source_Code.calls kj1 a0_0 a0_1 _ _ l0_2 t162 _ ?side1 ?side2 A16.out).mono ?_); (case side1 => exact CU (Kd.C_below HR0_2.out HB.out)); (case side2 => exact HC0_2.out); rintro e w18 ⟨rfl, hb⟩; replace BK161 := kB BK161 hb; replace HB := As0 (Qbj (BU HB.out) hb); (try clear hb)))
    go_meet
    case rel => exact ⟨_, (decide (t162 > 1048576)), eR, H', ⟨by have := HJ1.out; first | omega | exact Nat.le_refl _⟩, ⟨bU BK161.out⟩, ⟨BU HB.out⟩⟩
   case rest =>
    clear HC12
    obtain ⟨kq, x26_11, rfl, HA, HJ11, BK161, HB⟩ := hcut
    cases kq with
    | zero => exact absurd HA.out (by simp [Qa0.j1])
    | succ kj11 =>
     have H := HA.out
     clear HA
     simp only [Qa0.j1] at H
     by_cases c19 : x26_11 = true
     ·subst c19
      rw [if_pos rfl] at H
      obtain rfl := Option.some.inj H
      go_wp2
      go_ret
      exact ⟨oR, BU HB.out⟩
     replace c19 := Bool.eq_false_iff.mpr c19
     subst c19
     rw [if_neg bF] at H
     have H' := As0 H
     clear H
     obtain ⟨z20_0, z20_1, z20_2, y_20_0, y_20_1, y_20_2⟩ := cN3 BK161.out
     go_wp2
     go_loopg [39] kj11 (fun kq v39 w' => ∃ (x39_3 : Int), v39 = .int .i64 x39_3 ∧ Qbm (Qa0.l0 kq l0_2 (l0_2.length : Int) x39_3 a0_0 a0_1 l0_2 = some r) ∧ Qbm (kq ≤ kj11) ∧ Qbm (w'.heap[gb161]? = some (.cells #[.int .i64 a0_0, .int .i64 a0_1, (.slice A0_2 l0_2.length c0_2)] 24 (0, 0))) ∧ Qbm (Below w.heap.size w w'))
     case atStart => exact ⟨(0), eR, H', ⟨Nat.le_refl _⟩, ⟨bU BK161.out⟩, ⟨BU HB.out⟩⟩
     case round =>
      clear H'
      obtain ⟨x39_3, rfl, HA, HK3, BK161, HB⟩ := hrel
      cases gk with
      | zero => exact absurd HA.out (by simp [Qa0.l0])
      | succ k3 =>
       have H := HA.out
       clear HA
       simp only [Qa0.l0] at H
       by_cases c21 : x39_3 < (l0_2.length : Int)
       rotate_left
       ·rw [if_neg c21] at H
        have c21b0 := decide_eq_false c21
        clear c21
        obtain rfl := Option.some.inj H
        go_wp2
        go_ret
        exact ⟨oR, BU HB.out⟩
       rw [if_pos c21] at H
       have c21b0 := decide_eq_true c21
       clear c21
       by_cases c22 : 0 ≤ x39_3
       rotate_left
       ·rw [if_neg c22] at H
        exact absurd H (by simp)
       rw [if_pos c22] at H
       have c22b0 := decide_eq_true c22
       clear c22
       by_cases c23 : x39_3 < (l0_2.length : Int)
       rotate_left
       ·rw [if_neg c23] at H
        exact absurd H (by simp)
       rw [if_pos c23] at H
       have c23b0 := decide_eq_true c23
       clear c23
       replace H := Option.bind_eq_some_iff.mp H
       obtain ⟨t165, A240, H⟩ := H
       have A24 := As0 A240
       clear A240
       by_cases c25 : t165 = 0
       rotate_left
       ·rw [if_neg c25] at H
        have c25b0 : (t165 == 0) = false := beq_eq_false_iff_ne.mpr c25
        have c25b1 : (t165 != 0) = true := bne_iff_ne.mpr c25
        obtain rfl := Option.some.inj H
        have p163 : 0 ≤ (x39_3 : Int) := qR
        have q163 : x39_3 < (l0_2.length : Int) := qR
        obtain ⟨ad163, A163_0, c163_0, e163, hx163_0, hx163_1, hx163_2, hx163_3, hx163_4, hl163_0, hi163_0⟩ := at_T39 HR0_2.out x39_3 p163 q163
        cases e163
        replace hx163_0 := cl HB hx163_0
        replace hx163_1 := cl HB hx163_1
        replace hx163_2 := cl HB hx163_2
        replace hx163_3 := cl HB hx163_3
        replace hx163_4 := cl HB hx163_4
        have HR163_0 := As0 hi163_0
        have HC163_0 := As0 hl163_0
        clear hi163_0 hl163_0
        replace p163 := eq_true p163
        replace q163 := eq_true q163
        go_wp2_with (first | ((with_reducible refine Qbn (N := 4) rfl ?_); refine bX (N := 4) (cs := #[.slice none 0 0, .int .i64 0, .int .i64 0, .int .i64 0, .int .i64 0]) (t := 39) ?_; intro gb164 hg w31 hbox hb; have BK164 := As0 (hbox); have GW164 := gW hg HB.out; have GE164 := GW164; replace HB := As0 (Qbj (BU HB.out) hb); have NB161_164 := nL hg BK161; have NB164_161 := nR hg BK161; replace BK161 := kB BK161 hb; clear hb hbox hg; have hnb32 := NB164_161.out; have hnc32 := NB161_164.out; obtain ⟨z33_0, z33_1, z33_2, z33_3, z33_4, y_33_0, y_33_1, y_33_2, y_33_3, y_33_4⟩ := cN5 BK164.out; obtain ⟨z34_0, z34_1, z34_2, y_34_0, y_34_1, y_34_2⟩ := cN3 BK161.out) | ((with_reducible refine Qbq (f := 104) rfl ?_); refine gL (some 49) Tryz.func104 #[.agg #[.slice A163_0 ((Qap l0_2 x39_3).f0).length c163_0, .int .i64 ((Qap l0_2 x39_3).f1.f0), .int .i64 ((Qap l0_2 x39_3).f1.f1), .int .i64 ((Qap l0_2 x39_3).f1.f2), .int .i64 ((Qap l0_2 x39_3).f1.f3)], .int .i64 a0_1, .int .i64 (l0_2.length : Int)] ?_; (with_reducible refine (source_block.calls k3 _ _ ((Qap l0_2 x39_3).f0) ((Qap l0_2 x39_3).f1.f0) ((Qap l0_2 x39_3).f1.f1) ((Qap l0_2 x39_3).f1.f2) ((Qap l0_2 x39_3).f1.f3) a0_1 (l0_2.length : Int) t165 _ ?side1 ?side2 A24.out).mono ?_); (case side1 => exact Kd.C_below HR163_0.out (BU HB.out)); (case side2 => exact HC163_0.out); rintro e w35 ⟨rfl, hb⟩; refine ⟨_, rfl, ?_⟩; replace BK161 := kF BK161 hb; replace BK164 := kP (.cells #[.slice A163_0 ((Qap l0_2 x39_3).f0).length c163_0, .int .i64 ((Qap l0_2 x39_3).f1.f0), .int .i64 ((Qap l0_2 x39_3).f1.f1), .int .i64 ((Qap l0_2 x39_3).f1.f2), .int .i64 ((Qap l0_2 x39_3).f1.f3)] 39 (0, 0)) BK164 hb; replace HB := As0 (Qbj (BU HB.out) hb); (try clear hb)))
        go_ret
        exact ⟨oR, BU HB.out⟩
       rw [if_pos c25] at H
       have c25b0 : (t165 == 0) = true := beq_iff_eq.mpr c25
       have c25b1 : (t165 != 0) = false := bne_eq_false_iff_eq.mpr c25
       clear c25
       have H' := As0 H
       clear H
       have p163 : 0 ≤ (x39_3 : Int) := qR
       have q163 : x39_3 < (l0_2.length : Int) := qR
       obtain ⟨ad163, A163_0, c163_0, e163, hx163_0, hx163_1, hx163_2, hx163_3, hx163_4, hl163_0, hi163_0⟩ := at_T39 HR0_2.out x39_3 p163 q163
       cases e163
       replace hx163_0 := cl HB hx163_0
       replace hx163_1 := cl HB hx163_1
       replace hx163_2 := cl HB hx163_2
       replace hx163_3 := cl HB hx163_3
       replace hx163_4 := cl HB hx163_4
       have HR163_0 := As0 hi163_0
       have HC163_0 := As0 hl163_0
       clear hi163_0 hl163_0
       replace p163 := eq_true p163
       replace q163 := eq_true q163
       go_wp2_with (first | ((with_reducible refine Qbn (N := 4) rfl ?_); refine bX (N := 4) (cs := #[.slice none 0 0, .int .i64 0, .int .i64 0, .int .i64 0, .int .i64 0]) (t := 39) ?_; intro gb164 hg w26 hbox hb; have BK164 := As0 (hbox); have GW164 := gW hg HB.out; have GE164 := GW164; replace HB := As0 (Qbj (BU HB.out) hb); have NB161_164 := nL hg BK161; have NB164_161 := nR hg BK161; replace BK161 := kB BK161 hb; clear hb hbox hg; have hnb27 := NB164_161.out; have hnc27 := NB161_164.out; obtain ⟨z28_0, z28_1, z28_2, z28_3, z28_4, y_28_0, y_28_1, y_28_2, y_28_3, y_28_4⟩ := cN5 BK164.out; obtain ⟨z29_0, z29_1, z29_2, y_29_0, y_29_1, y_29_2⟩ := cN3 BK161.out) | ((with_reducible refine Qbq (f := 104) rfl ?_); refine gL (some 49) Tryz.func104 #[.agg #[.slice A163_0 ((Qap l0_2 x39_3).f0).length c163_0, .int .i64 ((Qap l0_2 x39_3).f1.f0), .int .i64 ((Qap l0_2 x39_3).f1.f1), .int .i64 ((Qap l0_2 x39_3).f1.f2), .int .i64 ((Qap l0_2 x39_3).f1.f3)], .int .i64 a0_1, .int .i64 (l0_2.length : Int)] ?_; (with_reducible refine (source_block.calls k3 _ _ ((Qap l0_2 x39_3).f0) ((Qap l0_2 x39_3).f1.f0) ((Qap l0_2 x39_3).f1.f1) ((Qap l0_2 x39_3).f1.f2) ((Qap l0_2 x39_3).f1.f3) a0_1 (l0_2.length : Int) t165 _ ?side1 ?side2 A24.out).mono ?_); (case side1 => exact Kd.C_below HR163_0.out (BU HB.out)); (case side2 => exact HC163_0.out); rintro e w30 ⟨rfl, hb⟩; refine ⟨_, rfl, ?_⟩; replace BK161 := kF BK161 hb; replace BK164 := kP (.cells #[.slice A163_0 ((Qap l0_2 x39_3).f0).length c163_0, .int .i64 ((Qap l0_2 x39_3).f1.f0), .int .i64 ((Qap l0_2 x39_3).f1.f1), .int .i64 ((Qap l0_2 x39_3).f1.f2), .int .i64 ((Qap l0_2 x39_3).f1.f3)] 39 (0, 0)) BK164 hb; replace HB := As0 (Qbj (BU HB.out) hb); (try clear hb)))
       go_roundg k3
       case measure => have := HJ1.out; have := HJ11.out; have := HK3.out; omega
       case rel => exact ⟨(wrap64 (x39_3 + 1)), eR, H', ⟨by have := HJ1.out; have := HJ11.out; have := HK3.out; omega⟩, ⟨bU BK161.out⟩, ⟨BU HB.out⟩⟩
def machine_Code.l0 : Nat → Int → List (S57) → Int → Int → Option (Int)
 | 0, _, _, _, _ => none
 | k + 1, x3, x7, x8, x9 => if x9 < x8 then (if 0 ≤ x9 then (if x9 < (x7.length : Int) then (machine_Code.l0 k (wrap64 (x3 + (((Qam x7 x9).f0).length : Int))) x7 x8 (wrap64 (x9 + 1))) else (none)) else (none)) else (some x3)
def machine_Code.f (k : Nat) (a0_0 : Int) (a0_1 : Int) (a0_2 : Int) (l0_3 : List (S57)) : Option (Int) := machine_Code.l0 k 0 l0_3 (l0_3.length : Int) 0
theorem machine_Code.calls (k : Nat) (a0_0 : Int) (a0_1 : Int) (a0_2 : Int) (A0_3 : Option Addr) (c0_3 : Nat) (l0_3 : List (S57)) (r : Int) (w : World) (hr0_3 : Kd.C k57 w A0_3 l0_3.length l0_3) (hc0_3 : l0_3.length ≤ c0_3) (h : machine_Code.f k a0_0 a0_1 a0_2 l0_3 = some r) :
  Calls Tryz.prog 105 #[.agg #[.int .i64 a0_0, .int .i64 a0_1, .int .i64 a0_2, .slice A0_3 l0_3.length c0_3]] w fun e w' => e = .returned (.int .i64 r) ∧ Below w.heap.size w w' := by
 have hu27 := Tryz.underlying27
 have hu57 := Tryz.underlying57
 have HR0_3 := As0 hr0_3
 have HC0_3 := As0 hc0_3
 clear hr0_3 hc0_3
 have HB := As0 (Below.refl w.heap.size w)
 have H : (machine_Code.l0 k 0 l0_3 (l0_3.length : Int) 0) = some r := h
 clear h
 have H' := As0 H
 clear H
 go_enter Tryz.func105, Tryz.ntmps105
 go_wp2_with (first | ((with_reducible refine Qbn (N := 1) rfl ?_); refine bX (N := 1) (cs := #[.int .i64 a0_0, .int .i64 a0_1, .int .i64 a0_2, .slice A0_3 l0_3.length c0_3]) (t := 27) ?_; intro gb166 hg w2 hbox hb; have BK166 := As0 (hbox); have GW166 := gW hg HB.out; have GE166 := GW166; replace HB := As0 (Qbj (BU HB.out) hb); clear hb hbox hg; obtain ⟨z3_0, z3_1, z3_2, z3_3, y_3_0, y_3_1, y_3_2, y_3_3⟩ := cN4 BK166.out))
 go_loopg [3, 9] k (fun kq v3 v9 w' => ∃ (x3_1 : Int) (x9_1 : Int), v3 = .int .i64 x3_1 ∧ v9 = .int .i64 x9_1 ∧ Qbm (machine_Code.l0 kq x3_1 l0_3 (l0_3.length : Int) x9_1 = some r) ∧ Qbm (kq ≤ k) ∧ Qbm (w'.heap[gb166]? = some (.cells #[.int .i64 a0_0, .int .i64 a0_1, .int .i64 a0_2, (.slice A0_3 l0_3.length c0_3)] 27 (0, 0))) ∧ Qbm (Below w.heap.size w w'))
 case atStart => exact ⟨(0), (0), eR, eR, H', ⟨Nat.le_refl _⟩, ⟨bU BK166.out⟩, ⟨BU HB.out⟩⟩
 case round =>
  clear H'
  obtain ⟨x3_1, x9_1, rfl, rfl, HA, HK1, BK166, HB⟩ := hrel
  cases gk with
  | zero => exact absurd HA.out (by simp [machine_Code.l0])
  | succ k1 =>
   have H := HA.out
   clear HA
   simp only [machine_Code.l0] at H
   by_cases c4 : x9_1 < (l0_3.length : Int)
   rotate_left
   ·rw [if_neg c4] at H
    have c4b0 := decide_eq_false c4
    clear c4
    obtain rfl := Option.some.inj H
    go_wp2
    go_ret
    exact ⟨oR, BU HB.out⟩
   rw [if_pos c4] at H
   have c4b0 := decide_eq_true c4
   clear c4
   by_cases c5 : 0 ≤ x9_1
   rotate_left
   ·rw [if_neg c5] at H
    exact absurd H (by simp)
   rw [if_pos c5] at H
   have c5b0 := decide_eq_true c5
   clear c5
   by_cases c6 : x9_1 < (l0_3.length : Int)
   rotate_left
   ·rw [if_neg c6] at H
    exact absurd H (by simp)
   rw [if_pos c6] at H
   have c6b0 := decide_eq_true c6
   clear c6
   have H' := As0 H
   clear H
   have p167 : 0 ≤ (x9_1 : Int) := qR
   have q167 : x9_1 < (l0_3.length : Int) := qR
   obtain ⟨ad167, A167_0, c167_0, e167, hx167_0, hx167_1, hx167_2, hx167_3, hx167_4, hl167_0, hi167_0⟩ := at_T57 HR0_3.out x9_1 p167 q167
   cases e167
   replace hx167_0 := cl HB hx167_0
   replace hx167_1 := cl HB hx167_1
   replace hx167_2 := cl HB hx167_2
   replace hx167_3 := cl HB hx167_3
   replace hx167_4 := cl HB hx167_4
   have HR167_0 := As0 hi167_0
   have HC167_0 := As0 hl167_0
   clear hi167_0 hl167_0
   replace p167 := eq_true p167
   replace q167 := eq_true q167
   go_wp2_with (first | ((with_reducible refine Qbn (N := 5) rfl ?_); refine bX (N := 5) (cs := #[.slice none 0 0, .int .i64 0, .int .i64 0, .int .i64 0, .int .i64 0]) (t := 57) ?_; intro gb168 hg w7 hbox hb; have BK168 := As0 (hbox); have GW168 := gW hg HB.out; have GE168 := GW168; replace HB := As0 (Qbj (BU HB.out) hb); have NB166_168 := nL hg BK166; have NB168_166 := nR hg BK166; replace BK166 := kB BK166 hb; clear hb hbox hg; have hnb8 := NB168_166.out; have hnc8 := NB166_168.out; obtain ⟨z9_0, z9_1, z9_2, z9_3, z9_4, y_9_0, y_9_1, y_9_2, y_9_3, y_9_4⟩ := cN5 BK168.out))
   go_roundg k1
   case measure => have := HK1.out; omega
   case rel => exact ⟨(wrap64 (x3_1 + (((Qam l0_3 x9_1).f0).length : Int))), (wrap64 (x9_1 + 1)), eR, eR, H', ⟨by have := HK1.out; omega⟩, ⟨kV BK166⟩, ⟨BU HB.out⟩⟩
mutual
def Qa7.l0 : Nat → Int → List (S59) → Int → Int → Int → Int → Int → List (S57) → List (S59) → Int → Int → Int → Int → Option (Int)
 | 0, _, _, _, _, _, _, _, _, _, _, _, _, _ => none
 | k + 1, x5, x10, x11, x12, x171000, x171001, x171002, x171003, x172000, x172001, x172002, x172003, x172004 => if x12 < x11 then (if 0 ≤ x12 then (if x12 < (x10.length : Int) then ((machine_Instr.f k ((Qai x10 x12).f0) ((Qai x10 x12).f1) ((Qai x10 x12).f2) ((Qai x10 x12).f3) ((Qai x10 x12).f4) ((Qai x10 x12).f5) ((Qai x10 x12).f6) x171001 x171002).bind fun t175 => (if t175 = 0 then (if ((Qai x10 x12).f0) = 18 then (Qa7.j1 k (wrap64 (x5 + 1)) x10 x11 x12 x171000 x171001 x171002 x171003 x172000 x172001 x172002 x172003 x172004) else (Qa7.j1 k 0 x10 x11 x12 x171000 x171001 x171002 x171003 x172000 x172001 x172002 x172003 x172004)) else (some t175))) else (none)) else (none)) else ((Qbi.f k x172001 x172002 x172003 x172004 x171001 (x171003.length : Int)).bind fun t172 => (some t172))
def Qa7.j1 : Nat → Int → List (S59) → Int → Int → Int → Int → Int → List (S57) → List (S59) → Int → Int → Int → Int → Option (Int)
 | 0, _, _, _, _, _, _, _, _, _, _, _, _, _ => none
 | k + 1, x5, x10, x11, x12, x171000, x171001, x171002, x171003, x172000, x172001, x172002, x172003, x172004 => if x5 > 64 then (some 15) else (Qa7.l0 k x5 x10 x11 (wrap64 (x12 + 1)) x171000 x171001 x171002 x171003 x172000 x172001 x172002 x172003 x172004)
end
def Qa7.f (k : Nat) (a0_0 : Int) (a0_1 : Int) (a0_2 : Int) (l0_3 : List (S57)) (l1_0 : List (S59)) (a1_1 : Int) (a1_2 : Int) (a1_3 : Int) (a1_4 : Int) : Option (Int) := Qa7.l0 k 0 l1_0 (l1_0.length : Int) 0 a0_0 a0_1 a0_2 l0_3 l1_0 a1_1 a1_2 a1_3 a1_4
theorem Qa7.calls (k : Nat) (a0_0 : Int) (a0_1 : Int) (a0_2 : Int) (A0_3 : Option Addr) (c0_3 : Nat) (l0_3 : List (S57)) (A1_0 : Option Addr) (c1_0 : Nat) (l1_0 : List (S59)) (a1_1 : Int) (a1_2 : Int) (a1_3 : Int) (a1_4 : Int) (r : Int) (w : World) (hr0_3 : Kd.C k57 w A0_3 l0_3.length l0_3) (hc0_3 : l0_3.length ≤ c0_3) (hr1_0 : Kd.C k59 w A1_0 l1_0.length l1_0) (hc1_0 : l1_0.length ≤ c1_0) (h : Qa7.f k a0_0 a0_1 a0_2 l0_3 l1_0 a1_1 a1_2 a1_3 a1_4 = some r) :
  Calls Tryz.prog 106 #[.agg #[.int .i64 a0_0, .int .i64 a0_1, .int .i64 a0_2, .slice A0_3 l0_3.length c0_3], .agg #[.slice A1_0 l1_0.length c1_0, .int .i64 a1_1, .int .i64 a1_2, .int .i64 a1_3, .int .i64 a1_4]] w fun e w' => e = .returned (.int .i64 r) ∧ Below w.heap.size w w' := by
 have hu27 := Tryz.underlying27
 have hu57 := Tryz.underlying57
 have hu59 := Tryz.underlying59
 have hu37 := Tryz.underlying37
 have HR0_3 := As0 hr0_3
 have HC0_3 := As0 hc0_3
 clear hr0_3 hc0_3
 have HR1_0 := As0 hr1_0
 have HC1_0 := As0 hc1_0
 clear hr1_0 hc1_0
 have HB := As0 (Below.refl w.heap.size w)
 have H : (Qa7.l0 k 0 l1_0 (l1_0.length : Int) 0 a0_0 a0_1 a0_2 l0_3 l1_0 a1_1 a1_2 a1_3 a1_4) = some r := h
 clear h
 have H' := As0 H
 clear H
 go_enter Tryz.func106, Tryz.ntmps106
 go_wp2_with (first | ((with_reducible refine Qbn (N := 2) rfl ?_); refine bX (N := 2) (cs := #[.int .i64 a0_0, .int .i64 a0_1, .int .i64 a0_2, .slice A0_3 l0_3.length c0_3]) (t := 27) ?_; intro gb170 hg w3 hbox hb; have BK170 := As0 (hbox); have GW170 := gW hg HB.out; have GE170 := GW170; replace HB := As0 (Qbj (BU HB.out) hb); clear hb hbox hg) | ((with_reducible refine Qbn (N := 3) rfl ?_); refine bX (N := 3) (cs := #[.slice A1_0 l1_0.length c1_0, .int .i64 a1_1, .int .i64 a1_2, .int .i64 a1_3, .int .i64 a1_4]) (t := 57) ?_; intro gb171 hg w4 hbox hb; have BK171 := As0 (hbox); have GW171 := gW hg HB.out; have GE171 := GW171; replace HB := As0 (Qbj (BU HB.out) hb); have NB170_171 := nL hg BK170; have NB171_170 := nR hg BK170; replace BK170 := kB BK170 hb; clear hb hbox hg; have hnb5 := NB171_170.out; have hnc5 := NB170_171.out; obtain ⟨z6_0, z6_1, z6_2, z6_3, z6_4, y_6_0, y_6_1, y_6_2, y_6_3, y_6_4⟩ := cN5 BK171.out))
 go_loopg [5, 12] k (fun kq v5 v12 w' => ∃ (x5_1 : Int) (x12_1 : Int), v5 = .int .i64 x5_1 ∧ v12 = .int .i64 x12_1 ∧ Qbm (Qa7.l0 kq x5_1 l1_0 (l1_0.length : Int) x12_1 a0_0 a0_1 a0_2 l0_3 l1_0 a1_1 a1_2 a1_3 a1_4 = some r) ∧ Qbm (kq ≤ k) ∧ Qbm (w'.heap[gb170]? = some (.cells #[.int .i64 a0_0, .int .i64 a0_1, .int .i64 a0_2, (.slice A0_3 l0_3.length c0_3)] 27 (0, 0))) ∧ Qbm (w'.heap[gb171]? = some (.cells #[(.slice A1_0 l1_0.length c1_0), .int .i64 a1_1, .int .i64 a1_2, .int .i64 a1_3, .int .i64 a1_4] 57 (0, 0))) ∧ Qbm (Below w.heap.size w w'))
 case atStart => exact ⟨(0), (0), eR, eR, H', ⟨Nat.le_refl _⟩, ⟨bU BK170.out⟩, ⟨bU BK171.out⟩, ⟨BU HB.out⟩⟩
 case round =>
  clear H'
  obtain ⟨x5_1, x12_1, rfl, rfl, HA, HK1, BK170, BK171, HB⟩ := hrel
  cases gk with
  | zero => exact absurd HA.out (by simp [Qa7.l0])
  | succ k1 =>
   have H := HA.out
   clear HA
   simp only [Qa7.l0] at H
   by_cases c7 : x12_1 < (l1_0.length : Int)
   rotate_left
   ·rw [if_neg c7] at H
    have c7b0 := decide_eq_false c7
    clear c7
    replace H := Option.bind_eq_some_iff.mp H
    obtain ⟨t172, A300, H⟩ := H
    have A30 := As0 A300
    clear A300
    obtain rfl := Option.some.inj H
    have hnb31 := NB171_170.out
    have hnc31 := NB170_171.out
    obtain ⟨z32_0, z32_1, z32_2, z32_3, z32_4, y_32_0, y_32_1, y_32_2, y_32_3, y_32_4⟩ := cN5 BK171.out
    obtain ⟨z33_0, z33_1, z33_2, z33_3, y_33_0, y_33_1, y_33_2, y_33_3⟩ := cN4 BK170.out
    go_wp2_with (first | ((with_reducible refine Qbq (f := 149) rfl ?_); refine gL (some 40) Tryz.func149 #[.agg #[.int .i64 a1_1, .int .i64 a1_2, .int .i64 a1_3, .int .i64 a1_4], .int .i64 a0_1, .int .i64 (l0_3.length : Int)] ?_; (with_reducible refine (Qbi.calls k1 a1_1 a1_2 a1_3 a1_4 a0_1 (l0_3.length : Int) t172 _ A30.out).mono ?_); rintro e w34 ⟨rfl, hb⟩; refine ⟨_, rfl, ?_⟩; replace BK170 := kB BK170 hb; replace BK171 := kB BK171 hb; replace HB := As0 (Qbj (BU HB.out) hb); (try clear hb)))
    go_ret
    exact ⟨oR, BU HB.out⟩
   rw [if_pos c7] at H
   have c7b0 := decide_eq_true c7
   clear c7
   by_cases c8 : 0 ≤ x12_1
   rotate_left
   ·rw [if_neg c8] at H
    exact absurd H (by simp)
   rw [if_pos c8] at H
   have c8b0 := decide_eq_true c8
   clear c8
   by_cases c9 : x12_1 < (l1_0.length : Int)
   rotate_left
   ·rw [if_neg c9] at H
    exact absurd H (by simp)
   rw [if_pos c9] at H
   have c9b0 := decide_eq_true c9
   clear c9
   replace H := Option.bind_eq_some_iff.mp H
   obtain ⟨t175, A100, H⟩ := H
   have A10 := As0 A100
   clear A100
   by_cases c11 : t175 = 0
   rotate_left
   ·rw [if_neg c11] at H
    have c11b0 : (t175 == 0) = false := beq_eq_false_iff_ne.mpr c11
    have c11b1 : (t175 != 0) = true := bne_iff_ne.mpr c11
    obtain rfl := Option.some.inj H
    have p173 : 0 ≤ (x12_1 : Int) := qR
    have q173 : x12_1 < (l1_0.length : Int) := qR
    obtain ⟨ad173, e173, hx173_0, hx173_1, hx173_2, hx173_3, hx173_4, hx173_5, hx173_6⟩ := at_T59 HR1_0.out x12_1 p173 q173
    cases e173
    replace hx173_0 := cl HB hx173_0
    replace hx173_1 := cl HB hx173_1
    replace hx173_2 := cl HB hx173_2
    replace hx173_3 := cl HB hx173_3
    replace hx173_4 := cl HB hx173_4
    replace hx173_5 := cl HB hx173_5
    replace hx173_6 := cl HB hx173_6
    replace p173 := eq_true p173
    replace q173 := eq_true q173
    go_wp2_with (first | ((with_reducible refine Qbn (N := 7) rfl ?_); refine bX (N := 7) (cs := #[.int .i64 0, .int .i64 0, .int .i64 0, .int .i64 0, .int .i64 0, .int .i64 0, .int .i64 0]) (t := 59) ?_; intro gb174 hg w23 hbox hb; have BK174 := As0 (hbox); have GW174 := gW hg HB.out; have GE174 := GW174; replace HB := As0 (Qbj (BU HB.out) hb); have NB170_174 := nL hg BK170; have NB174_170 := nR hg BK170; replace BK170 := kB BK170 hb; have NB171_174 := nL hg BK171; have NB174_171 := nR hg BK171; replace BK171 := kB BK171 hb; clear hb hbox hg; have hnb24 := NB174_170.out; have hnc24 := NB170_174.out; have hnb25 := NB174_171.out; have hnc25 := NB171_174.out; obtain ⟨z26_0, z26_1, z26_2, z26_3, z26_4, z26_5, z26_6, y_26_0, y_26_1, y_26_2, y_26_3, y_26_4, y_26_5, y_26_6⟩ := cN7 BK174.out; have hnb27 := NB170_171.out; have hnc27 := NB171_170.out; obtain ⟨z28_0, z28_1, z28_2, z28_3, y_28_0, y_28_1, y_28_2, y_28_3⟩ := cN4 BK170.out) | ((with_reducible refine Qbq (f := 150) rfl ?_); refine gL (some 21) Tryz.func150 #[.agg #[.int .i64 ((Qai l1_0 x12_1).f0), .int .i64 ((Qai l1_0 x12_1).f1), .int .i64 ((Qai l1_0 x12_1).f2), .int .i64 ((Qai l1_0 x12_1).f3), .int .i64 ((Qai l1_0 x12_1).f4), .int .i64 ((Qai l1_0 x12_1).f5), .int .i64 ((Qai l1_0 x12_1).f6)], .int .i64 a0_1, .int .i64 a0_2] ?_; (with_reducible refine (machine_Instr.calls k1 ((Qai l1_0 x12_1).f0) ((Qai l1_0 x12_1).f1) ((Qai l1_0 x12_1).f2) ((Qai l1_0 x12_1).f3) ((Qai l1_0 x12_1).f4) ((Qai l1_0 x12_1).f5) ((Qai l1_0 x12_1).f6) a0_1 a0_2 t175 _ A10.out).mono ?_); rintro e w29 ⟨rfl, hb⟩; refine ⟨_, rfl, ?_⟩; replace BK170 := kF BK170 hb; replace BK171 := kF BK171 hb; replace BK174 := kP (.cells #[.int .i64 ((Qai l1_0 x12_1).f0), .int .i64 ((Qai l1_0 x12_1).f1), .int .i64 ((Qai l1_0 x12_1).f2), .int .i64 ((Qai l1_0 x12_1).f3), .int .i64 ((Qai l1_0 x12_1).f4), .int .i64 ((Qai l1_0 x12_1).f5), .int .i64 ((Qai l1_0 x12_1).f6)] 59 (0, 0)) BK174 hb; replace HB := As0 (Qbj (BU HB.out) hb); (try clear hb)))
    go_ret
    exact ⟨oR, BU HB.out⟩
   rw [if_pos c11] at H
   have c11b0 : (t175 == 0) = true := beq_iff_eq.mpr c11
   have c11b1 : (t175 != 0) = false := bne_eq_false_iff_eq.mpr c11
   clear c11
   have HC12 := As0 H
   clear H
   have p173 : 0 ≤ (x12_1 : Int) := qR
   have q173 : x12_1 < (l1_0.length : Int) := qR
   obtain ⟨ad173, e173, hx173_0, hx173_1, hx173_2, hx173_3, hx173_4, hx173_5, hx173_6⟩ := at_T59 HR1_0.out x12_1 p173 q173
   cases e173
   replace hx173_0 := cl HB hx173_0
   replace hx173_1 := cl HB hx173_1
   replace hx173_2 := cl HB hx173_2
   replace hx173_3 := cl HB hx173_3
   replace hx173_4 := cl HB hx173_4
   replace hx173_5 := cl HB hx173_5
   replace hx173_6 := cl HB hx173_6
   replace p173 := eq_true p173
   replace q173 := eq_true q173
   go_upto_if 29 with (first | ((with_reducible refine Qbn (N := 7) rfl ?_); refine bX (N := 7) (cs := #[.int .i64 0, .int .i64 0, .int .i64 0, .int .i64 0, .int .i64 0, .int .i64 0, .int .i64 0]) (t := 59) ?_; intro gb174 hg w13 hbox hb; have BK174 := As0 (hbox); have GW174 := gW hg HB.out; have GE174 := GW174; replace HB := As0 (Qbj (BU HB.out) hb); have NB170_174 := nL hg BK170; have NB174_170 := nR hg BK170; replace BK170 := kB BK170 hb; have NB171_174 := nL hg BK171; have NB174_171 := nR hg BK171; replace BK171 := kB BK171 hb; clear hb hbox hg; have hnb14 := NB174_170.out; have hnc14 := NB170_174.out; have hnb15 := NB174_171.out; have hnc15 := NB171_174.out; obtain ⟨z16_0, z16_1, z16_2, z16_3, z16_4, z16_5, z16_6, y_16_0, y_16_1, y_16_2, y_16_3, y_16_4, y_16_5, y_16_6⟩ := cN7 BK174.out; have hnb17 := NB170_171.out; have hnc17 := NB171_170.out; obtain ⟨z18_0, z18_1, z18_2, z18_3, y_18_0, y_18_1, y_18_2, y_18_3⟩ := cN4 BK170.out) | ((with_reducible refine Qbq (f := 150) rfl ?_); refine gL (some 21) Tryz.func150 #[.agg #[.int .i64 ((Qai l1_0 x12_1).f0), .int .i64 ((Qai l1_0 x12_1).f1), .int .i64 ((Qai l1_0 x12_1).f2), .int .i64 ((Qai l1_0 x12_1).f3), .int .i64 ((Qai l1_0 x12_1).f4), .int .i64 ((Qai l1_0 x12_1).f5), .int .i64 ((Qai l1_0 x12_1).f6)], .int .i64 a0_1, .int .i64 a0_2] ?_; (with_reducible refine (machine_Instr.calls k1 ((Qai l1_0 x12_1).f0) ((Qai l1_0 x12_1).f1) ((Qai l1_0 x12_1).f2) ((Qai l1_0 x12_1).f3) ((Qai l1_0 x12_1).f4) ((Qai l1_0 x12_1).f5) ((Qai l1_0 x12_1).f6) a0_1 a0_2 t175 _ A10.out).mono ?_); rintro e w19 ⟨rfl, hb⟩; refine ⟨_, rfl, ?_⟩; replace BK170 := kF BK170 hb; replace BK171 := kF BK171 hb; replace BK174 := kP (.cells #[.int .i64 ((Qai l1_0 x12_1).f0), .int .i64 ((Qai l1_0 x12_1).f1), .int .i64 ((Qai l1_0 x12_1).f2), .int .i64 ((Qai l1_0 x12_1).f3), .int .i64 ((Qai l1_0 x12_1).f4), .int .i64 ((Qai l1_0 x12_1).f5), .int .i64 ((Qai l1_0 x12_1).f6)] 59 (0, 0)) BK174 hb; replace HB := As0 (Qbj (BU HB.out) hb); (try clear hb); obtain ⟨z20_0, z20_1, z20_2, z20_3, z20_4, z20_5, z20_6, y_20_0, y_20_1, y_20_2, y_20_3, y_20_4, y_20_5, y_20_6⟩ := cN7 BK174.out))
   (try simp only [Act.put, sL1, sL2, sL3])
   go_cut [5] (fun v5 wc => ∃ (kq : Nat) (x5_11 : Int), v5 = .int .i64 x5_11 ∧ Qbm (Qa7.j1 kq x5_11 l1_0 (l1_0.length : Int) x12_1 a0_0 a0_1 a0_2 l0_3 l1_0 a1_1 a1_2 a1_3 a1_4 = some r) ∧ Qbm (kq ≤ k1) ∧ Qbm (wc.heap[gb170]? = some (.cells #[.int .i64 a0_0, .int .i64 a0_1, .int .i64 a0_2, (.slice A0_3 l0_3.length c0_3)] 27 (0, 0))) ∧ Qbm (wc.heap[gb171]? = some (.cells #[(.slice (some ad173) l1_0.length c1_0), .int .i64 a1_1, .int .i64 a1_2, .int .i64 a1_3, .int .i64 a1_4] 57 (0, 0))) ∧ Qbm (wc.heap[gb174]? = some (.cells #[.int .i64 ((Qai l1_0 x12_1).f0), .int .i64 ((Qai l1_0 x12_1).f1), .int .i64 ((Qai l1_0 x12_1).f2), .int .i64 ((Qai l1_0 x12_1).f3), .int .i64 ((Qai l1_0 x12_1).f4), .int .i64 ((Qai l1_0 x12_1).f5), .int .i64 ((Qai l1_0 x12_1).f6)] 59 (0, 0))) ∧ Qbm (Below w.heap.size w wc))
   case first =>
    have H := HC12.out
    clear HC12
    by_cases c21 : ((Qai l1_0 x12_1).f0) = 18
    rotate_left
    ·rw [if_neg c21] at H
     have c21b0 : (((Qai l1_0 x12_1).f0) == 18) = false := beq_eq_false_iff_ne.mpr c21
     have c21b1 : (((Qai l1_0 x12_1).f0) != 18) = true := bne_iff_ne.mpr c21
     (first | rw [c21b0] | (simp only [Qbw, Qbx]; rw [c21b0]) | skip)
     have H' := As0 H
     clear H
     go_wp2
     go_meet
     case rel => exact ⟨_, (0), eR, H', ⟨by have := HK1.out; first | omega | exact Nat.le_refl _⟩, ⟨bU BK170.out⟩, ⟨bU BK171.out⟩, ⟨bU BK174.out⟩, ⟨BU HB.out⟩⟩
    rw [if_pos c21] at H
    have c21b0 : (((Qai l1_0 x12_1).f0) == 18) = true := beq_iff_eq.mpr c21
    have c21b1 : (((Qai l1_0 x12_1).f0) != 18) = false := bne_eq_false_iff_eq.mpr c21
    clear c21
    (first | rw [c21b0] | (simp only [Qbw, Qbx]; rw [c21b0]) | skip)
    have H' := As0 H
    clear H
    go_wp2
    go_meet
    case rel => exact ⟨_, (wrap64 (x5_1 + 1)), eR, H', ⟨by have := HK1.out; first | omega | exact Nat.le_refl _⟩, ⟨bU BK170.out⟩, ⟨bU BK171.out⟩, ⟨bU BK174.out⟩, ⟨BU HB.out⟩⟩
   case rest =>
    clear HC12
    obtain ⟨kq, x5_11, rfl, HA, HJ11, BK170, BK171, BK174, HB⟩ := hcut
    cases kq with
    | zero => exact absurd HA.out (by simp [Qa7.j1])
    | succ kj11 =>
     have H := HA.out
     clear HA
     simp only [Qa7.j1] at H
     by_cases c22 : x5_11 > 64
     ·rw [if_pos c22] at H
      have c22b0 := decide_eq_true c22
      clear c22
      obtain rfl := Option.some.inj H
      go_wp2
      go_ret
      exact ⟨oR, BU HB.out⟩
     rw [if_neg c22] at H
     have c22b0 := decide_eq_false c22
     clear c22
     have H' := As0 H
     clear H
     go_wp2
     go_roundg kj11
     case measure => have := HK1.out; have := HJ11.out; omega
     case rel => exact ⟨(x5_11), (wrap64 (x12_1 + 1)), eR, eR, H', ⟨by have := HK1.out; have := HJ11.out; omega⟩, ⟨bU BK170.out⟩, ⟨bU BK171.out⟩, ⟨BU HB.out⟩⟩
mutual
def Qag.j0 : Nat → Bool → Int → Int → Int → List (S57) → Option (Int)
 | 0, _, _, _, _, _ => none
 | k + 1, x6, x177000, x177001, x177002, x177003 => if x6 = true then (some 10) else (if x177001 < 0 then (some 9) else (if x177002 > 1048576 then (Qag.j1 k true x177000 x177001 x177002 x177003) else (Qag.j1 k (decide (x177001 > 1048576)) x177000 x177001 x177002 x177003)))
def Qag.j1 : Nat → Bool → Int → Int → Int → List (S57) → Option (Int)
 | 0, _, _, _, _, _ => none
 | k + 1, x21, x177000, x177001, x177002, x177003 => if x21 = true then (some 6) else (if (x177003.length : Int) = 0 then (some 14) else (if (x177003.length : Int) > 1048576 then (Qag.j2 k true x177000 x177001 x177002 x177003) else ((machine_Code.f k x177000 x177001 x177002 x177003).bind fun t177 => (Qag.j2 k (decide (t177 > 1048576)) x177000 x177001 x177002 x177003))))
def Qag.j2 : Nat → Bool → Int → Int → Int → List (S57) → Option (Int)
 | 0, _, _, _, _, _ => none
 | k + 1, x35, x177000, x177001, x177002, x177003 => if x35 = true then (some 6) else (Qag.l0 k x177003 (x177003.length : Int) 0 x177000 x177001 x177002 x177003)
def Qag.l0 : Nat → List (S57) → Int → Int → Int → Int → Int → List (S57) → Option (Int)
 | 0, _, _, _, _, _, _, _ => none
 | k + 1, x46, x47, x48, x177000, x177001, x177002, x177003 => if x48 < x47 then (if 0 ≤ x48 then (if x48 < (x46.length : Int) then ((Qa7.f k x177000 x177001 x177002 x177003 ((Qam x46 x48).f0) ((Qam x46 x48).f1.f0) ((Qam x46 x48).f1.f1) ((Qam x46 x48).f1.f2) ((Qam x46 x48).f1.f3)).bind fun t180 => (if t180 = 0 then (Qag.l0 k x46 x47 (wrap64 (x48 + 1)) x177000 x177001 x177002 x177003) else (some t180))) else (none)) else (none)) else (some 0)
end
def Qag.f (k : Nat) (a0_0 : Int) (a0_1 : Int) (a0_2 : Int) (l0_3 : List (S57)) : Option (Int) := if a0_0 < 0 then (Qag.j0 k true a0_0 a0_1 a0_2 l0_3) else (Qag.j0 k (decide (a0_0 > a0_2)) a0_0 a0_1 a0_2 l0_3)
theorem Qag.calls (k : Nat) (a0_0 : Int) (a0_1 : Int) (a0_2 : Int) (A0_3 : Option Addr) (c0_3 : Nat) (l0_3 : List (S57)) (r : Int) (w : World) (hr0_3 : Kd.C k57 w A0_3 l0_3.length l0_3) (hc0_3 : l0_3.length ≤ c0_3) (h : Qag.f k a0_0 a0_1 a0_2 l0_3 = some r) :
  Calls Tryz.prog 60 #[.agg #[.int .i64 a0_0, .int .i64 a0_1, .int .i64 a0_2, .slice A0_3 l0_3.length c0_3]] w fun e w' => e = .returned (.int .i64 r) ∧ Below w.heap.size w w' := by
 have hu27 := Tryz.underlying27
 have hu57 := Tryz.underlying57
 have HR0_3 := As0 hr0_3
 have HC0_3 := As0 hc0_3
 clear hr0_3 hc0_3
 have HB := As0 (Below.refl w.heap.size w)
 have H : (if a0_0 < 0 then (Qag.j0 k true a0_0 a0_1 a0_2 l0_3) else (Qag.j0 k (decide (a0_0 > a0_2)) a0_0 a0_1 a0_2 l0_3)) = some r := h
 clear h
 have HC2 := As0 H
 clear H
 go_enter Tryz.func60, Tryz.ntmps60
 go_upto_region 1 with (first | ((with_reducible refine Qbn (N := 1) rfl ?_); refine bX (N := 1) (cs := #[.int .i64 a0_0, .int .i64 a0_1, .int .i64 a0_2, .slice A0_3 l0_3.length c0_3]) (t := 27) ?_; intro gb176 hg w3 hbox hb; have BK176 := As0 (hbox); have GW176 := gW hg HB.out; have GE176 := GW176; replace HB := As0 (Qbj (BU HB.out) hb); clear hb hbox hg))
 (try simp only [Act.put, sL1, sL2, sL3])
 go_cut [6] (fun v6 wc => ∃ (kq : Nat) (x6_1 : Bool), v6 = .bool x6_1 ∧ Qbm (Qag.j0 kq x6_1 a0_0 a0_1 a0_2 l0_3 = some r) ∧ Qbm (kq ≤ k) ∧ Qbm (wc.heap[gb176]? = some (.cells #[.int .i64 a0_0, .int .i64 a0_1, .int .i64 a0_2, (.slice A0_3 l0_3.length c0_3)] 27 (0, 0))) ∧ Qbm (Below w.heap.size w wc))
 case first =>
  have H := HC2.out
  clear HC2
  by_cases c4 : a0_0 < 0
  rotate_left
  ·rw [if_neg c4] at H
   have c4b0 := decide_eq_false c4
   clear c4
   (first | rw [c4b0] | (simp only [Qbw, Qbx]; rw [c4b0]) | skip)
   have H' := As0 H
   clear H
   obtain ⟨z6_0, z6_1, z6_2, z6_3, y_6_0, y_6_1, y_6_2, y_6_3⟩ := cN4 BK176.out
   go_wp2
   go_meet
   case rel => exact ⟨_, (decide (a0_0 > a0_2)), eR, H', ⟨by first | omega | exact Nat.le_refl _⟩, ⟨bU BK176.out⟩, ⟨BU HB.out⟩⟩
  rw [if_pos c4] at H
  have c4b0 := decide_eq_true c4
  clear c4
  (first | rw [c4b0] | (simp only [Qbw, Qbx]; rw [c4b0]) | skip)
  have H' := As0 H
  clear H
  obtain ⟨z5_0, z5_1, z5_2, z5_3, y_5_0, y_5_1, y_5_2, y_5_3⟩ := cN4 BK176.out
  go_wp2
  go_meet
  case rel => exact ⟨_, (true), eR, H', ⟨by first | omega | exact Nat.le_refl _⟩, ⟨bU BK176.out⟩, ⟨BU HB.out⟩⟩
 case rest =>
  clear HC2
  obtain ⟨kq, x6_1, rfl, HA, HJ1, BK176, HB⟩ := hcut
  cases kq with
  | zero => exact absurd HA.out (by simp [Qag.j0])
  | succ kj1 =>
   have H := HA.out
   clear HA
   simp only [Qag.j0] at H
   by_cases c7 : x6_1 = true
   ·subst c7
    rw [if_pos rfl] at H
    obtain rfl := Option.some.inj H
    go_wp2
    go_ret
    exact ⟨oR, BU HB.out⟩
   replace c7 := Bool.eq_false_iff.mpr c7
   subst c7
   rw [if_neg bF] at H
   by_cases c8 : a0_1 < 0
   ·rw [if_pos c8] at H
    have c8b0 := decide_eq_true c8
    clear c8
    obtain rfl := Option.some.inj H
    obtain ⟨z9_0, z9_1, z9_2, z9_3, y_9_0, y_9_1, y_9_2, y_9_3⟩ := cN4 BK176.out
    go_wp2
    go_ret
    exact ⟨oR, BU HB.out⟩
   rw [if_neg c8] at H
   have c8b0 := decide_eq_false c8
   clear c8
   have HC10 := As0 H
   clear H
   obtain ⟨z11_0, z11_1, z11_2, z11_3, y_11_0, y_11_1, y_11_2, y_11_3⟩ := cN4 BK176.out
   go_upto_region 5 with (fail)
   go_cut [21] (fun v21 wc => ∃ (kq : Nat) (x21_9 : Bool), v21 = .bool x21_9 ∧ Qbm (Qag.j1 kq x21_9 a0_0 a0_1 a0_2 l0_3 = some r) ∧ Qbm (kq ≤ kj1) ∧ Qbm (wc.heap[gb176]? = some (.cells #[.int .i64 a0_0, .int .i64 a0_1, .int .i64 a0_2, (.slice A0_3 l0_3.length c0_3)] 27 (0, 0))) ∧ Qbm (Below w.heap.size w wc))
   case first =>
    have H := HC10.out
    clear HC10
    by_cases c12 : a0_2 > 1048576
    rotate_left
    ·rw [if_neg c12] at H
     have c12b0 := decide_eq_false c12
     clear c12
     (first | rw [c12b0] | (simp only [Qbw, Qbx]; rw [c12b0]) | skip)
     have H' := As0 H
     clear H
     obtain ⟨z14_0, z14_1, z14_2, z14_3, y_14_0, y_14_1, y_14_2, y_14_3⟩ := cN4 BK176.out
     go_wp2
     go_meet
     case rel => exact ⟨_, (decide (a0_1 > 1048576)), eR, H', ⟨by have := HJ1.out; first | omega | exact Nat.le_refl _⟩, ⟨bU BK176.out⟩, ⟨BU HB.out⟩⟩
    rw [if_pos c12] at H
    have c12b0 := decide_eq_true c12
    clear c12
    (first | rw [c12b0] | (simp only [Qbw, Qbx]; rw [c12b0]) | skip)
    have H' := As0 H
    clear H
    obtain ⟨z13_0, z13_1, z13_2, z13_3, y_13_0, y_13_1, y_13_2, y_13_3⟩ := cN4 BK176.out
    go_wp2
    go_meet
    case rel => exact ⟨_, (true), eR, H', ⟨by have := HJ1.out; first | omega | exact Nat.le_refl _⟩, ⟨bU BK176.out⟩, ⟨BU HB.out⟩⟩
   case rest =>
    clear HC10
    obtain ⟨kq, x21_9, rfl, HA, HJ9, BK176, HB⟩ := hcut
    cases kq with
    | zero => exact absurd HA.out (by simp [Qag.j1])
    | succ kj9 =>
     have H := HA.out
     clear HA
     simp only [Qag.j1] at H
     by_cases c15 : x21_9 = true
     ·subst c15
      rw [if_pos rfl] at H
      obtain rfl := Option.some.inj H
      go_wp2
      go_ret
      exact ⟨oR, BU HB.out⟩
     replace c15 := Bool.eq_false_iff.mpr c15
     subst c15
     rw [if_neg bF] at H
     by_cases c16 : (l0_3.length : Int) = 0
     ·rw [if_pos c16] at H
      have c16b0 : ((l0_3.length : Int) == 0) = true := beq_iff_eq.mpr c16
      have c16b1 : ((l0_3.length : Int) != 0) = false := bne_eq_false_iff_eq.mpr c16
      clear c16
      obtain rfl := Option.some.inj H
      obtain ⟨z17_0, z17_1, z17_2, z17_3, y_17_0, y_17_1, y_17_2, y_17_3⟩ := cN4 BK176.out
      go_wp2
      go_ret
      exact ⟨oR, BU HB.out⟩
     rw [if_neg c16] at H
     have c16b0 : ((l0_3.length : Int) == 0) = false := beq_eq_false_iff_ne.mpr c16
     have c16b1 : ((l0_3.length : Int) != 0) = true := bne_iff_ne.mpr c16
     have c16b2 : ¬ (l0_3 = []) := fun h_ => c16 (by rw [h_]; rfl)
     have HC18 := As0 H
     clear H
     obtain ⟨z19_0, z19_1, z19_2, z19_3, y_19_0, y_19_1, y_19_2, y_19_3⟩ := cN4 BK176.out
     go_upto_region 9 with (fail)
     go_cut [35] (fun v35 wc => ∃ (kq : Nat) (x35_17 : Bool), v35 = .bool x35_17 ∧ Qbm (Qag.j2 kq x35_17 a0_0 a0_1 a0_2 l0_3 = some r) ∧ Qbm (kq ≤ kj9) ∧ Qbm (wc.heap[gb176]? = some (.cells #[.int .i64 a0_0, .int .i64 a0_1, .int .i64 a0_2, (.slice A0_3 l0_3.length c0_3)] 27 (0, 0))) ∧ Qbm (Below w.heap.size w wc))
     case first =>
      have H := HC18.out
      clear HC18
      by_cases c20 : (l0_3.length : Int) > 1048576
      ·rw [if_pos c20] at H
       have c20b0 := decide_eq_true c20
       have c20b1 : decide (1048576 < l0_3.length) = true := decide_eq_true (by omega)
       clear c20
       (first | rw [c20b0] | (simp only [Qbw, Qbx]; rw [c20b0]) | skip)
       have H' := As0 H
       clear H
       obtain ⟨z21_0, z21_1, z21_2, z21_3, y_21_0, y_21_1, y_21_2, y_21_3⟩ := cN4 BK176.out
       go_wp2
       go_meet
       case rel => exact ⟨_, (true), eR, H', ⟨by have := HJ1.out; have := HJ9.out; first | omega | exact Nat.le_refl _⟩, ⟨bU BK176.out⟩, ⟨BU HB.out⟩⟩
      rw [if_neg c20] at H
      have c20b0 := decide_eq_false c20
      have c20b1 : decide (1048576 < l0_3.length) = false := decide_eq_false (by omega)
      clear c20
      (first | rw [c20b0] | (simp only [Qbw, Qbx]; rw [c20b0]) | skip)
      replace H := Option.bind_eq_some_iff.mp H
      obtain ⟨t177, A220, H⟩ := H
      have A22 := As0 A220
      clear A220
      have H' := As0 H
      clear H
      obtain ⟨z23_0, z23_1, z23_2, z23_3, y_23_0, y_23_1, y_23_2, y_23_3⟩ := cN4 BK176.out
      go_wp2_with (first | (go_at_call 105; (with_reducible refine (machine_Code.calls kj9 a0_0 a0_1 a0_2 _ _ l0_3 t177 _ ?side1 ?side2 A22.out).mono ?_); (case side1 => exact CU (Kd.C_below HR0_3.out HB.out)); (case side2 => exact HC0_3.out); rintro e w24 ⟨rfl, hb⟩; replace BK176 := kB BK176 hb; replace HB := As0 (Qbj (BU HB.out) hb); (try clear hb)))
      go_meet
      case rel => exact ⟨_, (decide (t177 > 1048576)), eR, H', ⟨by have := HJ1.out; have := HJ9.out; first | omega | exact Nat.le_refl _⟩, ⟨bU BK176.out⟩, ⟨BU HB.out⟩⟩
     case rest =>
      clear HC18
      obtain ⟨kq, x35_17, rfl, HA, HJ17, BK176, HB⟩ := hcut
      cases kq with
      | zero => exact absurd HA.out (by simp [Qag.j2])
      | succ kj17 =>
       have H := HA.out
       clear HA
       simp only [Qag.j2] at H
       by_cases c25 : x35_17 = true
       ·subst c25
        rw [if_pos rfl] at H
        obtain rfl := Option.some.inj H
        go_wp2
        go_ret
        exact ⟨oR, BU HB.out⟩
       replace c25 := Bool.eq_false_iff.mpr c25
       subst c25
       rw [if_neg bF] at H
       have H' := As0 H
       clear H
       obtain ⟨z26_0, z26_1, z26_2, z26_3, y_26_0, y_26_1, y_26_2, y_26_3⟩ := cN4 BK176.out
       go_wp2
       go_loopg [48] kj17 (fun kq v48 w' => ∃ (x48_4 : Int), v48 = .int .i64 x48_4 ∧ Qbm (Qag.l0 kq l0_3 (l0_3.length : Int) x48_4 a0_0 a0_1 a0_2 l0_3 = some r) ∧ Qbm (kq ≤ kj17) ∧ Qbm (w'.heap[gb176]? = some (.cells #[.int .i64 a0_0, .int .i64 a0_1, .int .i64 a0_2, (.slice A0_3 l0_3.length c0_3)] 27 (0, 0))) ∧ Qbm (Below w.heap.size w w'))
       case atStart => exact ⟨(0), eR, H', ⟨Nat.le_refl _⟩, ⟨bU BK176.out⟩, ⟨BU HB.out⟩⟩
       case round =>
        clear H'
        obtain ⟨x48_4, rfl, HA, HK4, BK176, HB⟩ := hrel
        cases gk with
        | zero => exact absurd HA.out (by simp [Qag.l0])
        | succ k4 =>
         have H := HA.out
         clear HA
         simp only [Qag.l0] at H
         by_cases c27 : x48_4 < (l0_3.length : Int)
         rotate_left
         ·rw [if_neg c27] at H
          have c27b0 := decide_eq_false c27
          clear c27
          obtain rfl := Option.some.inj H
          go_wp2
          go_ret
          exact ⟨oR, BU HB.out⟩
         rw [if_pos c27] at H
         have c27b0 := decide_eq_true c27
         clear c27
         by_cases c28 : 0 ≤ x48_4
         rotate_left
         ·rw [if_neg c28] at H
          exact absurd H (by simp)
         rw [if_pos c28] at H
         have c28b0 := decide_eq_true c28
         clear c28
         by_cases c29 : x48_4 < (l0_3.length : Int)
         rotate_left
         ·rw [if_neg c29] at H
          exact absurd H (by simp)
         rw [if_pos c29] at H
         have c29b0 := decide_eq_true c29
         clear c29
         replace H := Option.bind_eq_some_iff.mp H
         obtain ⟨t180, A300, H⟩ := H
         have A30 := As0 A300
         clear A300
         by_cases c31 : t180 = 0
         rotate_left
         ·rw [if_neg c31] at H
          have c31b0 : (t180 == 0) = false := beq_eq_false_iff_ne.mpr c31
          have c31b1 : (t180 != 0) = true := bne_iff_ne.mpr c31
          obtain rfl := Option.some.inj H
          have p178 : 0 ≤ (x48_4 : Int) := qR
          have q178 : x48_4 < (l0_3.length : Int) := qR
          obtain ⟨ad178, A178_0, c178_0, e178, hx178_0, hx178_1, hx178_2, hx178_3, hx178_4, hl178_0, hi178_0⟩ := at_T57 HR0_3.out x48_4 p178 q178
          cases e178
          replace hx178_0 := cl HB hx178_0
          replace hx178_1 := cl HB hx178_1
          replace hx178_2 := cl HB hx178_2
          replace hx178_3 := cl HB hx178_3
          replace hx178_4 := cl HB hx178_4
          have HR178_0 := As0 hi178_0
          have HC178_0 := As0 hl178_0
          clear hi178_0 hl178_0
          replace p178 := eq_true p178
          replace q178 := eq_true q178
          go_wp2_with (first | ((with_reducible refine Qbn (N := 4) rfl ?_); refine bX (N := 4) (cs := #[.slice none 0 0, .int .i64 0, .int .i64 0, .int .i64 0, .int .i64 0]) (t := 57) ?_; intro gb179 hg w37 hbox hb; have BK179 := As0 (hbox); have GW179 := gW hg HB.out; have GE179 := GW179; replace HB := As0 (Qbj (BU HB.out) hb); have NB176_179 := nL hg BK176; have NB179_176 := nR hg BK176; replace BK176 := kB BK176 hb; clear hb hbox hg; have hnb38 := NB179_176.out; have hnc38 := NB176_179.out; obtain ⟨z39_0, z39_1, z39_2, z39_3, z39_4, y_39_0, y_39_1, y_39_2, y_39_3, y_39_4⟩ := cN5 BK179.out; obtain ⟨z40_0, z40_1, z40_2, z40_3, y_40_0, y_40_1, y_40_2, y_40_3⟩ := cN4 BK176.out) | ((with_reducible refine Qbq (f := 106) rfl ?_); refine gL (some 54) Tryz.func106 #[.agg #[.int .i64 a0_0, .int .i64 a0_1, .int .i64 a0_2, .slice (some ad178) l0_3.length c0_3], .agg #[.slice A178_0 ((Qam l0_3 x48_4).f0).length c178_0, .int .i64 ((Qam l0_3 x48_4).f1.f0), .int .i64 ((Qam l0_3 x48_4).f1.f1), .int .i64 ((Qam l0_3 x48_4).f1.f2), .int .i64 ((Qam l0_3 x48_4).f1.f3)]] ?_; (with_reducible refine (Qa7.calls k4 a0_0 a0_1 a0_2 _ _ l0_3 _ _ ((Qam l0_3 x48_4).f0) ((Qam l0_3 x48_4).f1.f0) ((Qam l0_3 x48_4).f1.f1) ((Qam l0_3 x48_4).f1.f2) ((Qam l0_3 x48_4).f1.f3) t180 _ ?side1 ?side2 ?side3 ?side4 A30.out).mono ?_); (case side1 => exact Kd.C_below HR0_3.out (BU HB.out)); (case side2 => exact HC0_3.out); (case side3 => exact Kd.C_below HR178_0.out (BU HB.out)); (case side4 => exact HC178_0.out); rintro e w41 ⟨rfl, hb⟩; refine ⟨_, rfl, ?_⟩; replace BK176 := kF BK176 hb; replace BK179 := kP (.cells #[.slice A178_0 ((Qam l0_3 x48_4).f0).length c178_0, .int .i64 ((Qam l0_3 x48_4).f1.f0), .int .i64 ((Qam l0_3 x48_4).f1.f1), .int .i64 ((Qam l0_3 x48_4).f1.f2), .int .i64 ((Qam l0_3 x48_4).f1.f3)] 57 (0, 0)) BK179 hb; replace HB := As0 (Qbj (BU HB.out) hb); (try clear hb)))
          go_ret
          exact ⟨oR, BU HB.out⟩
         rw [if_pos c31] at H
         have c31b0 : (t180 == 0) = true := beq_iff_eq.mpr c31
         have c31b1 : (t180 != 0) = false := bne_eq_false_iff_eq.mpr c31
         clear c31
         have H' := As0 H
         clear H
         have p178 : 0 ≤ (x48_4 : Int) := qR
         have q178 : x48_4 < (l0_3.length : Int) := qR
         obtain ⟨ad178, A178_0, c178_0, e178, hx178_0, hx178_1, hx178_2, hx178_3, hx178_4, hl178_0, hi178_0⟩ := at_T57 HR0_3.out x48_4 p178 q178
         cases e178
         replace hx178_0 := cl HB hx178_0
         replace hx178_1 := cl HB hx178_1
         replace hx178_2 := cl HB hx178_2
         replace hx178_3 := cl HB hx178_3
         replace hx178_4 := cl HB hx178_4
         have HR178_0 := As0 hi178_0
         have HC178_0 := As0 hl178_0
         clear hi178_0 hl178_0
         replace p178 := eq_true p178
         replace q178 := eq_true q178
         go_wp2_with (first | ((with_reducible refine Qbn (N := 4) rfl ?_); refine bX (N := 4) (cs := #[.slice none 0 0, .int .i64 0, .int .i64 0, .int .i64 0, .int .i64 0]) (t := 57) ?_; intro gb179 hg w32 hbox hb; have BK179 := As0 (hbox); have GW179 := gW hg HB.out; have GE179 := GW179; replace HB := As0 (Qbj (BU HB.out) hb); have NB176_179 := nL hg BK176; have NB179_176 := nR hg BK176; replace BK176 := kB BK176 hb; clear hb hbox hg; have hnb33 := NB179_176.out; have hnc33 := NB176_179.out; obtain ⟨z34_0, z34_1, z34_2, z34_3, z34_4, y_34_0, y_34_1, y_34_2, y_34_3, y_34_4⟩ := cN5 BK179.out; obtain ⟨z35_0, z35_1, z35_2, z35_3, y_35_0, y_35_1, y_35_2, y_35_3⟩ := cN4 BK176.out) | ((with_reducible refine Qbq (f := 106) rfl ?_); refine gL (some 54) Tryz.func106 #[.agg #[.int .i64 a0_0, .int .i64 a0_1, .int .i64 a0_2, .slice (some ad178) l0_3.length c0_3], .agg #[.slice A178_0 ((Qam l0_3 x48_4).f0).length c178_0, .int .i64 ((Qam l0_3 x48_4).f1.f0), .int .i64 ((Qam l0_3 x48_4).f1.f1), .int .i64 ((Qam l0_3 x48_4).f1.f2), .int .i64 ((Qam l0_3 x48_4).f1.f3)]] ?_; (with_reducible refine (Qa7.calls k4 a0_0 a0_1 a0_2 _ _ l0_3 _ _ ((Qam l0_3 x48_4).f0) ((Qam l0_3 x48_4).f1.f0) ((Qam l0_3 x48_4).f1.f1) ((Qam l0_3 x48_4).f1.f2) ((Qam l0_3 x48_4).f1.f3) t180 _ ?side1 ?side2 ?side3 ?side4 A30.out).mono ?_); (case side1 => exact Kd.C_below HR0_3.out (BU HB.out)); (case side2 => exact HC0_3.out); (case side3 => exact Kd.C_below HR178_0.out (BU HB.out)); (case side4 => exact HC178_0.out); rintro e w36 ⟨rfl, hb⟩; refine ⟨_, rfl, ?_⟩; replace BK176 := kF BK176 hb; replace BK179 := kP (.cells #[.slice A178_0 ((Qam l0_3 x48_4).f0).length c178_0, .int .i64 ((Qam l0_3 x48_4).f1.f0), .int .i64 ((Qam l0_3 x48_4).f1.f1), .int .i64 ((Qam l0_3 x48_4).f1.f2), .int .i64 ((Qam l0_3 x48_4).f1.f3)] 57 (0, 0)) BK179 hb; replace HB := As0 (Qbj (BU HB.out) hb); (try clear hb)))
         go_roundg k4
         case measure => have := HJ1.out; have := HJ9.out; have := HJ17.out; have := HK4.out; omega
         case rel => exact ⟨(wrap64 (x48_4 + 1)), eR, H', ⟨by have := HJ1.out; have := HJ9.out; have := HJ17.out; have := HK4.out; omega⟩, ⟨bU BK176.out⟩, ⟨BU HB.out⟩⟩
def edge_total.l0 : Nat → Int → List (List (S47)) → Int → Int → Option (Int)
 | 0, _, _, _, _ => none
 | k + 1, x3, x6, x7, x8 => if x8 < x7 then (if 0 ≤ x8 then (if x8 < (x6.length : Int) then (edge_total.l0 k (wrap64 (x3 + ((Qa4 x6 x8).length : Int))) x6 x7 (wrap64 (x8 + 1))) else (none)) else (none)) else (some x3)
def edge_total.f (k : Nat) (l0 : List (List (S47))) : Option (Int) := edge_total.l0 k 0 l0 (l0.length : Int) 0
theorem edge_total.calls (k : Nat) (A0 : Option Addr) (c0 : Nat) (l0 : List (List (S47))) (r : Int) (w : World) (hr0 : Kd.C (Kd.slice 47 k47) w A0 l0.length l0) (hc0 : l0.length ≤ c0) (h : edge_total.f k l0 = some r) :
  Calls Tryz.prog 107 #[.slice A0 l0.length c0] w fun e w' => e = .returned (.int .i64 r) ∧ Qcb w w' := by
 have HR0 := As0 hr0
 have HC0 := As0 hc0
 clear hr0 hc0
 have H : (edge_total.l0 k 0 l0 (l0.length : Int) 0) = some r := h
 clear h
 have H' := As0 H
 clear H
 go_enter Tryz.func107, Tryz.ntmps107
 go_wp2
 go_loopg [3, 8] k (fun kq v3 v8 w' => ∃ (x3_1 : Int) (x8_1 : Int), v3 = .int .i64 x3_1 ∧ v8 = .int .i64 x8_1 ∧ Qbm (edge_total.l0 kq x3_1 l0 (l0.length : Int) x8_1 = some r) ∧ Qbm (kq ≤ k) ∧ Qcb w w')
 case atStart => exact ⟨(0), (0), eR, eR, H', ⟨Nat.le_refl _⟩, by repeat (first | exact Qcb.refl _ | apply Qcb.step)⟩
 case round =>
  clear H'
  obtain ⟨x3_1, x8_1, rfl, rfl, HA, HK1, ⟨m1, rfl⟩⟩ := hrel
  cases gk with
  | zero => exact absurd HA.out (by simp [edge_total.l0])
  | succ k1 =>
   have H := HA.out
   clear HA
   simp only [edge_total.l0] at H
   by_cases c2 : x8_1 < (l0.length : Int)
   rotate_left
   ·rw [if_neg c2] at H
    have c2b0 := decide_eq_false c2
    clear c2
    obtain rfl := Option.some.inj H
    go_wp2
    go_ret
    exact dR
   rw [if_pos c2] at H
   have c2b0 := decide_eq_true c2
   clear c2
   by_cases c3 : 0 ≤ x8_1
   rotate_left
   ·rw [if_neg c3] at H
    exact absurd H (by simp)
   rw [if_pos c3] at H
   have c3b0 := decide_eq_true c3
   clear c3
   by_cases c4 : x8_1 < (l0.length : Int)
   rotate_left
   ·rw [if_neg c4] at H
    exact absurd H (by simp)
   rw [if_pos c4] at H
   have c4b0 := decide_eq_true c4
   clear c4
   have H' := As0 H
   clear H
   have p181 : 0 ≤ (x8_1 : Int) := qR
   have q181 : x8_1 < (l0.length : Int) := qR
   obtain ⟨ad181, A181_0, c181_0, e181, hx181_0, hl181_0, hi181_0⟩ := Qeb HR0.out x8_1 p181 q181
   cases e181
   have HR181_0 := As0 hi181_0
   have HC181_0 := As0 hl181_0
   clear hi181_0 hl181_0
   replace p181 := eq_true p181
   replace q181 := eq_true q181
   go_wp2
   go_roundg k1
   case measure => have := HK1.out; omega
   case rel => exact ⟨(wrap64 (x3_1 + ((Qa4 l0 x8_1).length : Int))), (wrap64 (x8_1 + 1)), eR, eR, H', ⟨by have := HK1.out; omega⟩, by repeat (first | exact Qcb.refl _ | apply Qcb.step)⟩
mutual
def Qaq.l0 : Nat → List (S47) → Int → Int → Int → List (S47) → Int → Int → Option (Int)
 | 0, _, _, _, _, _, _, _ => none
 | k + 1, x0, x1, x2, x3, x11, x12, x13 => if x13 < x12 then (if 0 ≤ x13 then (if x13 < (x11.length : Int) then (if ((Qaa x11 x13).f0) < 0 then (Qaq.j1 k x0 x1 x2 x3 x13 x11 x12 x13 true ((Qaa x11 x13).f0) ((Qaa x11 x13).f1)) else (Qaq.j1 k x0 x1 x2 x3 x13 x11 x12 x13 (decide (((Qaa x11 x13).f0) ≥ x1)) ((Qaa x11 x13).f0) ((Qaa x11 x13).f1))) else (none)) else (none)) else (some 0)
def Qaq.j1 : Nat → List (S47) → Int → Int → Int → Int → List (S47) → Int → Int → Bool → Int → Int → Option (Int)
 | 0, _, _, _, _, _, _, _, _, _, _, _ => none
 | k + 1, x0, x1, x2, x3, x9, x11, x12, x13, x18, x189000, x189001 => if x18 = true then (some 9) else ((Qa9.f x189001 x2 x3).bind fun t189 => (if t189 = true then (if x9 > 0 then (if 0 ≤ (wrap64 (x9 - 1)) then (if (wrap64 (x9 - 1)) < (x0.length : Int) then ((Qa3.f ((Qaa x0 (wrap64 (x9 - 1))).f0) ((Qaa x0 (wrap64 (x9 - 1))).f1) x189000 x189001).bind fun t191 => (Qaq.j2 k x0 x1 x2 x3 x11 x12 x13 (!t191))) else (none)) else (none)) else (Qaq.j2 k x0 x1 x2 x3 x11 x12 x13 false)) else (some 10)))
def Qaq.j2 : Nat → List (S47) → Int → Int → Int → List (S47) → Int → Int → Bool → Option (Int)
 | 0, _, _, _, _, _, _, _, _ => none
 | k + 1, x0, x1, x2, x3, x11, x12, x13, x35 => if x35 = true then (some 13) else (Qaq.l0 k x0 x1 x2 x3 x11 x12 (wrap64 (x13 + 1)))
end
def Qaq.f (k : Nat) (l0 : List (S47)) (a1 : Int) (a2 : Int) (a3 : Int) : Option (Int) := Qaq.l0 k l0 a1 a2 a3 l0 (l0.length : Int) 0
def Qaq.T8 : Bool × List (List Nat × List Nat) := (true, [([], []), ([0], [0]), ([1], [1]), ([2], [2]), ([2], [2]), ([4, 2], [2, 4]), ([3, 5, 2], [2, 3, 5]), ([6, 2], [2, 6]), ([2], [2]), ([7, 8, 2, 2], [2, 7, 8]), ([9, 2], [2, 9]), ([2, 10], [2, 10]), ([11, 9], [11])])
def Qaq.B8 : List Nat := [0, 1, 3, 7, 7, 23, 63, 127, 7, 511, 1023, 2047, 4095]
theorem Qaq.tab8 : rtab .any (opsOf Tryz.f108 8) = Qaq.T8 := by kernel_rfl
theorem Qaq.bits8 : Qcw Qaq.T8.2 Qaq.B8 = true := by kernel_rfl
theorem Qaq.calls (k : Nat) (A0 : Option Addr) (c0 : Nat) (l0 : List (S47)) (a1 : Int) (a2 : Int) (a3 : Int) (r : Int) (w : World) (hr0 : Kd.C k47 w A0 l0.length l0) (hc0 : l0.length ≤ c0) (h : Qaq.f k l0 a1 a2 a3 = some r) :
  Calls Tryz.prog 108 #[.slice A0 l0.length c0, .int .i64 a1, .int .i64 a2, .int .i64 a3] w fun e w' => e = .returned (.int .i64 r) ∧ Below w.heap.size w w' := by
 have hu47 := Tryz.underlying47
 have HR0 := As0 hr0
 have HC0 := As0 hc0
 clear hr0 hc0
 have HB := As0 (Below.refl w.heap.size w)
 have H : (Qaq.l0 k l0 a1 a2 a3 l0 (l0.length : Int) 0) = some r := h
 clear h
 have H' := As0 H
 clear H
 go_enter Tryz.func108, Tryz.ntmps108
 go_wp2
 go_loopg [13] k (fun kq v13 w' => ∃ (x13_1 : Int), v13 = .int .i64 x13_1 ∧ Qbm (Qaq.l0 kq l0 a1 a2 a3 l0 (l0.length : Int) x13_1 = some r) ∧ Qbm (kq ≤ k) ∧ Qbm (Below w.heap.size w w'))
 case atStart => exact ⟨(0), eR, H', ⟨Nat.le_refl _⟩, ⟨BU HB.out⟩⟩
 case round =>
  clear H'
  obtain ⟨x13_1, rfl, HA, HK1, HB⟩ := hrel
  cases gk with
  | zero => exact absurd HA.out (by simp [Qaq.l0])
  | succ k1 =>
   have H := HA.out
   clear HA
   simp only [Qaq.l0] at H
   by_cases c5 : x13_1 < (l0.length : Int)
   rotate_left
   ·rw [if_neg c5] at H
    have c5b0 := decide_eq_false c5
    clear c5
    obtain rfl := Option.some.inj H
    go_wp2
    go_ret
    exact ⟨oR, BU HB.out⟩
   rw [if_pos c5] at H
   have c5b0 := decide_eq_true c5
   clear c5
   by_cases c6 : 0 ≤ x13_1
   rotate_left
   ·rw [if_neg c6] at H
    exact absurd H (by simp)
   rw [if_pos c6] at H
   have c6b0 := decide_eq_true c6
   clear c6
   by_cases c7 : x13_1 < (l0.length : Int)
   rotate_left
   ·rw [if_neg c7] at H
    exact absurd H (by simp)
   rw [if_pos c7] at H
   have c7b0 := decide_eq_true c7
   clear c7
   have HC8 := As0 H
   clear H
   have p187 : 0 ≤ (x13_1 : Int) := qR
   have q187 : x13_1 < (l0.length : Int) := qR
   obtain ⟨ad187, e187, hx187_0, hx187_1⟩ := Qcq HR0.out x13_1 p187 q187
   cases e187
   replace hx187_0 := cl HB hx187_0
   replace hx187_1 := cl HB hx187_1
   replace p187 := eq_true p187
   replace q187 := eq_true q187
   go_upto_region 4 with (first | ((with_reducible refine Qbn (N := 10) rfl ?_); refine bX (N := 10) (cs := #[.int .i64 0, .int .i64 0]) (t := 47) ?_; intro gb188 hg w9 hbox hb; have BK188 := As0 (hbox); have GW188 := gW hg HB.out; have GE188 := GW188; replace HB := As0 (Qbj (BU HB.out) hb); clear hb hbox hg; obtain ⟨z10_0, z10_1, y_10_0, y_10_1⟩ := cN2 BK188.out))
   (try simp only [Act.put, sL1, sL2, sL3])
   go_cut [18] (fun v18 wc => ∃ (kq : Nat) (x18_7 : Bool), v18 = .bool x18_7 ∧ Qbm (Qaq.j1 kq l0 a1 a2 a3 x13_1 l0 (l0.length : Int) x13_1 x18_7 ((Qaa l0 x13_1).f0) ((Qaa l0 x13_1).f1) = some r) ∧ Qbm (kq ≤ k1) ∧ Qbm (wc.heap[gb188]? = some (.cells #[.int .i64 ((Qaa l0 x13_1).f0), .int .i64 ((Qaa l0 x13_1).f1)] 47 (0, 0))) ∧ Qbm (Below w.heap.size w wc))
   case first =>
    have H := HC8.out
    clear HC8
    by_cases c11 : ((Qaa l0 x13_1).f0) < 0
    rotate_left
    ·rw [if_neg c11] at H
     have c11b0 := decide_eq_false c11
     clear c11
     (first | rw [c11b0] | (simp only [Qbw, Qbx]; rw [c11b0]) | skip)
     have H' := As0 H
     clear H
     obtain ⟨z13_0, z13_1, y_13_0, y_13_1⟩ := cN2 BK188.out
     go_wp2
     go_meet
     case rel => exact ⟨_, (decide (((Qaa l0 x13_1).f0) ≥ a1)), eR, H', ⟨by have := HK1.out; first | omega | exact Nat.le_refl _⟩, ⟨kV BK188⟩, ⟨BU HB.out⟩⟩
    rw [if_pos c11] at H
    have c11b0 := decide_eq_true c11
    clear c11
    (first | rw [c11b0] | (simp only [Qbw, Qbx]; rw [c11b0]) | skip)
    have H' := As0 H
    clear H
    obtain ⟨z12_0, z12_1, y_12_0, y_12_1⟩ := cN2 BK188.out
    go_wp2
    go_meet
    case rel => exact ⟨_, (true), eR, H', ⟨by have := HK1.out; first | omega | exact Nat.le_refl _⟩, ⟨kV BK188⟩, ⟨BU HB.out⟩⟩
   case rest =>
    clear HC8
    obtain ⟨kq, x18_7, rfl, HA, HJ7, BK188, HB⟩ := hcut
    cases kq with
    | zero => exact absurd HA.out (by simp [Qaq.j1])
    | succ kj7 =>
     have H := HA.out
     clear HA
     simp only [Qaq.j1] at H
     by_cases c14 : x18_7 = true
     ·subst c14
      rw [if_pos rfl] at H
      obtain rfl := Option.some.inj H
      go_wp2
      go_ret
      exact ⟨oR, BU HB.out⟩
     replace c14 := Bool.eq_false_iff.mpr c14
     subst c14
     rw [if_neg bF] at H
     replace H := Option.bind_eq_some_iff.mp H
     obtain ⟨t189, A150, H⟩ := H
     have A15 := As0 A150
     clear A150
     by_cases c16 : t189 = true
     rotate_left
     ·replace c16 := Bool.eq_false_iff.mpr c16
      subst c16
      rw [if_neg bF] at H
      obtain rfl := Option.some.inj H
      obtain ⟨z28_0, z28_1, y_28_0, y_28_1⟩ := cN2 BK188.out
      go_wp2_with (first | ((with_reducible refine Qbq (f := 138) rfl ?_); refine gL (some 33) Tryz.func138 #[.int .i64 ((Qaa l0 x13_1).f1), .int .i64 a2, .int .i64 a3] ?_; (with_reducible refine (Qa9.calls ((Qaa l0 x13_1).f1) a2 a3 false _ A15.out).mono ?_); rintro e w' ⟨rfl, ⟨nd, rfl⟩⟩; refine ⟨_, rfl, ?_⟩))
      go_ret
      exact ⟨oR, BU HB.out⟩
     subst c16
     rw [if_pos rfl] at H
     have HC17 := As0 H
     clear H
     obtain ⟨z18_0, z18_1, y_18_0, y_18_1⟩ := cN2 BK188.out
     go_upto_region 8 with (first | ((with_reducible refine Qbq (f := 138) rfl ?_); refine gL (some 33) Tryz.func138 #[.int .i64 ((Qaa l0 x13_1).f1), .int .i64 a2, .int .i64 a3] ?_; (with_reducible refine (Qa9.calls ((Qaa l0 x13_1).f1) a2 a3 true _ A15.out).mono ?_); rintro e w' ⟨rfl, ⟨nd, rfl⟩⟩; refine ⟨_, rfl, ?_⟩))
     (try simp only [Act.put, sL1, sL2, sL3])
     go_cut [35] (fun v35 wc => ∃ (kq : Nat) (x35_16 : Bool), v35 = .bool x35_16 ∧ Qbm (Qaq.j2 kq l0 a1 a2 a3 l0 (l0.length : Int) x13_1 x35_16 = some r) ∧ Qbm (kq ≤ kj7) ∧ Qbm (wc.heap[gb188]? = some (.cells #[.int .i64 ((Qaa l0 x13_1).f0), .int .i64 ((Qaa l0 x13_1).f1)] 47 (0, 0))) ∧ Qbm (Below w.heap.size w wc))
     case first =>
      have H := HC17.out
      clear HC17
      by_cases c19 : x13_1 > 0
      rotate_left
      ·rw [if_neg c19] at H
       have c19b0 := decide_eq_false c19
       clear c19
       (first | rw [c19b0] | (simp only [Qbw, Qbx]; rw [c19b0]) | skip)
       have H' := As0 H
       clear H
       try go_wp2
       have m0_ := As0 (blk_drewN BK188.out nd)
       have m1_ := As0 (bdN HB.out nd)
       clear BK188 HB
       have BK188 := m0_
       have HB := m1_
       clear m0_ m1_
       generalize wc.drewN nd = wd at BK188 HB ⊢
       replace BK188 := As0 (Qbu BK188.out)
       replace HB := As0 (bd1 HB.out)
       refine Qcd (n := 13) (S := fun w' => True) (ds := []) (bb 13 0) (by kernel_rfl) rfl rfl trivial (fun hHeld => ?_); refine Qcf Qaq.tab8 Qaq.bits8 (fun HT_ HW_ => ?_)
       generalize wd.drew = w26 at BK188 HB hHeld ⊢
       refine pv HT_.out 0 36 (bb 13 1) ?_
       refine pv HT_.out 1 37 (bb 13 3) ?_
       refine pv HT_.out 2 38 (bb 13 7) ?_
       refine py HT_.out 3 39 (bb 13 15) ?_
       refine py HT_.out 4 40 (bb 13 31) ?_
       refine py HT_.out 5 41 (bb 13 63) ?_
       refine py HT_.out 6 42 (bb 13 127) ?_
       refine py HT_.out 7 43 (bb 13 255) ?_
       refine py HT_.out 8 44 (bb 13 511) ?_
       refine py HT_.out 9 45 (bb 13 1023) ?_
       refine py HT_.out 10 46 (bb 13 2047) ?_
       refine pv HT_.out 11 47 (bb 13 4095) ?_
       refine pv HT_.out 12 35 (bb 13 8191) ?_
       refine Qc0 (Qct HT_.out (by kernel_rfl)) ?_
       try go_wp2
       go_meet
       case rel => exact ⟨_, (false), eR, H', ⟨by have := HK1.out; have := HJ7.out; first | omega | exact Nat.le_refl _⟩, ⟨bU BK188.out⟩, ⟨BU HB.out⟩⟩
      rw [if_pos c19] at H
      have c19b0 := decide_eq_true c19
      clear c19
      (first | rw [c19b0] | (simp only [Qbw, Qbx]; rw [c19b0]) | skip)
      obtain ⟨ji20, hji20⟩ : ∃ j_ : Int, (wrap64 (x13_1 - 1)) = j_ := ⟨_, rfl⟩
      replace H : (if 0 ≤ (ji20) then (if (ji20) < (l0.length : Int) then ((Qa3.f ((Qaa l0 (ji20)).f0) ((Qaa l0 (ji20)).f1) ((Qaa l0 x13_1).f0) ((Qaa l0 x13_1).f1)).bind fun t191 => (Qaq.j2 kj7 l0 a1 a2 a3 l0 (l0.length : Int) x13_1 (!t191))) else (none)) else (none)) = some r := by first | (rw [hji20] at H; exact H) | (simp only [hji20] at H ⊢; exact H)
      have hji20w : (IntKind.i64.wrap (x13_1 - 1)) = ji20 := (Qbw _).trans hji20
      by_cases c21 : 0 ≤ (ji20)
      rotate_left
      ·rw [if_neg c21] at H
       exact absurd H (by simp)
      rw [if_pos c21] at H
      have c21b0 := decide_eq_true c21
      clear c21
      by_cases c22 : (ji20) < (l0.length : Int)
      rotate_left
      ·rw [if_neg c22] at H
       exact absurd H (by simp)
      rw [if_pos c22] at H
      have c22b0 := decide_eq_true c22
      clear c22
      replace H := Option.bind_eq_some_iff.mp H
      obtain ⟨t191, A230, H⟩ := H
      have A23 := As0 A230
      clear A230
      have H' := As0 H
      clear H
      try go_wp2
      have m0_ := As0 (blk_drewN BK188.out nd)
      have m1_ := As0 (bdN HB.out nd)
      clear BK188 HB
      have BK188 := m0_
      have HB := m1_
      clear m0_ m1_
      generalize wc.drewN nd = wd at BK188 HB ⊢
      replace BK188 := As0 (Qbu BK188.out)
      replace HB := As0 (bd1 HB.out)
      have p190 : 0 ≤ ((ji20) : Int) := qR
      have q190 : (ji20) < (l0.length : Int) := qR
      obtain ⟨ad190, e190, hx190_0, hx190_1⟩ := Qcq HR0.out (ji20) p190 q190
      have hw190_1 := hx190_1
      have hw190_0 := hx190_0
      obtain rfl : ad187 = ad190 := (by injection e190)
      replace hx190_0 := cl HB hx190_0
      replace hx190_1 := cl HB hx190_1
      replace p190 := eq_true p190
      replace q190 := eq_true q190
      refine Qcd (n := 13) (S := fun w' => w'.cell? ⟨gb188, 0, none⟩ = some (.int .i64 ((Qaa l0 x13_1).f0)) ∧ w'.cell? ⟨gb188, 1, none⟩ = some (.int .i64 ((Qaa l0 x13_1).f1)) ∧ w'.cell? (ad187.add (((ji20)).toNat * 2)) = some (.int .i64 ((Qaa l0 (ji20)).f0)) ∧ w'.cell? ⟨(ad187.add (((ji20)).toNat * 2)).block, (ad187.add (((ji20)).toNat * 2)).off + 1, none⟩ = some (.int .i64 ((Qaa l0 (ji20)).f1))) (ds := []) (bb 13 0) (by kernel_rfl) rfl rfl ⟨bc BK188 0, bc BK188 1, (cl HB hw190_0), (cl HB hw190_1)⟩ (fun hHeld => ?_); refine Qcf Qaq.tab8 Qaq.bits8 (fun HT_ HW_ => ?_)
      generalize wd.drew = w24 at BK188 HB hx190_0 hx190_1 hHeld ⊢
      refine pv HT_.out 0 36 (bb 13 1) ?_
      refine pv HT_.out 1 37 (bb 13 3) ?_
      refine pv HT_.out 2 38 (bb 13 7) ?_
      refine pv HT_.out 3 39 (bb 13 15) ?_
      refine pv HT_.out 4 40 (bb 13 31) ?_
      refine pv HT_.out 5 41 (bb 13 63) ?_
      refine pv HT_.out 6 42 (bb 13 127) ?_
      refine tv hHeld HT_.out HW_.out 7 43 (bb 13 255) ?_
      refine tv hHeld HT_.out HW_.out 8 44 (bb 13 511) ?_
      refine one_ (i := 9) (N := some 45) (bb 13 1023) rfl rfl (Qcl HT_.out (by kernel_rfl)) (by decide) (fun K hK => ?_)
      refine Qcz Tryz.func122 (by kernel_rfl) rfl #[.agg #[.int .i64 ((Qaa l0 (ji20)).f0), .int .i64 ((Qaa l0 (ji20)).f1)], .agg #[.int .i64 ((Qaa l0 x13_1).f0), .int .i64 ((Qaa l0 x13_1).f1)]] (by rfl) rfl rfl (by (try simp only [List.map_toArray, List.map_cons, List.map_nil]); first | done | (simp only [hji20]; rfl) | rfl | (simp only [List.length_drop, List.length_take]; rfl)) ?_
      with_reducible refine (Qa3.calls ((Qaa l0 (ji20)).f0) ((Qaa l0 (ji20)).f1) ((Qaa l0 x13_1).f0) ((Qaa l0 x13_1).f1) t191 _ A23.out).mono ?_
      rintro e w25 ⟨rfl, hb⟩
      refine ⟨_, rfl, ?_⟩
      replace BK188 := kB BK188 hb
      replace HB := As0 (Qbj (BU HB.out) hb)
      (try clear hb)
      (try clear hb2)
      (try clear hk)
      (try clear hi)
      refine hK.out _ _ ⟨bc BK188 0, bc BK188 1, (cl HB hw190_0), (cl HB hw190_1)⟩ (fun hHeld => ?_)
      clear hK K
      refine Qb5 (a' := ?_) ?_ ?_
      rotate_left
      ·show Act.put _ (some 45) _ = _
       simp only [Act.put, sL1, sL2, sL3, Qbw, Qbx]
       rfl
      refine pv HT_.out 10 46 (bb 13 2047) ?_
      refine pv HT_.out 11 47 (bb 13 4095) ?_
      refine pv HT_.out 12 35 (bb 13 8191) ?_
      refine Qc0 (Qct HT_.out (by kernel_rfl)) ?_
      try go_wp2
      go_meet
      case rel => exact ⟨_, (!t191), eR, H', ⟨by have := HK1.out; have := HJ7.out; first | omega | exact Nat.le_refl _⟩, ⟨bU BK188.out⟩, ⟨BU HB.out⟩⟩
     case rest =>
      clear HC17
      obtain ⟨kq, x35_16, rfl, HA, HJ16, BK188, HB⟩ := hcut
      cases kq with
      | zero => exact absurd HA.out (by simp [Qaq.j2])
      | succ kj16 =>
       have H := HA.out
       clear HA
       simp only [Qaq.j2] at H
       by_cases c27 : x35_16 = true
       ·subst c27
        rw [if_pos rfl] at H
        obtain rfl := Option.some.inj H
        go_wp2
        go_ret
        exact ⟨oR, BU HB.out⟩
       replace c27 := Bool.eq_false_iff.mpr c27
       subst c27
       rw [if_neg bF] at H
       have H' := As0 H
       clear H
       go_wp2
       go_roundg kj16
       case measure => have := HK1.out; have := HJ7.out; have := HJ16.out; omega
       case rel => exact ⟨(wrap64 (x13_1 + 1)), eR, H', ⟨by have := HK1.out; have := HJ7.out; have := HJ16.out; omega⟩, ⟨BU HB.out⟩⟩
def edge_Valid.l0 : Nat → Int → Int → Int → List (List (S47)) → Int → Int → Option (Int)
 | 0, _, _, _, _, _, _ => none
 | k + 1, x2, x3, x4, x23, x24, x25 => if x25 < x24 then (if 0 ≤ x25 then (if x25 < (x23.length : Int) then ((Qaq.f k (Qa4 x23 x25) x2 x3 x4).bind fun t194 => (if t194 = 0 then (edge_Valid.l0 k x2 x3 x4 x23 x24 (wrap64 (x25 + 1))) else (some t194))) else (none)) else (none)) else (some 0)
def edge_Valid.f (k : Nat) (l0 : List (List (S47))) (a1 : Int) (a2 : Int) (a3 : Int) (a4 : Int) : Option (Int) := if (l0.length : Int) = a1 then ((edge_total.f k l0).bind fun t192 => (if t192 > 1048576 then (some 6) else (edge_Valid.l0 k a2 a3 a4 l0 (l0.length : Int) 0))) else (some 14)
theorem edge_Valid.calls (k : Nat) (A0 : Option Addr) (c0 : Nat) (l0 : List (List (S47))) (a1 : Int) (a2 : Int) (a3 : Int) (a4 : Int) (r : Int) (w : World) (hr0 : Kd.C (Kd.slice 47 k47) w A0 l0.length l0) (hc0 : l0.length ≤ c0) (h : edge_Valid.f k l0 a1 a2 a3 a4 = some r) :
  Calls Tryz.prog 61 #[.slice A0 l0.length c0, .int .i64 a1, .int .i64 a2, .int .i64 a3, .int .i64 a4] w fun e w' => e = .returned (.int .i64 r) ∧ Below w.heap.size w w' := by
 have HR0 := As0 hr0
 have HC0 := As0 hc0
 clear hr0 hc0
 have HB := As0 (Below.refl w.heap.size w)
 have H : (if (l0.length : Int) = a1 then ((edge_total.f k l0).bind fun t192 => (if t192 > 1048576 then (some 6) else (edge_Valid.l0 k a2 a3 a4 l0 (l0.length : Int) 0))) else (some 14)) = some r := h
 clear h
 by_cases c6 : (l0.length : Int) = a1
 rotate_left
 ·rw [if_neg c6] at H
  have c6b0 : ((l0.length : Int) == a1) = false := beq_eq_false_iff_ne.mpr c6
  have c6b1 : ((l0.length : Int) != a1) = true := bne_iff_ne.mpr c6
  obtain rfl := Option.some.inj H
  go_enter Tryz.func61, Tryz.ntmps61
  go_wp2
  go_ret
  exact ⟨oR, BU HB.out⟩
 rw [if_pos c6] at H
 have c6b0 : ((l0.length : Int) == a1) = true := beq_iff_eq.mpr c6
 have c6b1 : ((l0.length : Int) != a1) = false := bne_eq_false_iff_eq.mpr c6
 clear c6
 replace H := Option.bind_eq_some_iff.mp H
 obtain ⟨t192, A70, H⟩ := H
 have A7 := As0 A70
 clear A70
 by_cases c8 : t192 > 1048576
 ·rw [if_pos c8] at H
  have c8b0 := decide_eq_true c8
  clear c8
  obtain rfl := Option.some.inj H
  go_enter Tryz.func61, Tryz.ntmps61
  go_wp2_with (first | ((with_reducible refine Qbq (f := 107) rfl ?_); refine gL (some 21) Tryz.func107 #[.slice A0 l0.length c0] ?_; (with_reducible refine (edge_total.calls k _ _ l0 t192 _ ?side1 ?side2 A7.out).mono ?_); (case side1 => repeat (first | exact HR0.out | (with_reducible refine Kd.C_alloc ?_ _) | (with_reducible refine Kd.C_drewN ?_ _) | (with_reducible refine Kd.C_drew ?_))); (case side2 => exact HC0.out); rintro e w' ⟨rfl, ⟨nd, rfl⟩⟩; refine ⟨_, rfl, ?_⟩))
  go_ret
  exact ⟨oR, BU HB.out⟩
 rw [if_neg c8] at H
 have c8b0 := decide_eq_false c8
 clear c8
 have H' := As0 H
 clear H
 go_enter Tryz.func61, Tryz.ntmps61
 go_wp2_with (first | ((with_reducible refine Qbq (f := 107) rfl ?_); refine gL (some 21) Tryz.func107 #[.slice A0 l0.length c0] ?_; (with_reducible refine (edge_total.calls k _ _ l0 t192 _ ?side1 ?side2 A7.out).mono ?_); (case side1 => repeat (first | exact HR0.out | (with_reducible refine Kd.C_alloc ?_ _) | (with_reducible refine Kd.C_drewN ?_ _) | (with_reducible refine Kd.C_drew ?_))); (case side2 => exact HC0.out); rintro e w' ⟨rfl, ⟨nd, rfl⟩⟩; refine ⟨_, rfl, ?_⟩))
 go_loopg [25] k (fun kq v25 w' => ∃ (x25_1 : Int), v25 = .int .i64 x25_1 ∧ Qbm (edge_Valid.l0 kq a2 a3 a4 l0 (l0.length : Int) x25_1 = some r) ∧ Qbm (kq ≤ k) ∧ Qbm (Below w.heap.size w w'))
 case atStart => exact ⟨(0), eR, H', ⟨Nat.le_refl _⟩, ⟨BU HB.out⟩⟩
 case round =>
  clear H'
  obtain ⟨x25_1, rfl, HA, HK1, HB⟩ := hrel
  cases gk with
  | zero => exact absurd HA.out (by simp [edge_Valid.l0])
  | succ k1 =>
   have H := HA.out
   clear HA
   simp only [edge_Valid.l0] at H
   by_cases c9 : x25_1 < (l0.length : Int)
   rotate_left
   ·rw [if_neg c9] at H
    have c9b0 := decide_eq_false c9
    clear c9
    obtain rfl := Option.some.inj H
    go_wp2
    go_ret
    exact ⟨oR, BU HB.out⟩
   rw [if_pos c9] at H
   have c9b0 := decide_eq_true c9
   clear c9
   by_cases c10 : 0 ≤ x25_1
   rotate_left
   ·rw [if_neg c10] at H
    exact absurd H (by simp)
   rw [if_pos c10] at H
   have c10b0 := decide_eq_true c10
   clear c10
   by_cases c11 : x25_1 < (l0.length : Int)
   rotate_left
   ·rw [if_neg c11] at H
    exact absurd H (by simp)
   rw [if_pos c11] at H
   have c11b0 := decide_eq_true c11
   clear c11
   replace H := Option.bind_eq_some_iff.mp H
   obtain ⟨t194, A120, H⟩ := H
   have A12 := As0 A120
   clear A120
   by_cases c13 : t194 = 0
   rotate_left
   ·rw [if_neg c13] at H
    have c13b0 : (t194 == 0) = false := beq_eq_false_iff_ne.mpr c13
    have c13b1 : (t194 != 0) = true := bne_iff_ne.mpr c13
    obtain rfl := Option.some.inj H
    have p193 : 0 ≤ (x25_1 : Int) := qR
    have q193 : x25_1 < (l0.length : Int) := qR
    obtain ⟨ad193, A193_0, c193_0, e193, hx193_0, hl193_0, hi193_0⟩ := Qeb HR0.out x25_1 p193 q193
    cases e193
    replace hx193_0 := cl HB hx193_0
    have HR193_0 := As0 hi193_0
    have HC193_0 := As0 hl193_0
    clear hi193_0 hl193_0
    replace p193 := eq_true p193
    replace q193 := eq_true q193
    go_wp2_with (first | ((with_reducible refine Qbq (f := 108) rfl ?_); refine gL (some 33) Tryz.func108 #[.slice A193_0 (Qa4 l0 x25_1).length c193_0, .int .i64 a2, .int .i64 a3, .int .i64 a4] ?_; (with_reducible refine (Qaq.calls k1 _ _ (Qa4 l0 x25_1) a2 a3 a4 t194 _ ?side1 ?side2 A12.out).mono ?_); (case side1 => exact CU (Kd.C_below HR193_0.out HB.out)); (case side2 => exact HC193_0.out); rintro e w15 ⟨rfl, hb⟩; refine ⟨_, rfl, ?_⟩; replace HB := As0 (Qbj (BU HB.out) hb); (try clear hb)))
    go_ret
    exact ⟨oR, BU HB.out⟩
   rw [if_pos c13] at H
   have c13b0 : (t194 == 0) = true := beq_iff_eq.mpr c13
   have c13b1 : (t194 != 0) = false := bne_eq_false_iff_eq.mpr c13
   clear c13
   have H' := As0 H
   clear H
   have p193 : 0 ≤ (x25_1 : Int) := qR
   have q193 : x25_1 < (l0.length : Int) := qR
   obtain ⟨ad193, A193_0, c193_0, e193, hx193_0, hl193_0, hi193_0⟩ := Qeb HR0.out x25_1 p193 q193
   cases e193
   replace hx193_0 := cl HB hx193_0
   have HR193_0 := As0 hi193_0
   have HC193_0 := As0 hl193_0
   clear hi193_0 hl193_0
   replace p193 := eq_true p193
   replace q193 := eq_true q193
   go_wp2_with (first | ((with_reducible refine Qbq (f := 108) rfl ?_); refine gL (some 33) Tryz.func108 #[.slice A193_0 (Qa4 l0 x25_1).length c193_0, .int .i64 a2, .int .i64 a3, .int .i64 a4] ?_; (with_reducible refine (Qaq.calls k1 _ _ (Qa4 l0 x25_1) a2 a3 a4 t194 _ ?side1 ?side2 A12.out).mono ?_); (case side1 => exact CU (Kd.C_below HR193_0.out HB.out)); (case side2 => exact HC193_0.out); rintro e w14 ⟨rfl, hb⟩; refine ⟨_, rfl, ?_⟩; replace HB := As0 (Qbj (BU HB.out) hb); (try clear hb)))
   go_roundg k1
   case measure => have := HK1.out; omega
   case rel => exact ⟨(wrap64 (x25_1 + 1)), eR, H', ⟨by have := HK1.out; omega⟩, ⟨BU HB.out⟩⟩
def Qba.j0 : Nat → Bool → Int → Int → List (S39) → Int → Int → Int → List (S57) → List (List (S47)) → Option (Int)
 | 0, _, _, _, _, _, _, _, _, _ => none
 | k + 1, x34, x196000, x196001, x196002, x196003, x196004, x196005, x196006, x196007 => if x34 = true then (some 14) else ((edge_Valid.f k x196007 (x196002.length : Int) x196001 x196004 x196005).bind fun t198 => (some t198))
def Qba.f (k : Nat) (a0_0 : Int) (a0_1 : Int) (l0_2 : List (S39)) (a0_3 : Int) (a0_4 : Int) (a0_5 : Int) (l0_6 : List (S57)) (l0_7 : List (List (S47))) : Option (Int) := (Qa0.f k a0_0 a0_1 l0_2).bind fun t196 => (if t196 = 0 then ((Qag.f k a0_3 a0_4 a0_5 l0_6).bind fun t197 => (if t197 = 0 then (if (l0_2.length : Int) = (l0_6.length : Int) then (Qba.j0 k (a0_0 != a0_3) a0_0 a0_1 l0_2 a0_3 a0_4 a0_5 l0_6 l0_7) else (Qba.j0 k true a0_0 a0_1 l0_2 a0_3 a0_4 a0_5 l0_6 l0_7)) else (some t197))) else (some t196))
theorem Qba.calls (k : Nat) (a0_0 : Int) (a0_1 : Int) (A0_2 : Option Addr) (c0_2 : Nat) (l0_2 : List (S39)) (a0_3 : Int) (a0_4 : Int) (a0_5 : Int) (A0_6 : Option Addr) (c0_6 : Nat) (l0_6 : List (S57)) (A0_7 : Option Addr) (c0_7 : Nat) (l0_7 : List (List (S47))) (r : Int) (w : World) (hr0_2 : Kd.C k39 w A0_2 l0_2.length l0_2) (hc0_2 : l0_2.length ≤ c0_2) (hr0_6 : Kd.C k57 w A0_6 l0_6.length l0_6) (hc0_6 : l0_6.length ≤ c0_6) (hr0_7 : Kd.C (Kd.slice 47 k47) w A0_7 l0_7.length l0_7) (hc0_7 : l0_7.length ≤ c0_7) (h : Qba.f k a0_0 a0_1 l0_2 a0_3 a0_4 a0_5 l0_6 l0_7 = some r) :
  Calls Tryz.prog 31 #[.agg #[.int .i64 a0_0, .int .i64 a0_1, .slice A0_2 l0_2.length c0_2, .int .i64 a0_3, .int .i64 a0_4, .int .i64 a0_5, .slice A0_6 l0_6.length c0_6, .slice A0_7 l0_7.length c0_7]] w fun e w' => e = .returned (.int .i64 r) ∧ Below w.heap.size w w' := by
 have hu30 := Tryz.underlying30
 have hu24 := Tryz.underlying24
 have hu27 := Tryz.underlying27
 have HR0_2 := As0 hr0_2
 have HC0_2 := As0 hc0_2
 clear hr0_2 hc0_2
 have HR0_6 := As0 hr0_6
 have HC0_6 := As0 hc0_6
 clear hr0_6 hc0_6
 have HR0_7 := As0 hr0_7
 have HC0_7 := As0 hc0_7
 clear hr0_7 hc0_7
 have HB := As0 (Below.refl w.heap.size w)
 have H : ((Qa0.f k a0_0 a0_1 l0_2).bind fun t196 => (if t196 = 0 then ((Qag.f k a0_3 a0_4 a0_5 l0_6).bind fun t197 => (if t197 = 0 then (if (l0_2.length : Int) = (l0_6.length : Int) then (Qba.j0 k (a0_0 != a0_3) a0_0 a0_1 l0_2 a0_3 a0_4 a0_5 l0_6 l0_7) else (Qba.j0 k true a0_0 a0_1 l0_2 a0_3 a0_4 a0_5 l0_6 l0_7)) else (some t197))) else (some t196))) = some r := h
 clear h
 replace H := Option.bind_eq_some_iff.mp H
 obtain ⟨t196, A20, H⟩ := H
 have A2 := As0 A20
 clear A20
 by_cases c3 : t196 = 0
 rotate_left
 ·rw [if_neg c3] at H
  have c3b0 : (t196 == 0) = false := beq_eq_false_iff_ne.mpr c3
  have c3b1 : (t196 != 0) = true := bne_iff_ne.mpr c3
  obtain rfl := Option.some.inj H
  go_enter Tryz.func31, Tryz.ntmps31
  go_wp2_with (first | ((with_reducible refine Qbn (N := 1) rfl ?_); refine bX (N := 1) (cs := #[.int .i64 a0_0, .int .i64 a0_1, .slice A0_2 l0_2.length c0_2, .int .i64 a0_3, .int .i64 a0_4, .int .i64 a0_5, .slice A0_6 l0_6.length c0_6, .slice A0_7 l0_7.length c0_7]) (t := 30) ?_; intro gb195 hg w24 hbox hb; have BK195 := As0 (hbox); have GW195 := gW hg HB.out; have GE195 := GW195; replace HB := As0 (Qbj (BU HB.out) hb); clear hb hbox hg; obtain ⟨z25_0, z25_1, z25_2, z25_3, z25_4, z25_5, z25_6, z25_7, y_25_0, y_25_1, y_25_2, y_25_3, y_25_4, y_25_5, y_25_6, y_25_7⟩ := cN8 BK195.out) | ((with_reducible refine Qbq (f := 59) rfl ?_); refine gL (some 7) Tryz.func59 #[.agg #[.int .i64 a0_0, .int .i64 a0_1, .slice A0_2 l0_2.length c0_2]] ?_; (with_reducible refine (Qa0.calls k a0_0 a0_1 _ _ l0_2 t196 _ ?side1 ?side2 A2.out).mono ?_); (case side1 => exact CU (Kd.C_below HR0_2.out HB.out)); (case side2 => exact HC0_2.out); rintro e w26 ⟨rfl, hb⟩; refine ⟨_, rfl, ?_⟩; replace BK195 := kB BK195 hb; replace HB := As0 (Qbj (BU HB.out) hb); (try clear hb)))
  go_ret
  exact ⟨oR, BU HB.out⟩
 rw [if_pos c3] at H
 have c3b0 : (t196 == 0) = true := beq_iff_eq.mpr c3
 have c3b1 : (t196 != 0) = false := bne_eq_false_iff_eq.mpr c3
 clear c3
 replace H := Option.bind_eq_some_iff.mp H
 obtain ⟨t197, A40, H⟩ := H
 have A4 := As0 A40
 clear A40
 by_cases c5 : t197 = 0
 rotate_left
 ·rw [if_neg c5] at H
  have c5b0 : (t197 == 0) = false := beq_eq_false_iff_ne.mpr c5
  have c5b1 : (t197 != 0) = true := bne_iff_ne.mpr c5
  obtain rfl := Option.some.inj H
  go_enter Tryz.func31, Tryz.ntmps31
  go_wp2_with (first | ((with_reducible refine Qbn (N := 1) rfl ?_); refine bX (N := 1) (cs := #[.int .i64 a0_0, .int .i64 a0_1, .slice A0_2 l0_2.length c0_2, .int .i64 a0_3, .int .i64 a0_4, .int .i64 a0_5, .slice A0_6 l0_6.length c0_6, .slice A0_7 l0_7.length c0_7]) (t := 30) ?_; intro gb195 hg w19 hbox hb; have BK195 := As0 (hbox); have GW195 := gW hg HB.out; have GE195 := GW195; replace HB := As0 (Qbj (BU HB.out) hb); clear hb hbox hg; obtain ⟨z20_0, z20_1, z20_2, z20_3, z20_4, z20_5, z20_6, z20_7, y_20_0, y_20_1, y_20_2, y_20_3, y_20_4, y_20_5, y_20_6, y_20_7⟩ := cN8 BK195.out) | ((with_reducible refine Qbq (f := 59) rfl ?_); refine gL (some 7) Tryz.func59 #[.agg #[.int .i64 a0_0, .int .i64 a0_1, .slice A0_2 l0_2.length c0_2]] ?_; (with_reducible refine (Qa0.calls k a0_0 a0_1 _ _ l0_2 t196 _ ?side1 ?side2 A2.out).mono ?_); (case side1 => exact CU (Kd.C_below HR0_2.out HB.out)); (case side2 => exact HC0_2.out); rintro e w21 ⟨rfl, hb⟩; refine ⟨_, rfl, ?_⟩; replace BK195 := kB BK195 hb; replace HB := As0 (Qbj (BU HB.out) hb); (try clear hb); obtain ⟨z22_0, z22_1, z22_2, z22_3, z22_4, z22_5, z22_6, z22_7, y_22_0, y_22_1, y_22_2, y_22_3, y_22_4, y_22_5, y_22_6, y_22_7⟩ := cN8 BK195.out) | ((with_reducible refine Qbq (f := 60) rfl ?_); refine gL (some 13) Tryz.func60 #[.agg #[.int .i64 a0_3, .int .i64 a0_4, .int .i64 a0_5, .slice A0_6 l0_6.length c0_6]] ?_; (with_reducible refine (Qag.calls k a0_3 a0_4 a0_5 _ _ l0_6 t197 _ ?side1 ?side2 A4.out).mono ?_); (case side1 => exact CU (Kd.C_below HR0_6.out HB.out)); (case side2 => exact HC0_6.out); rintro e w23 ⟨rfl, hb⟩; refine ⟨_, rfl, ?_⟩; replace BK195 := kB BK195 hb; replace HB := As0 (Qbj (BU HB.out) hb); (try clear hb)))
  go_ret
  exact ⟨oR, BU HB.out⟩
 rw [if_pos c5] at H
 have c5b0 : (t197 == 0) = true := beq_iff_eq.mpr c5
 have c5b1 : (t197 != 0) = false := bne_eq_false_iff_eq.mpr c5
 clear c5
 have HC6 := As0 H
 clear H
 go_enter Tryz.func31, Tryz.ntmps31
 go_upto_region 7 with (first | ((with_reducible refine Qbn (N := 1) rfl ?_); refine bX (N := 1) (cs := #[.int .i64 a0_0, .int .i64 a0_1, .slice A0_2 l0_2.length c0_2, .int .i64 a0_3, .int .i64 a0_4, .int .i64 a0_5, .slice A0_6 l0_6.length c0_6, .slice A0_7 l0_7.length c0_7]) (t := 30) ?_; intro gb195 hg w7 hbox hb; have BK195 := As0 (hbox); have GW195 := gW hg HB.out; have GE195 := GW195; replace HB := As0 (Qbj (BU HB.out) hb); clear hb hbox hg; obtain ⟨z8_0, z8_1, z8_2, z8_3, z8_4, z8_5, z8_6, z8_7, y_8_0, y_8_1, y_8_2, y_8_3, y_8_4, y_8_5, y_8_6, y_8_7⟩ := cN8 BK195.out) | ((with_reducible refine Qbq (f := 59) rfl ?_); refine gL (some 7) Tryz.func59 #[.agg #[.int .i64 a0_0, .int .i64 a0_1, .slice A0_2 l0_2.length c0_2]] ?_; (with_reducible refine (Qa0.calls k a0_0 a0_1 _ _ l0_2 t196 _ ?side1 ?side2 A2.out).mono ?_); (case side1 => exact CU (Kd.C_below HR0_2.out HB.out)); (case side2 => exact HC0_2.out); rintro e w9 ⟨rfl, hb⟩; refine ⟨_, rfl, ?_⟩; replace BK195 := kB BK195 hb; replace HB := As0 (Qbj (BU HB.out) hb); (try clear hb); obtain ⟨z10_0, z10_1, z10_2, z10_3, z10_4, z10_5, z10_6, z10_7, y_10_0, y_10_1, y_10_2, y_10_3, y_10_4, y_10_5, y_10_6, y_10_7⟩ := cN8 BK195.out) | ((with_reducible refine Qbq (f := 60) rfl ?_); refine gL (some 13) Tryz.func60 #[.agg #[.int .i64 a0_3, .int .i64 a0_4, .int .i64 a0_5, .slice A0_6 l0_6.length c0_6]] ?_; (with_reducible refine (Qag.calls k a0_3 a0_4 a0_5 _ _ l0_6 t197 _ ?side1 ?side2 A4.out).mono ?_); (case side1 => exact CU (Kd.C_below HR0_6.out HB.out)); (case side2 => exact HC0_6.out); rintro e w11 ⟨rfl, hb⟩; refine ⟨_, rfl, ?_⟩; replace BK195 := kB BK195 hb; replace HB := As0 (Qbj (BU HB.out) hb); (try clear hb)))
 (try simp only [Act.put, sL1, sL2, sL3])
 go_cut [34] (fun v34 wc => ∃ (kq : Nat) (x34_5 : Bool), v34 = .bool x34_5 ∧ Qbm (Qba.j0 kq x34_5 a0_0 a0_1 l0_2 a0_3 a0_4 a0_5 l0_6 l0_7 = some r) ∧ Qbm (kq ≤ k) ∧ Qbm (wc.heap[gb195]? = some (.cells #[.int .i64 a0_0, .int .i64 a0_1, (.slice A0_2 l0_2.length c0_2), .int .i64 a0_3, .int .i64 a0_4, .int .i64 a0_5, (.slice A0_6 l0_6.length c0_6), (.slice A0_7 l0_7.length c0_7)] 30 (0, 0))) ∧ Qbm (Below w.heap.size w wc))
 case first =>
  have H := HC6.out
  clear HC6
  by_cases c12 : (l0_2.length : Int) = (l0_6.length : Int)
  rotate_left
  ·rw [if_neg c12] at H
   have c12b0 : ((l0_2.length : Int) == (l0_6.length : Int)) = false := beq_eq_false_iff_ne.mpr c12
   have c12b1 : ((l0_2.length : Int) != (l0_6.length : Int)) = true := bne_iff_ne.mpr c12
   have c12b2 : (l0_2.length == l0_6.length) = false := by first | simpa using c12 | (simp at c12 ⊢; omega)
   (first | rw [c12b0] | (simp only [Qbw, Qbx]; rw [c12b0]) | skip)
   have H' := As0 H
   clear H
   obtain ⟨z14_0, z14_1, z14_2, z14_3, z14_4, z14_5, z14_6, z14_7, y_14_0, y_14_1, y_14_2, y_14_3, y_14_4, y_14_5, y_14_6, y_14_7⟩ := cN8 BK195.out
   go_wp2
   go_meet
   case rel => exact ⟨_, (true), eR, H', ⟨by first | omega | exact Nat.le_refl _⟩, ⟨bU BK195.out⟩, ⟨BU HB.out⟩⟩
  rw [if_pos c12] at H
  have c12b0 : ((l0_2.length : Int) == (l0_6.length : Int)) = true := beq_iff_eq.mpr c12
  have c12b1 : ((l0_2.length : Int) != (l0_6.length : Int)) = false := bne_eq_false_iff_eq.mpr c12
  have c12b2 : (l0_2.length == l0_6.length) = true := by first | simpa using c12 | (simp at c12 ⊢; omega)
  clear c12
  (first | rw [c12b0] | (simp only [Qbw, Qbx]; rw [c12b0]) | skip)
  have H' := As0 H
  clear H
  obtain ⟨z13_0, z13_1, z13_2, z13_3, z13_4, z13_5, z13_6, z13_7, y_13_0, y_13_1, y_13_2, y_13_3, y_13_4, y_13_5, y_13_6, y_13_7⟩ := cN8 BK195.out
  go_wp2
  go_meet
  case rel => exact ⟨_, ((a0_0 != a0_3)), eR, H', ⟨by first | omega | exact Nat.le_refl _⟩, ⟨bU BK195.out⟩, ⟨BU HB.out⟩⟩
 case rest =>
  clear HC6
  obtain ⟨kq, x34_5, rfl, HA, HJ5, BK195, HB⟩ := hcut
  cases kq with
  | zero => exact absurd HA.out (by simp [Qba.j0])
  | succ kj5 =>
   have H := HA.out
   clear HA
   simp only [Qba.j0] at H
   by_cases c15 : x34_5 = true
   ·subst c15
    rw [if_pos rfl] at H
    obtain rfl := Option.some.inj H
    go_wp2
    go_ret
    exact ⟨oR, BU HB.out⟩
   replace c15 := Bool.eq_false_iff.mpr c15
   subst c15
   rw [if_neg bF] at H
   replace H := Option.bind_eq_some_iff.mp H
   obtain ⟨t198, A160, H⟩ := H
   have A16 := As0 A160
   clear A160
   obtain rfl := Option.some.inj H
   obtain ⟨z17_0, z17_1, z17_2, z17_3, z17_4, z17_5, z17_6, z17_7, y_17_0, y_17_1, y_17_2, y_17_3, y_17_4, y_17_5, y_17_6, y_17_7⟩ := cN8 BK195.out
   go_wp2_with (first | ((with_reducible refine Qbq (f := 61) rfl ?_); refine gL (some 50) Tryz.func61 #[.slice A0_7 l0_7.length c0_7, .int .i64 (l0_2.length : Int), .int .i64 a0_1, .int .i64 a0_4, .int .i64 a0_5] ?_; (with_reducible refine (edge_Valid.calls kj5 _ _ l0_7 (l0_2.length : Int) a0_1 a0_4 a0_5 t198 _ ?side1 ?side2 A16.out).mono ?_); (case side1 => exact CU (Kd.C_below HR0_7.out HB.out)); (case side2 => exact HC0_7.out); rintro e w18 ⟨rfl, hb⟩; refine ⟨_, rfl, ?_⟩; replace BK195 := kB BK195 hb; replace HB := As0 (Qbj (BU HB.out) hb); (try clear hb)))
   go_ret
   exact ⟨oR, BU HB.out⟩
def edge_Initial.f (a0_0 : Int) (a0_1 : Int) (a1 : Int) : Option (Bool) := if a0_0 < a1 then ((location_Slot.f a0_0).bind fun t257 => (some (a0_1 == t257))) else ((Qav.f a0_1).bind fun t258 => (if t258 = true then ((Qbc.f a0_1).bind fun t259 => (some (decide (t259 ≥ a1)))) else (some true)))
theorem edge_Initial.calls (a0_0 : Int) (a0_1 : Int) (a1 : Int) (r : Bool) (w : World) (h : edge_Initial.f a0_0 a0_1 a1 = some r) :
  Calls Tryz.prog 109 #[.agg #[.int .i64 a0_0, .int .i64 a0_1], .int .i64 a1] w fun e w' => e = .returned (.bool r) ∧ Below w.heap.size w w' := by
 have hu47 := Tryz.underlying47
 have HB := As0 (Below.refl w.heap.size w)
 have H : (if a0_0 < a1 then ((location_Slot.f a0_0).bind fun t257 => (some (a0_1 == t257))) else ((Qav.f a0_1).bind fun t258 => (if t258 = true then ((Qbc.f a0_1).bind fun t259 => (some (decide (t259 ≥ a1)))) else (some true)))) = some r := h
 clear h
 by_cases c3 : a0_0 < a1
 ·rw [if_pos c3] at H
  have c3b0 := decide_eq_true c3
  clear c3
  replace H := Option.bind_eq_some_iff.mp H
  obtain ⟨t257, A40, H⟩ := H
  have A4 := As0 A40
  clear A40
  obtain rfl := Option.some.inj H
  go_enter Tryz.func109, Tryz.ntmps109
  go_wp2_with (first | ((with_reducible refine Qbn (N := 2) rfl ?_); refine bX (N := 2) (cs := #[.int .i64 a0_0, .int .i64 a0_1]) (t := 47) ?_; intro gb256 hg w5 hbox hb; have BK256 := As0 (hbox); have GW256 := gW hg HB.out; have GE256 := GW256; replace HB := As0 (Qbj (BU HB.out) hb); clear hb hbox hg; obtain ⟨z6_0, z6_1, y_6_0, y_6_1⟩ := cN2 BK256.out) | (go_at_call 151; (with_reducible refine (location_Slot.calls a0_0 t257 _ A4.out).mono ?_); rintro e w' ⟨rfl, ⟨nd, rfl⟩⟩; (try first | exact ⟨rfl, _, World.drewN_drewN _ _ _⟩ | exact ⟨rfl, _, Eq.trans (World.drewN_drewN _ _ _) (congrArg (World.drewN _) (Nat.add_assoc _ _ _))⟩)))
  repeat (go_quiet (first | ((with_reducible refine Qbn (N := 2) rfl ?_); refine bX (N := 2) (cs := #[.int .i64 a0_0, .int .i64 a0_1]) (t := 47) ?_; intro gb256 hg w5 hbox hb; have BK256 := As0 (hbox); have GW256 := gW hg HB.out; have GE256 := GW256; replace HB := As0 (Qbj (BU HB.out) hb); clear hb hbox hg; obtain ⟨z6_0, z6_1, y_6_0, y_6_1⟩ := cN2 BK256.out) | (go_at_call 151; (with_reducible refine (location_Slot.calls a0_0 t257 _ A4.out).mono ?_); rintro e w' ⟨rfl, ⟨nd, rfl⟩⟩; (try first | exact ⟨rfl, _, World.drewN_drewN _ _ _⟩ | exact ⟨rfl, _, Eq.trans (World.drewN_drewN _ _ _) (congrArg (World.drewN _) (Nat.add_assoc _ _ _))⟩))); try go_wp2_with (first | ((with_reducible refine Qbn (N := 2) rfl ?_); refine bX (N := 2) (cs := #[.int .i64 a0_0, .int .i64 a0_1]) (t := 47) ?_; intro gb256 hg w5 hbox hb; have BK256 := As0 (hbox); have GW256 := gW hg HB.out; have GE256 := GW256; replace HB := As0 (Qbj (BU HB.out) hb); clear hb hbox hg; obtain ⟨z6_0, z6_1, y_6_0, y_6_1⟩ := cN2 BK256.out) | (go_at_call 151; (with_reducible refine (location_Slot.calls a0_0 t257 _ A4.out).mono ?_); rintro e w' ⟨rfl, ⟨nd, rfl⟩⟩; (try first | exact ⟨rfl, _, World.drewN_drewN _ _ _⟩ | exact ⟨rfl, _, Eq.trans (World.drewN_drewN _ _ _) (congrArg (World.drewN _) (Nat.add_assoc _ _ _))⟩))))
  go_ret
  exact ⟨oR, BU HB.out⟩
 rw [if_neg c3] at H
 have c3b0 := decide_eq_false c3
 clear c3
 replace H := Option.bind_eq_some_iff.mp H
 obtain ⟨t258, A70, H⟩ := H
 have A7 := As0 A70
 clear A70
 by_cases c8 : t258 = true
 rotate_left
 ·replace c8 := Bool.eq_false_iff.mpr c8
  subst c8
  rw [if_neg bF] at H
  obtain rfl := Option.some.inj H
  go_enter Tryz.func109, Tryz.ntmps109
  go_wp2_with (first | ((with_reducible refine Qbn (N := 2) rfl ?_); refine bX (N := 2) (cs := #[.int .i64 a0_0, .int .i64 a0_1]) (t := 47) ?_; intro gb256 hg w12 hbox hb; have BK256 := As0 (hbox); have GW256 := gW hg HB.out; have GE256 := GW256; replace HB := As0 (Qbj (BU HB.out) hb); clear hb hbox hg; obtain ⟨z13_0, z13_1, y_13_0, y_13_1⟩ := cN2 BK256.out) | (go_at_call 135; (with_reducible refine (Qav.calls a0_1 false _ A7.out).mono ?_); rintro e w' ⟨rfl, ⟨nd, rfl⟩⟩; (try first | exact ⟨rfl, _, World.drewN_drewN _ _ _⟩ | exact ⟨rfl, _, Eq.trans (World.drewN_drewN _ _ _) (congrArg (World.drewN _) (Nat.add_assoc _ _ _))⟩)))
  repeat (go_quiet (first | ((with_reducible refine Qbn (N := 2) rfl ?_); refine bX (N := 2) (cs := #[.int .i64 a0_0, .int .i64 a0_1]) (t := 47) ?_; intro gb256 hg w12 hbox hb; have BK256 := As0 (hbox); have GW256 := gW hg HB.out; have GE256 := GW256; replace HB := As0 (Qbj (BU HB.out) hb); clear hb hbox hg; obtain ⟨z13_0, z13_1, y_13_0, y_13_1⟩ := cN2 BK256.out) | (go_at_call 135; (with_reducible refine (Qav.calls a0_1 false _ A7.out).mono ?_); rintro e w' ⟨rfl, ⟨nd, rfl⟩⟩; (try first | exact ⟨rfl, _, World.drewN_drewN _ _ _⟩ | exact ⟨rfl, _, Eq.trans (World.drewN_drewN _ _ _) (congrArg (World.drewN _) (Nat.add_assoc _ _ _))⟩))); try go_wp2_with (first | ((with_reducible refine Qbn (N := 2) rfl ?_); refine bX (N := 2) (cs := #[.int .i64 a0_0, .int .i64 a0_1]) (t := 47) ?_; intro gb256 hg w12 hbox hb; have BK256 := As0 (hbox); have GW256 := gW hg HB.out; have GE256 := GW256; replace HB := As0 (Qbj (BU HB.out) hb); clear hb hbox hg; obtain ⟨z13_0, z13_1, y_13_0, y_13_1⟩ := cN2 BK256.out) | (go_at_call 135; (with_reducible refine (Qav.calls a0_1 false _ A7.out).mono ?_); rintro e w' ⟨rfl, ⟨nd, rfl⟩⟩; (try first | exact ⟨rfl, _, World.drewN_drewN _ _ _⟩ | exact ⟨rfl, _, Eq.trans (World.drewN_drewN _ _ _) (congrArg (World.drewN _) (Nat.add_assoc _ _ _))⟩))))
  go_ret
  exact ⟨oR, BU HB.out⟩
 subst c8
 rw [if_pos rfl] at H
 replace H := Option.bind_eq_some_iff.mp H
 obtain ⟨t259, A90, H⟩ := H
 have A9 := As0 A90
 clear A90
 obtain rfl := Option.some.inj H
 go_enter Tryz.func109, Tryz.ntmps109
 go_wp2_with (first | ((with_reducible refine Qbn (N := 2) rfl ?_); refine bX (N := 2) (cs := #[.int .i64 a0_0, .int .i64 a0_1]) (t := 47) ?_; intro gb256 hg w10 hbox hb; have BK256 := As0 (hbox); have GW256 := gW hg HB.out; have GE256 := GW256; replace HB := As0 (Qbj (BU HB.out) hb); clear hb hbox hg; obtain ⟨z11_0, z11_1, y_11_0, y_11_1⟩ := cN2 BK256.out) | (go_at_call 135; (with_reducible refine (Qav.calls a0_1 true _ A7.out).mono ?_); rintro e w' ⟨rfl, ⟨nd, rfl⟩⟩; (try first | exact ⟨rfl, _, World.drewN_drewN _ _ _⟩ | exact ⟨rfl, _, Eq.trans (World.drewN_drewN _ _ _) (congrArg (World.drewN _) (Nat.add_assoc _ _ _))⟩)) | (go_at_call 152; (with_reducible refine (Qbc.calls a0_1 t259 _ A9.out).mono ?_); rintro e w' ⟨rfl, ⟨nd, rfl⟩⟩; (try first | exact ⟨rfl, _, World.drewN_drewN _ _ _⟩ | exact ⟨rfl, _, Eq.trans (World.drewN_drewN _ _ _) (congrArg (World.drewN _) (Nat.add_assoc _ _ _))⟩)))
 repeat (go_quiet (first | ((with_reducible refine Qbn (N := 2) rfl ?_); refine bX (N := 2) (cs := #[.int .i64 a0_0, .int .i64 a0_1]) (t := 47) ?_; intro gb256 hg w10 hbox hb; have BK256 := As0 (hbox); have GW256 := gW hg HB.out; have GE256 := GW256; replace HB := As0 (Qbj (BU HB.out) hb); clear hb hbox hg; obtain ⟨z11_0, z11_1, y_11_0, y_11_1⟩ := cN2 BK256.out) | (go_at_call 135; (with_reducible refine (Qav.calls a0_1 true _ A7.out).mono ?_); rintro e w' ⟨rfl, ⟨nd, rfl⟩⟩; (try first | exact ⟨rfl, _, World.drewN_drewN _ _ _⟩ | exact ⟨rfl, _, Eq.trans (World.drewN_drewN _ _ _) (congrArg (World.drewN _) (Nat.add_assoc _ _ _))⟩)) | (go_at_call 152; (with_reducible refine (Qbc.calls a0_1 t259 _ A9.out).mono ?_); rintro e w' ⟨rfl, ⟨nd, rfl⟩⟩; (try first | exact ⟨rfl, _, World.drewN_drewN _ _ _⟩ | exact ⟨rfl, _, Eq.trans (World.drewN_drewN _ _ _) (congrArg (World.drewN _) (Nat.add_assoc _ _ _))⟩))); try go_wp2_with (first | ((with_reducible refine Qbn (N := 2) rfl ?_); refine bX (N := 2) (cs := #[.int .i64 a0_0, .int .i64 a0_1]) (t := 47) ?_; intro gb256 hg w10 hbox hb; have BK256 := As0 (hbox); have GW256 := gW hg HB.out; have GE256 := GW256; replace HB := As0 (Qbj (BU HB.out) hb); clear hb hbox hg; obtain ⟨z11_0, z11_1, y_11_0, y_11_1⟩ := cN2 BK256.out) | (go_at_call 135; (with_reducible refine (Qav.calls a0_1 true _ A7.out).mono ?_); rintro e w' ⟨rfl, ⟨nd, rfl⟩⟩; (try first | exact ⟨rfl, _, World.drewN_drewN _ _ _⟩ | exact ⟨rfl, _, Eq.trans (World.drewN_drewN _ _ _) (congrArg (World.drewN _) (Nat.add_assoc _ _ _))⟩)) | (go_at_call 152; (with_reducible refine (Qbc.calls a0_1 t259 _ A9.out).mono ?_); rintro e w' ⟨rfl, ⟨nd, rfl⟩⟩; (try first | exact ⟨rfl, _, World.drewN_drewN _ _ _⟩ | exact ⟨rfl, _, Eq.trans (World.drewN_drewN _ _ _) (congrArg (World.drewN _) (Nat.add_assoc _ _ _))⟩))))
 go_ret
 exact ⟨oR, BU HB.out⟩
def edge_Entry.l0 : Nat → Int → List (S47) → Int → Int → Option (Int × Int × Int)
 | 0, _, _, _, _ => none
 | k + 1, x1, x8, x9, x10 => if x10 < x9 then (if 0 ≤ x10 then (if x10 < (x8.length : Int) then ((edge_Initial.f ((Qaa x8 x10).f0) ((Qaa x8 x10).f1) x1).bind fun t263 => (if t263 = true then (edge_Entry.l0 k x1 x8 x9 (wrap64 (x10 + 1))) else (some ((Qaa x8 x10).f0, (Qaa x8 x10).f1, 23)))) else (none)) else (none)) else (some (0, 0, 0))
def edge_Entry.f (k : Nat) (l0 : List (S47)) (a1 : Int) : Option (Int × Int × Int) := edge_Entry.l0 k a1 l0 (l0.length : Int) 0
theorem edge_Entry.calls (k : Nat) (A0 : Option Addr) (c0 : Nat) (l0 : List (S47)) (a1 : Int) (r1 : Int) (r2 : Int) (r3 : Int) (w : World) (hr0 : Kd.C k47 w A0 l0.length l0) (hc0 : l0.length ≤ c0) (h : edge_Entry.f k l0 a1 = some (r1, r2, r3)) :
  Calls Tryz.prog 62 #[.slice A0 l0.length c0, .int .i64 a1] w fun e w' => e = .returned (.tuple #[.agg #[.int .i64 r1, .int .i64 r2], .int .i64 r3]) ∧ Below w.heap.size w w' := by
 have hu47 := Tryz.underlying47
 have HR0 := As0 hr0
 have HC0 := As0 hc0
 clear hr0 hc0
 have HB := As0 (Below.refl w.heap.size w)
 have H : (edge_Entry.l0 k a1 l0 (l0.length : Int) 0) = some (r1, r2, r3) := h
 clear h
 have H' := As0 H
 clear H
 go_enter Tryz.func62, Tryz.ntmps62
 go_wp2_with (first | ((with_reducible refine Qbn (N := 4) rfl ?_); refine bX (N := 4) (cs := #[.int .i64 0, .int .i64 0]) (t := 47) ?_; intro gb260 hg w3 hbox hb; have BK260 := As0 (hbox); have GW260 := gW hg HB.out; have GE260 := GW260; replace HB := As0 (Qbj (BU HB.out) hb); clear hb hbox hg))
 go_loopg [10] k (fun kq v10 w' => ∃ (x10_1 : Int) (x261000_1 : Int) (x261001_1 : Int), v10 = .int .i64 x10_1 ∧ Qbm (edge_Entry.l0 kq a1 l0 (l0.length : Int) x10_1 = some (r1, r2, r3)) ∧ Qbm (kq ≤ k) ∧ Qbm (w'.heap[gb260]? = some (.cells #[.int .i64 x261000_1, .int .i64 x261001_1] 47 (0, 0))) ∧ Qbm (Below w.heap.size w w'))
 case atStart => exact ⟨(0), (0), (0), eR, H', ⟨Nat.le_refl _⟩, ⟨bU BK260.out⟩, ⟨BU HB.out⟩⟩
 case round =>
  clear H'
  obtain ⟨x10_1, x261000_1, x261001_1, rfl, HA, HK1, BK260, HB⟩ := hrel
  cases gk with
  | zero => exact absurd HA.out (by simp [edge_Entry.l0])
  | succ k1 =>
   have H := HA.out
   clear HA
   simp only [edge_Entry.l0] at H
   by_cases c4 : x10_1 < (l0.length : Int)
   rotate_left
   ·rw [if_neg c4] at H
    have c4b0 := decide_eq_false c4
    clear c4
    simp only [Option.some.injEq, Prod.mk.injEq] at H
    obtain ⟨rfl, rfl, rfl⟩ := H
    obtain ⟨z19_0, z19_1, y_19_0, y_19_1⟩ := cN2 BK260.out
    go_wp2
    refine bodyPost_ret (Qch rfl _ _ gb260 47 #[.int .i64 0, .int .i64 0] (0, 0) _ rfl (kV BK260) Tryz.underlying47 rfl (by kernel_rfl)) rfl ?_
    exact ⟨oR, BU HB.out⟩
   rw [if_pos c4] at H
   have c4b0 := decide_eq_true c4
   clear c4
   by_cases c5 : 0 ≤ x10_1
   rotate_left
   ·rw [if_neg c5] at H
    exact absurd H (by simp)
   rw [if_pos c5] at H
   have c5b0 := decide_eq_true c5
   clear c5
   by_cases c6 : x10_1 < (l0.length : Int)
   rotate_left
   ·rw [if_neg c6] at H
    exact absurd H (by simp)
   rw [if_pos c6] at H
   have c6b0 := decide_eq_true c6
   clear c6
   replace H := Option.bind_eq_some_iff.mp H
   obtain ⟨t263, A70, H⟩ := H
   have A7 := As0 A70
   clear A70
   by_cases c8 : t263 = true
   rotate_left
   ·replace c8 := Bool.eq_false_iff.mpr c8
    subst c8
    rw [if_neg bF] at H
    simp only [Option.some.injEq, Prod.mk.injEq] at H
    obtain ⟨rfl, rfl, rfl⟩ := H
    have p261 : 0 ≤ (x10_1 : Int) := qR
    have q261 : x10_1 < (l0.length : Int) := qR
    obtain ⟨ad261, e261, hx261_0, hx261_1⟩ := Qcq HR0.out x10_1 p261 q261
    cases e261
    replace hx261_0 := cl HB hx261_0
    replace hx261_1 := cl HB hx261_1
    replace p261 := eq_true p261
    replace q261 := eq_true q261
    go_wp2_with (first | ((with_reducible refine Qbn (N := 7) rfl ?_); refine bX (N := 7) (cs := #[.int .i64 0, .int .i64 0]) (t := 47) ?_; intro gb262 hg w13 hbox hb; have BK262 := As0 (hbox); have GW262 := gW hg HB.out; have GE262 := GW262; replace HB := As0 (Qbj (BU HB.out) hb); have NB260_262 := nL hg BK260; have NB262_260 := nR hg BK260; replace BK260 := kB BK260 hb; clear hb hbox hg; have hnb14 := NB262_260.out; have hnc14 := NB260_262.out; obtain ⟨z15_0, z15_1, y_15_0, y_15_1⟩ := cN2 BK262.out) | ((with_reducible refine Qbq (f := 109) rfl ?_); refine gL (some 16) Tryz.func109 #[.agg #[.int .i64 ((Qaa l0 x10_1).f0), .int .i64 ((Qaa l0 x10_1).f1)], .int .i64 a1] ?_; (with_reducible refine (edge_Initial.calls ((Qaa l0 x10_1).f0) ((Qaa l0 x10_1).f1) a1 false _ A7.out).mono ?_); rintro e w16 ⟨rfl, hb⟩; refine ⟨_, rfl, ?_⟩; replace BK260 := kF BK260 hb; replace BK262 := kP (.cells #[.int .i64 ((Qaa l0 x10_1).f0), .int .i64 ((Qaa l0 x10_1).f1)] 47 (0, 0)) BK262 hb; replace HB := As0 (Qbj (BU HB.out) hb); (try clear hb); obtain ⟨z17_0, z17_1, y_17_0, y_17_1⟩ := cN2 BK262.out; obtain ⟨z18_0, z18_1, y_18_0, y_18_1⟩ := cN2 BK260.out))
    refine bodyPost_ret (Qch rfl _ _ gb260 47 #[.int .i64 ((Qaa l0 x10_1).f0), .int .i64 ((Qaa l0 x10_1).f1)] (0, 0) _ rfl (kV BK260) Tryz.underlying47 rfl (by kernel_rfl)) rfl ?_
    exact ⟨oR, BU HB.out⟩
   subst c8
   rw [if_pos rfl] at H
   have H' := As0 H
   clear H
   have p261 : 0 ≤ (x10_1 : Int) := qR
   have q261 : x10_1 < (l0.length : Int) := qR
   obtain ⟨ad261, e261, hx261_0, hx261_1⟩ := Qcq HR0.out x10_1 p261 q261
   cases e261
   replace hx261_0 := cl HB hx261_0
   replace hx261_1 := cl HB hx261_1
   replace p261 := eq_true p261
   replace q261 := eq_true q261
   go_wp2_with (first | ((with_reducible refine Qbn (N := 7) rfl ?_); refine bX (N := 7) (cs := #[.int .i64 0, .int .i64 0]) (t := 47) ?_; intro gb262 hg w9 hbox hb; have BK262 := As0 (hbox); have GW262 := gW hg HB.out; have GE262 := GW262; replace HB := As0 (Qbj (BU HB.out) hb); have NB260_262 := nL hg BK260; have NB262_260 := nR hg BK260; replace BK260 := kB BK260 hb; clear hb hbox hg; have hnb10 := NB262_260.out; have hnc10 := NB260_262.out; obtain ⟨z11_0, z11_1, y_11_0, y_11_1⟩ := cN2 BK262.out) | ((with_reducible refine Qbq (f := 109) rfl ?_); refine gL (some 16) Tryz.func109 #[.agg #[.int .i64 ((Qaa l0 x10_1).f0), .int .i64 ((Qaa l0 x10_1).f1)], .int .i64 a1] ?_; (with_reducible refine (edge_Initial.calls ((Qaa l0 x10_1).f0) ((Qaa l0 x10_1).f1) a1 true _ A7.out).mono ?_); rintro e w12 ⟨rfl, hb⟩; refine ⟨_, rfl, ?_⟩; replace BK260 := kF BK260 hb; replace BK262 := kP (.cells #[.int .i64 ((Qaa l0 x10_1).f0), .int .i64 ((Qaa l0 x10_1).f1)] 47 (0, 0)) BK262 hb; replace HB := As0 (Qbj (BU HB.out) hb); (try clear hb)))
   go_roundg k1
   case measure => have := HK1.out; omega
   case rel => exact ⟨(wrap64 (x10_1 + 1)), (x261000_1), (x261001_1), eR, H', ⟨by have := HK1.out; omega⟩, ⟨bU BK260.out⟩, ⟨BU HB.out⟩⟩
def Qa1.l0 : Nat → List (List (S47)) → Int → Int → Int → Int → List (S39) → Int → Int → Int → List (S57) → List (List (S47)) → Int → Int → Int → Int → Int → Int → Int → Option (Int × Int × Int × Int × Int × Int × Int)
 | 0, _, _, _, _, _, _, _, _, _, _, _, _, _, _, _, _, _, _ => none
 | k + 1, x14, x15, x16, x265000, x265001, x265002, x265003, x265004, x265005, x265006, x265007, x268000, x268001, x268002, x268003, x268004, x268005, x268006 => if x16 < x15 then (if 0 ≤ x16 then (if x16 < (x14.length : Int) then (Qa1.l0 k x14 x15 (wrap64 (x16 + 1)) x265000 x265001 x265002 x265003 x265004 x265005 x265006 x265007 x268000 x268001 x268002 x268003 x268004 x268005 (mx x268006 ((Qa4 x14 x16).length : Int))) else (none)) else (none)) else (if 0 < (x265007.length : Int) then ((edge_Entry.f k (Qa4 x265007 0) x265000).bind fun bt270 => (some (bt270.2.2, x268001, x268002, x268003, x268004, x268005, x268006))) else (none))
def Qa1.f (k : Nat) (a0_0 : Int) (a0_1 : Int) (l0_2 : List (S39)) (a0_3 : Int) (a0_4 : Int) (a0_5 : Int) (l0_6 : List (S57)) (l0_7 : List (List (S47))) : Option (Int × Int × Int × Int × Int × Int × Int) := if 0 < (l0_7.length : Int) then (Qa1.l0 k l0_7 (l0_7.length : Int) 0 a0_0 a0_1 l0_2 a0_3 a0_4 a0_5 l0_6 l0_7 0 0 0 0 0 (wrap64 (1 + ((Qa4 l0_7 0).length : Int))) 0) else (none)
def Qa1.T7 : Bool × List (List Nat × List Nat) := (true, [([], []), ([0], [0]), ([1], [1]), ([2], [2]), ([], []), ([4], [4]), ([5], [5]), ([3, 6], [3, 6]), ([7], [7]), ([8], [8]), ([8], [8]), ([0, 1, 2, 3, 4, 5, 6, 7, 8, 9, 10], []), ([11, 10, 7, 0, 1, 2, 3, 4, 5, 6, 7, 8, 9, 10], [10, 11])])
def Qa1.B7 : List Nat := [0, 1, 3, 7, 0, 16, 48, 127, 255, 511, 511, 2047, 4095]
theorem Qa1.tab7 : rtab .any (opsOf Tryz.f32 7) = Qa1.T7 := by kernel_rfl
theorem Qa1.bits7 : Qcw Qa1.T7.2 Qa1.B7 = true := by kernel_rfl
theorem Qa1.calls (k : Nat) (a0_0 : Int) (a0_1 : Int) (A0_2 : Option Addr) (c0_2 : Nat) (l0_2 : List (S39)) (a0_3 : Int) (a0_4 : Int) (a0_5 : Int) (A0_6 : Option Addr) (c0_6 : Nat) (l0_6 : List (S57)) (A0_7 : Option Addr) (c0_7 : Nat) (l0_7 : List (List (S47))) (r1 : Int) (r2 : Int) (r3 : Int) (r4 : Int) (r5 : Int) (r6 : Int) (r7 : Int) (w : World) (hr0_2 : Kd.C k39 w A0_2 l0_2.length l0_2) (hc0_2 : l0_2.length ≤ c0_2) (hr0_6 : Kd.C k57 w A0_6 l0_6.length l0_6) (hc0_6 : l0_6.length ≤ c0_6) (hr0_7 : Kd.C (Kd.slice 47 k47) w A0_7 l0_7.length l0_7) (hc0_7 : l0_7.length ≤ c0_7) (h : Qa1.f k a0_0 a0_1 l0_2 a0_3 a0_4 a0_5 l0_6 l0_7 = some (r1, r2, r3, r4, r5, r6, r7)) :
  Calls Tryz.prog 32 #[.agg #[.int .i64 a0_0, .int .i64 a0_1, .slice A0_2 l0_2.length c0_2, .int .i64 a0_3, .int .i64 a0_4, .int .i64 a0_5, .slice A0_6 l0_6.length c0_6, .slice A0_7 l0_7.length c0_7]] w fun e w' => e = .returned (.agg #[.int .i64 r1, .int .i64 r2, .int .i64 r3, .int .i64 r4, .int .i64 r5, .int .i64 r6, .int .i64 r7]) ∧ Below w.heap.size w w' := by
 have hu30 := Tryz.underlying30
 have hu51 := Tryz.underlying51
 have HR0_2 := As0 hr0_2
 have HC0_2 := As0 hc0_2
 clear hr0_2 hc0_2
 have HR0_6 := As0 hr0_6
 have HC0_6 := As0 hc0_6
 clear hr0_6 hc0_6
 have HR0_7 := As0 hr0_7
 have HC0_7 := As0 hc0_7
 clear hr0_7 hc0_7
 have HB := As0 (Below.refl w.heap.size w)
 have H : (if 0 < (l0_7.length : Int) then (Qa1.l0 k l0_7 (l0_7.length : Int) 0 a0_0 a0_1 l0_2 a0_3 a0_4 a0_5 l0_6 l0_7 0 0 0 0 0 (wrap64 (1 + ((Qa4 l0_7 0).length : Int))) 0) else (none)) = some (r1, r2, r3, r4, r5, r6, r7) := h
 clear h
 by_cases c2 : 0 < (l0_7.length : Int)
 rotate_left
 ·rw [if_neg c2] at H
  exact absurd H (by simp)
 rw [if_pos c2] at H
 have c2b0 := decide_eq_true c2
 have c2b1 : decide (0 < l0_7.length) = true := decide_eq_true (by omega)
 clear c2
 have H' := As0 H
 clear H
 go_enter Tryz.func32, Tryz.ntmps32
 go_wp2_with (first | ((with_reducible refine Qbn (N := 1) rfl ?_); refine bX (N := 1) (cs := #[.int .i64 a0_0, .int .i64 a0_1, .slice A0_2 l0_2.length c0_2, .int .i64 a0_3, .int .i64 a0_4, .int .i64 a0_5, .slice A0_6 l0_6.length c0_6, .slice A0_7 l0_7.length c0_7]) (t := 30) ?_; intro gb264 hg w3 hbox hb; have BK264 := As0 (hbox); have GW264 := gW hg HB.out; have GE264 := GW264; replace HB := As0 (Qbj (BU HB.out) hb); clear hb hbox hg) | ((with_reducible refine Qbn (N := 2) rfl ?_); refine bX (N := 2) (cs := #[.int .i64 0, .int .i64 0, .int .i64 0, .int .i64 0, .int .i64 0, .int .i64 0, .int .i64 0]) (t := 51) ?_; intro gb265 hg w4 hbox hb; have BK265 := As0 (hbox); have GW265 := gW hg HB.out; have GE265 := GW265; replace HB := As0 (Qbj (BU HB.out) hb); have NB264_265 := nL hg BK264; have NB265_264 := nR hg BK264; replace BK264 := kB BK264 hb; clear hb hbox hg; have hnb5 := NB264_265.out; have hnc5 := NB265_264.out; obtain ⟨z6_0, z6_1, z6_2, z6_3, z6_4, z6_5, z6_6, z6_7, y_6_0, y_6_1, y_6_2, y_6_3, y_6_4, y_6_5, y_6_6, y_6_7⟩ := cN8 BK264.out; have p266 : 0 ≤ (0 : Int) := (by omega); have q266 : 0 < (l0_7.length : Int) := qR; obtain ⟨ad266, A266_0, c266_0, e266, hx266_0, hl266_0, hi266_0⟩ := Qeb HR0_7.out 0 p266 q266; cases e266; have qi266 : (0 < l0_7.length) = True := eq_true (by omega); (try rw [show ((0 : Int)).toNat = 0 from rfl] at hx266_0); (try rw [Addr.add_zero'] at hx266_0); replace hx266_0 := cl HB hx266_0; have HR266_0 := As0 hi266_0; have HC266_0 := As0 hl266_0; clear hi266_0 hl266_0; replace p266 := eq_true p266; replace q266 := eq_true q266) | ((with_reducible refine Qbn (N := 3) rfl ?_); refine bX (N := 3) (cs := #[.int .i64 0, .int .i64 0, .int .i64 0, .int .i64 0, .int .i64 0, .int .i64 0, .int .i64 0]) (t := 51) ?_; intro gb267 hg w7 hbox hb; have BK267 := As0 (hbox); have GW267 := gW hg HB.out; have GE267 := GW267; replace HB := As0 (Qbj (BU HB.out) hb); have NB264_267 := nL hg BK264; have NB267_264 := nR hg BK264; replace BK264 := kB BK264 hb; have NB265_267 := nL hg BK265; have NB267_265 := nR hg BK265; replace BK265 := kB BK265 hb; clear hb hbox hg; have hnb8 := NB267_264.out; have hnc8 := NB264_267.out; have hnb9 := NB267_265.out; have hnc9 := NB265_267.out; obtain ⟨z10_0, z10_1, z10_2, z10_3, z10_4, z10_5, z10_6, y_10_0, y_10_1, y_10_2, y_10_3, y_10_4, y_10_5, y_10_6⟩ := cN7 BK267.out; obtain ⟨z11_0, z11_1, z11_2, z11_3, z11_4, z11_5, z11_6, z11_7, y_11_0, y_11_1, y_11_2, y_11_3, y_11_4, y_11_5, y_11_6, y_11_7⟩ := cN8 BK264.out))
 go_loopg [16] k (fun kq v16 w' => ∃ (x16_1 : Int) (x268006_1 : Int), v16 = .int .i64 x16_1 ∧ Qbm (Qa1.l0 kq l0_7 (l0_7.length : Int) x16_1 a0_0 a0_1 l0_2 a0_3 a0_4 a0_5 l0_6 l0_7 0 0 0 0 0 (wrap64 (1 + ((Qa4 l0_7 0).length : Int))) x268006_1 = some (r1, r2, r3, r4, r5, r6, r7)) ∧ Qbm (kq ≤ k) ∧ Qbm (w'.heap[gb264]? = some (.cells #[.int .i64 a0_0, .int .i64 a0_1, (.slice A0_2 l0_2.length c0_2), .int .i64 a0_3, .int .i64 a0_4, .int .i64 a0_5, (.slice A0_6 l0_6.length c0_6), (.slice (some ad266) l0_7.length c0_7)] 30 (0, 0))) ∧ Qbm (w'.heap[gb265]? = some (.cells #[.int .i64 0, .int .i64 0, .int .i64 0, .int .i64 0, .int .i64 0, .int .i64 0, .int .i64 0] 51 (0, 0))) ∧ Qbm (w'.heap[gb267]? = some (.cells #[.int .i64 0, .int .i64 0, .int .i64 0, .int .i64 0, .int .i64 0, .int .i64 (wrap64 (1 + ((Qa4 l0_7 0).length : Int))), .int .i64 x268006_1] 51 (0, 0))) ∧ Qbm (Below w.heap.size w w'))
 case atStart => exact ⟨(0), (0), eR, H', ⟨Nat.le_refl _⟩, ⟨kV BK264⟩, ⟨kV BK265⟩, ⟨kV BK267⟩, ⟨BU HB.out⟩⟩
 case round =>
  clear H'
  obtain ⟨x16_1, x268006_1, rfl, HA, HK1, BK264, BK265, BK267, HB⟩ := hrel
  cases gk with
  | zero => exact absurd HA.out (by simp [Qa1.l0])
  | succ k1 =>
   have H := HA.out
   clear HA
   simp only [Qa1.l0] at H
   by_cases c12 : x16_1 < (l0_7.length : Int)
   ·rw [if_pos c12] at H
    have c12b0 := decide_eq_true c12
    clear c12
    by_cases c13 : 0 ≤ x16_1
    rotate_left
    ·rw [if_neg c13] at H
     exact absurd H (by simp)
    rw [if_pos c13] at H
    have c13b0 := decide_eq_true c13
    clear c13
    by_cases c14 : x16_1 < (l0_7.length : Int)
    rotate_left
    ·rw [if_neg c14] at H
     exact absurd H (by simp)
    rw [if_pos c14] at H
    have c14b0 := decide_eq_true c14
    clear c14
    obtain ⟨ji15, hji15⟩ : ∃ j_ : Int, (mx x268006_1 ((Qa4 l0_7 x16_1).length : Int)) = j_ := ⟨_, rfl⟩
    replace H : (Qa1.l0 k1 l0_7 (l0_7.length : Int) (wrap64 (x16_1 + 1)) a0_0 a0_1 l0_2 a0_3 a0_4 a0_5 l0_6 l0_7 0 0 0 0 0 (wrap64 (1 + ((Qa4 l0_7 0).length : Int))) ji15) = some (r1, r2, r3, r4, r5, r6, r7) := by first | (rw [hji15] at H; exact H) | (simp only [hji15] at H ⊢; exact H)
    have hji15_ : (if x268006_1 < ((Qa4 l0_7 x16_1).length : Int) then ((Qa4 l0_7 x16_1).length : Int) else x268006_1) = ji15 := hji15
    have H' := As0 H
    clear H
    have p268 : 0 ≤ (x16_1 : Int) := qR
    have q268 : x16_1 < (l0_7.length : Int) := qR
    obtain ⟨ad268, A268_0, c268_0, e268, hx268_0, hl268_0, hi268_0⟩ := Qeb HR0_7.out x16_1 p268 q268
    obtain rfl : ad266 = ad268 := (by injection e268)
    replace hx268_0 := cl HB hx268_0
    have HR268_0 := As0 hi268_0
    have HC268_0 := As0 hl268_0
    clear hi268_0 hl268_0
    replace p268 := eq_true p268
    replace q268 := eq_true q268
    have hnb16 := NB267_264.out
    have hnc16 := NB264_267.out
    have hnb17 := NB267_265.out
    have hnc17 := NB265_267.out
    obtain ⟨z18_0, z18_1, z18_2, z18_3, z18_4, z18_5, z18_6, y_18_0, y_18_1, y_18_2, y_18_3, y_18_4, y_18_5, y_18_6⟩ := cN7 BK267.out
    go_wp2
    go_roundg k1
    case measure => have := HK1.out; omega
    case rel => exact ⟨(wrap64 (x16_1 + 1)), (ji15), eR, H', ⟨by have := HK1.out; omega⟩, ⟨kV BK264⟩, ⟨kV BK265⟩, ⟨kV BK267⟩, ⟨BU HB.out⟩⟩
   rw [if_neg c12] at H
   have c12b0 := decide_eq_false c12
   clear c12
   by_cases c19 : 0 < (l0_7.length : Int)
   rotate_left
   ·rw [if_neg c19] at H
    exact absurd H (by simp)
   rw [if_pos c19] at H
   have c19b0 := decide_eq_true c19
   have c19b1 : decide (0 < l0_7.length) = true := decide_eq_true (by omega)
   clear c19
   replace H := Option.bind_eq_some_iff.mp H
   obtain ⟨⟨t270, t271, t272⟩, A200, H⟩ := H
   have A20 := As0 A200
   clear A200
   simp only [Option.some.injEq, Prod.mk.injEq] at H
   obtain ⟨rfl, rfl, rfl, rfl, rfl, rfl, rfl⟩ := H
   try go_wp2
   replace BK264 := As0 (Qbu BK264.out)
   replace BK265 := As0 (Qbu BK265.out)
   replace BK267 := As0 (Qbu BK267.out)
   replace HB := As0 (bd1 HB.out)
   have p269 : 0 ≤ (0 : Int) := (by omega)
   have q269 : 0 < (l0_7.length : Int) := qR
   obtain ⟨ad269, A269_0, c269_0, e269, hx269_0, hl269_0, hi269_0⟩ := Qeb HR0_7.out 0 p269 q269
   have hw269_0 := hx269_0
   (try rw [show ((0 : Int)).toNat = 0 from rfl] at hw269_0)
   (try rw [show 0 * 1 = 0 from rfl] at hw269_0)
   (try rw [Addr.add_zero'] at hw269_0)
   obtain rfl : ad266 = ad269 := (by injection e269)
   have qi269 : (0 < l0_7.length) = True := eq_true (by omega)
   (try rw [show ((0 : Int)).toNat = 0 from rfl] at hx269_0)
   (try rw [Addr.add_zero'] at hx269_0)
   replace hx269_0 := cl HB hx269_0
   have HR269_0 := As0 hi269_0
   have HC269_0 := As0 hl269_0
   clear hi269_0 hl269_0
   replace p269 := eq_true p269
   replace q269 := eq_true q269
   refine Qcd (n := 13) (S := fun w' => w'.cell? ⟨gb264, 0, none⟩ = some (.int .i64 a0_0) ∧ w'.cell? ⟨gb264, 1, none⟩ = some (.int .i64 a0_1) ∧ w'.cell? ⟨gb264, 2, none⟩ = some (.slice A0_2 l0_2.length c0_2) ∧ w'.cell? ⟨gb264, 3, none⟩ = some (.int .i64 a0_3) ∧ w'.cell? ⟨gb264, 4, none⟩ = some (.int .i64 a0_4) ∧ w'.cell? ⟨gb264, 5, none⟩ = some (.int .i64 a0_5) ∧ w'.cell? ⟨gb264, 6, none⟩ = some (.slice A0_6 l0_6.length c0_6) ∧ w'.cell? ⟨gb264, 7, none⟩ = some (.slice (some ad266) l0_7.length c0_7) ∧ w'.cell? ad266 = some (.slice A269_0 (Qa4 l0_7 0).length c269_0)) (ds := []) (bb 13 0) (by kernel_rfl) rfl rfl ⟨bc BK264 0, bc BK264 1, bc BK264 2, bc BK264 3, bc BK264 4, bc BK264 5, bc BK264 6, bc BK264 7, (cl HB hw269_0)⟩ (fun hHeld => ?_); refine Qcf Qa1.tab7 Qa1.bits7 (fun HT_ HW_ => ?_)
   generalize wr.drew = w21 at BK264 BK265 BK267 HB HR269_0 hx269_0 hHeld ⊢
   refine pv HT_.out 0 28 (bb 13 1) ?_
   refine pv HT_.out 4 32 (bb 13 17) ?_
   refine pv HT_.out 5 33 (bb 13 49) ?_
   refine tv hHeld HT_.out HW_.out 1 29 (bb 13 51) ?_
   refine pv HT_.out 2 30 (bb 13 55) ?_
   refine tv hHeld HT_.out HW_.out 3 31 (bb 13 63) ?_
   refine tv hHeld HT_.out HW_.out 6 34 (bb 13 127) ?_
   refine one_ (i := 7) (N := some 35) (bb 13 255) rfl rfl (Qcl HT_.out (by kernel_rfl)) (by decide) (fun K hK => ?_)
   refine Qcz Tryz.func62 (by kernel_rfl) rfl #[.slice A269_0 (Qa4 l0_7 0).length c269_0, .int .i64 a0_0] (by rfl) rfl rfl (by (try simp only [List.map_toArray, List.map_cons, List.map_nil]); first | done | rfl | (simp only [List.length_drop, List.length_take]; rfl)) ?_
   with_reducible refine (edge_Entry.calls k1 _ _ (Qa4 l0_7 0) a0_0 t270 t271 t272 _ ?side1 ?side2 A20.out).mono ?_
   (case side1 => exact CU (Kd.C_below HR269_0.out HB.out))
   (case side2 => exact HC269_0.out)
   rintro e w22 ⟨rfl, hb⟩
   refine ⟨_, rfl, ?_⟩
   replace BK264 := kB BK264 hb
   replace BK265 := kB BK265 hb
   replace BK267 := kB BK267 hb
   replace HB := As0 (Qbj (BU HB.out) hb)
   (try clear hb)
   (try clear hb2)
   (try clear hk)
   (try clear hi)
   refine hK.out _ _ ⟨bc BK264 0, bc BK264 1, bc BK264 2, bc BK264 3, bc BK264 4, bc BK264 5, bc BK264 6, bc BK264 7, (cl HB hw269_0)⟩ (fun hHeld => ?_)
   clear hK K
   refine Qb5 (a' := ?_) ?_ ?_
   rotate_left
   ·show Act.put _ (some 35) _ = _
    simp only [Act.put, sL1, sL2, sL3, Qbw, Qbx]
    rfl
   refine pv HT_.out 8 27 (bb 13 511) ?_
   refine pv HT_.out 9 36 (bb 13 1023) ?_
   refine pv HT_.out 10 37 (bb 13 2047) ?_
   refine pv HT_.out 11 38 (bb 13 4095) ?_
   refine one_ (i := 12) (N := none) (bb 13 8191) rfl rfl (Qcl HT_.out (by kernel_rfl)) (by decide) (fun K hK => ?_)
   have hs23 : w22.cell? ⟨gb267, 0, none⟩ = some (.int .i64 0) := bc BK267 0
   have hfs23 := Qbk BK267.out 0
   have hns23_0 := NB264_267.out
   have hns23_1 := NB265_267.out
   have hms23_0 := NB267_264.out
   have hms23_1 := NB267_265.out
   refine skip_ (w1 := ?_) (by rfl) rfl ?_ ?_
   rotate_left
   ·go_simp
    rfl
   refine hK.out _ _ ⟨((Qbs (p := ⟨gb267, _, none⟩) NB264_267.out _).trans (hHeld.1)), ((Qbs (p := ⟨gb267, _, none⟩) NB264_267.out _).trans (hHeld.2.1)), ((Qbs (p := ⟨gb267, _, none⟩) NB264_267.out _).trans (hHeld.2.2.1)), ((Qbs (p := ⟨gb267, _, none⟩) NB264_267.out _).trans (hHeld.2.2.2.1)), ((Qbs (p := ⟨gb267, _, none⟩) NB264_267.out _).trans (hHeld.2.2.2.2.1)), ((Qbs (p := ⟨gb267, _, none⟩) NB264_267.out _).trans (hHeld.2.2.2.2.2.1)), ((Qbs (p := ⟨gb267, _, none⟩) NB264_267.out _).trans (hHeld.2.2.2.2.2.2.1)), ((Qbs (p := ⟨gb267, _, none⟩) NB264_267.out _).trans (hHeld.2.2.2.2.2.2.2.1)), ((Qbs (p := ⟨gb267, _, none⟩) (by first | exact Nat.ne_of_lt (Nat.lt_of_lt_of_le (by have := World.block_lt_of_cell? _ _ hw269_0; first | rwa [Qc1] at this | exact this) GW267.out) | (rw [Qc1]; exact Nat.ne_of_lt (Nat.lt_of_lt_of_le (by have := World.block_lt_of_cell? _ _ hw269_0; first | rwa [Qc1] at this | exact this) GW267.out)) | (show (Addr.add _ _).block ≠ _; rw [Qc1]; exact Nat.ne_of_lt (Nat.lt_of_lt_of_le (by have := World.block_lt_of_cell? _ _ hw269_0; first | rwa [Qc1] at this | exact this) GW267.out)) | (dsimp only; exact Nat.ne_of_lt (Nat.lt_of_lt_of_le (by have := World.block_lt_of_cell? _ _ hw269_0; first | rwa [Qc1] at this | exact this) GW267.out))) _).trans (hHeld.2.2.2.2.2.2.2.2))⟩ (fun hHeld => ?_)
   clear hK K
   refine Qc0 (Qct HT_.out (by kernel_rfl)) ?_
   have hnb24 := NB267_264.out
   have hnc24 := NB264_267.out
   have hnb25 := NB267_265.out
   have hnc25 := NB265_267.out
   obtain ⟨z26_0, z26_1, z26_2, z26_3, z26_4, z26_5, z26_6, y_26_0, y_26_1, y_26_2, y_26_3, y_26_4, y_26_5, y_26_6⟩ := cN7 BK267.out
   have hnb27 := NB265_264.out
   have hnc27 := NB264_265.out
   obtain ⟨z28_0, z28_1, z28_2, z28_3, z28_4, z28_5, z28_6, y_28_0, y_28_1, y_28_2, y_28_3, y_28_4, y_28_5, y_28_6⟩ := cN7 BK265.out
   try go_wp2
   refine bodyPost_ret (results_cell_row rfl _ _ gb265 51 #[.int .i64 t272, .int .i64 0, .int .i64 0, .int .i64 0, .int .i64 0, .int .i64 (wrap64 (1 + ((Qa4 l0_7 0).length : Int))), .int .i64 x268006_1] (0, 0) _ rfl (kV BK265) Tryz.underlying51 rfl (by kernel_rfl)) rfl ?_
   exact ⟨oR, BU HB.out⟩
def edge_Implies.f (k : Nat) (l0 : List (S47)) (l1 : List (S47)) : Option (Int × Int × Int) := (Qab.f k l1 l0).bind fun bt409 => (if bt409.2.2 = true then (some (bt409.1, bt409.2.1, 22)) else (some (0, 0, 0)))
theorem edge_Implies.calls (k : Nat) (A0 : Option Addr) (c0 : Nat) (l0 : List (S47)) (A1 : Option Addr) (c1 : Nat) (l1 : List (S47)) (r1 : Int) (r2 : Int) (r3 : Int) (w : World) (hr0 : Kd.C k47 w A0 l0.length l0) (hc0 : l0.length ≤ c0) (hr1 : Kd.C k47 w A1 l1.length l1) (hc1 : l1.length ≤ c1) (h : edge_Implies.f k l0 l1 = some (r1, r2, r3)) :
  Calls Tryz.prog 35 #[.slice A0 l0.length c0, .slice A1 l1.length c1] w fun e w' => e = .returned (.tuple #[.agg #[.int .i64 r1, .int .i64 r2], .int .i64 r3]) ∧ Below w.heap.size w w' := by
 have hu47 := Tryz.underlying47
 have HR0 := As0 hr0
 have HC0 := As0 hc0
 clear hr0 hc0
 have HR1 := As0 hr1
 have HC1 := As0 hc1
 clear hr1 hc1
 have HB := As0 (Below.refl w.heap.size w)
 have H : ((Qab.f k l1 l0).bind fun bt409 => (if bt409.2.2 = true then (some (bt409.1, bt409.2.1, 22)) else (some (0, 0, 0)))) = some (r1, r2, r3) := h
 clear h
 replace H := Option.bind_eq_some_iff.mp H
 obtain ⟨⟨t409, t410, t411⟩, A30, H⟩ := H
 have A3 := As0 A30
 clear A30
 by_cases c4 : t411 = true
 ·subst c4
  rw [if_pos rfl] at H
  simp only [Option.some.injEq, Prod.mk.injEq] at H
  obtain ⟨rfl, rfl, rfl⟩ := H
  go_enter Tryz.func35, Tryz.ntmps35
  go_wp2_with (first | ((with_reducible refine Qbn (N := 4) rfl ?_); refine bX (N := 4) (cs := #[.int .i64 0, .int .i64 0]) (t := 47) ?_; intro gb408 hg w5 hbox hb; have BK408 := As0 (hbox); have GW408 := gW hg HB.out; have GE408 := GW408; replace HB := As0 (Qbj (BU HB.out) hb); clear hb hbox hg) | ((with_reducible refine Qbq (f := 67) rfl ?_); refine gL (some 11) Tryz.func67 #[.slice A1 l1.length c1, .slice A0 l0.length c0] ?_; (with_reducible refine (Qab.calls k _ _ l1 _ _ l0 t409 t410 true _ ?side1 ?side2 ?side3 ?side4 A3.out).mono ?_); (case side1 => exact CU (Kd.C_below HR1.out HB.out)); (case side2 => exact HC1.out); (case side3 => exact CU (Kd.C_below HR0.out HB.out)); (case side4 => exact HC0.out); rintro e w6 ⟨rfl, hb⟩; refine ⟨_, rfl, ?_⟩; replace BK408 := kB BK408 hb; replace HB := As0 (Qbj (BU HB.out) hb); (try clear hb)) | ((with_reducible refine Qbn (N := 6) rfl ?_); refine bX (N := 6) (cs := #[.int .i64 0, .int .i64 0]) (t := 47) ?_; intro gb412 hg w7 hbox hb; have BK412 := As0 (hbox); have GW412 := gW hg HB.out; have GE412 := GW412; replace HB := As0 (Qbj (BU HB.out) hb); have NB408_412 := nL hg BK408; have NB412_408 := nR hg BK408; replace BK408 := kB BK408 hb; clear hb hbox hg; have hnb8 := NB412_408.out; have hnc8 := NB408_412.out; obtain ⟨z9_0, z9_1, y_9_0, y_9_1⟩ := cN2 BK412.out; obtain ⟨z10_0, z10_1, y_10_0, y_10_1⟩ := cN2 BK408.out))
  refine bodyPost_ret (Qch rfl _ _ gb408 47 #[.int .i64 t409, .int .i64 t410] (0, 0) _ rfl (kV BK408) Tryz.underlying47 rfl (by kernel_rfl)) rfl ?_
  exact ⟨oR, BU HB.out⟩
 replace c4 := Bool.eq_false_iff.mpr c4
 subst c4
 rw [if_neg bF] at H
 simp only [Option.some.injEq, Prod.mk.injEq] at H
 obtain ⟨rfl, rfl, rfl⟩ := H
 go_enter Tryz.func35, Tryz.ntmps35
 go_wp2_with (first | ((with_reducible refine Qbn (N := 4) rfl ?_); refine bX (N := 4) (cs := #[.int .i64 0, .int .i64 0]) (t := 47) ?_; intro gb408 hg w11 hbox hb; have BK408 := As0 (hbox); have GW408 := gW hg HB.out; have GE408 := GW408; replace HB := As0 (Qbj (BU HB.out) hb); clear hb hbox hg) | ((with_reducible refine Qbq (f := 67) rfl ?_); refine gL (some 11) Tryz.func67 #[.slice A1 l1.length c1, .slice A0 l0.length c0] ?_; (with_reducible refine (Qab.calls k _ _ l1 _ _ l0 t409 t410 false _ ?side1 ?side2 ?side3 ?side4 A3.out).mono ?_); (case side1 => exact CU (Kd.C_below HR1.out HB.out)); (case side2 => exact HC1.out); (case side3 => exact CU (Kd.C_below HR0.out HB.out)); (case side4 => exact HC0.out); rintro e w12 ⟨rfl, hb⟩; refine ⟨_, rfl, ?_⟩; replace BK408 := kB BK408 hb; replace HB := As0 (Qbj (BU HB.out) hb); (try clear hb)) | ((with_reducible refine Qbn (N := 6) rfl ?_); refine bX (N := 6) (cs := #[.int .i64 0, .int .i64 0]) (t := 47) ?_; intro gb412 hg w13 hbox hb; have BK412 := As0 (hbox); have GW412 := gW hg HB.out; have GE412 := GW412; replace HB := As0 (Qbj (BU HB.out) hb); have NB408_412 := nL hg BK408; have NB412_408 := nR hg BK408; replace BK408 := kB BK408 hb; clear hb hbox hg; have hnb14 := NB412_408.out; have hnc14 := NB408_412.out; obtain ⟨z15_0, z15_1, y_15_0, y_15_1⟩ := cN2 BK412.out; obtain ⟨z16_0, z16_1, y_16_0, y_16_1⟩ := cN2 BK408.out))
 refine bodyPost_ret (Qch rfl _ _ gb408 47 #[.int .i64 0, .int .i64 0] (0, 0) _ rfl (kV BK408) Tryz.underlying47 rfl (by kernel_rfl)) rfl ?_
 exact ⟨oR, BU HB.out⟩
def Qej (d : Code) : List Bool → Code → Code
  | [], _ => d
  | false :: l, .seq a b => .seq (Qej d l a) b
  | true :: l, .seq a b => .seq a (Qej d l b)
  | _ :: l, .block i c => .block i (Qej d l c)
  | _ :: l, .loop c => .loop (Qej d l c)
  | _ :: l, .scope c => .scope (Qej d l c)
  | _ :: _, c => c
def On (g : Nat) (w W : World) : Prop := (∀ i, i ≠ g → W.heap[i]? = w.heap[i]?) ∧ ∀ B w0, B ≤ g → Below B w0 w → Below B w0 W
theorem On.refl (g : Nat) (w : World) : On g w w := ⟨fun _ _ => rfl, fun _ _ _ h => h⟩
theorem On.set {g : Nat} {w W : World} (h : On g w W) (j : Nat) (u : Value) : On g w (W.setCell ⟨g, j, none⟩ u) := ⟨fun i hi => (Below.heap_setCell W _ u i hi).trans (h.1 i hi), fun B w0 hB hb => have q := h.2 B w0 hB hb; ⟨q.os, q.tape, q.output, by simpa using q.size, fun k hk => (Below.heap_setCell W _ u k (by show k ≠ g; omega)).trans (q.block k hk)⟩⟩
theorem On.drew {g : Nat} {w W : World} (h : On g w W) : On g w W.drew := ⟨h.1, fun B w0 hB hb => bd1 (h.2 B w0 hB hb)⟩
theorem Ci_on {g : Nat} {w w' : World} {A : Option Addr} {l : List Int} (hC : Kd.C (Kd.int .i64) w A l.length l) (ho : On g w w') (hne : ∀ ad, A = some ad → ad.block ≠ g) : Kd.C (Kd.int .i64) w' A l.length l := by
  obtain ⟨h1, h2, h3⟩ := hC
  refine ⟨h1, h2, fun hn => ?_⟩
  obtain ⟨ad, rfl, hc⟩ := h3 hn
  have hbl : ∀ n, (ad.add n).block = ad.block := fun n => by unfold Addr.add; split <;> rfl
  refine ⟨ad, rfl, fun j p hj => ?_⟩
  obtain ⟨c, hs, hK, hcell⟩ := hc j p hj
  refine ⟨c, hs, hK, fun i u hu => ?_⟩
  exact (World.cell?_of_block (by rw [hbl]; exact ho.1 _ (hne ad rfl))).trans (hcell i u hu)
def OutR (w : World) (A : Option Addr) (l : List S47) : Prop := Kd.C k47 w A l.length l ∧ Ty w A
theorem OutR.below {w w' : World} {A : Option Addr} {l : List S47} (h : OutR w A l) (hb : Below w.heap.size w w') : OutR w' A l := ⟨Kd.C_below h.1 hb, h.2.below hb⟩
theorem OutR.on {g t : Nat} {cs : Array Value} {w w' : World} {A : Option Addr} {l : List S47} (h : OutR w A l) (ho : On g w w') (hg : w.heap[g]? = some (.cells cs t (0, 0))) (ht : t ≠ 47) : OutR w' A l := by
  have hs : ∀ ad, A = some ad → w'.heap[ad.block]? = w.heap[ad.block]? := by
    intro ad e
    obtain ⟨cs2, h2⟩ := h.2 ad e
    refine ho.1 _ ?_
    rintro rfl
    rw [hg] at h2
    injection h2 with h2; injection h2 with h3 h4
    exact ht h4
  exact ⟨C47_on h.1 hs, fun ad e => let ⟨cs2, h2⟩ := h.2 ad e; ⟨cs2, (hs ad e).trans h2⟩⟩
theorem OutR.c {w : World} {A : Option Addr} {l : List S47} (h : OutR w A l) : Kd.C k47 w A l.length l := h.1
theorem addB (ad : Addr) (n : Nat) : (ad.add n).block = ad.block := by unfold Addr.add; split <;> rfl
theorem OutR.on' {g : Nat} {w w' : World} {A : Option Addr} {l : List S47} (h : OutR w A l) (ho : On g w w') (hne : ∀ ad, A = some ad → ad.block ≠ g) : OutR w' A l :=
  ⟨C47_on h.1 fun ad e => ho.1 _ (hne ad e), fun ad e => let ⟨cs2, h2⟩ := h.2 ad e; ⟨cs2, (ho.1 _ (hne ad e)).trans h2⟩⟩
theorem put5 {w : World} {g t : Nat} {a0 a1 a2 a3 a4 : Value} (h : w.heap[g]? = some (.cells #[a0, a1, a2, a3, a4] t (0, 0))) (b0 b1 b2 b3 b4 : Value) : (((((w.setCell ⟨g, 0, none⟩ b0).setCell ⟨g, 1, none⟩ b1).setCell ⟨g, 2, none⟩ b2).setCell ⟨g, 3, none⟩ b3).setCell ⟨g, 4, none⟩ b4).heap[g]? = some (.cells #[b0, b1, b2, b3, b4] t (0, 0)) :=
  Qbr (cs := #[b0, b1, b2, b3, a4]) (Qbr (cs := #[b0, b1, b2, a3, a4]) (Qbr (cs := #[b0, b1, a2, a3, a4]) (Qbr (cs := #[b0, a1, a2, a3, a4]) (Qbr (cs := #[a0, a1, a2, a3, a4]) h 0 _ rfl) 1 _ rfl) 2 _ rfl) 3 _ rfl) 4 _ rfl
theorem put7a {w : World} {g t : Nat} {a0 a1 a2 a3 a4 a5 a6 : Value} (h : w.heap[g]? = some (.cells #[a0, a1, a2, a3, a4, a5, a6] t (0, 0))) (b3 b5 b6 : Value) : (((w.setCell ⟨g, 3, none⟩ b3).setCell ⟨g, 5, none⟩ b5).setCell ⟨g, 6, none⟩ b6).heap[g]? = some (.cells #[a0, a1, a2, b3, a4, b5, b6] t (0, 0)) :=
  Qbr (cs := #[a0, a1, a2, b3, a4, b5, a6]) (Qbr (cs := #[a0, a1, a2, b3, a4, a5, a6]) (Qbr (cs := #[a0, a1, a2, a3, a4, a5, a6]) h 3 _ rfl) 5 _ rfl) 6 _ rfl
theorem put7b {w : World} {g t : Nat} {a0 a1 a2 a3 a4 a5 a6 : Value} (h : w.heap[g]? = some (.cells #[a0, a1, a2, a3, a4, a5, a6] t (0, 0))) (b0 b1 b2 : Value) : (((w.setCell ⟨g, 0, none⟩ b0).setCell ⟨g, 1, none⟩ b1).setCell ⟨g, 2, none⟩ b2).heap[g]? = some (.cells #[b0, b1, b2, a3, a4, a5, a6] t (0, 0)) :=
  Qbr (cs := #[b0, b1, a2, a3, a4, a5, a6]) (Qbr (cs := #[b0, a1, a2, a3, a4, a5, a6]) (Qbr (cs := #[a0, a1, a2, a3, a4, a5, a6]) h 0 _ rfl) 1 _ rfl) 2 _ rfl
theorem put7c {w : World} {g t : Nat} {a0 a1 a2 a3 a4 a5 a6 : Value} (h : w.heap[g]? = some (.cells #[a0, a1, a2, a3, a4, a5, a6] t (0, 0))) (b4 b5 : Value) : ((w.setCell ⟨g, 4, none⟩ b4).setCell ⟨g, 5, none⟩ b5).heap[g]? = some (.cells #[a0, a1, a2, a3, b4, b5, a6] t (0, 0)) :=
  Qbr (cs := #[a0, a1, a2, a3, b4, a5, a6]) (Qbr (cs := #[a0, a1, a2, a3, a4, a5, a6]) h 4 _ rfl) 5 _ rfl
def nextR (r : S51) (x : S87) : S51 := ⟨r.f0, r.f1, r.f2, Go.RowKit.wrap64 (r.f3 + 1), r.f4, Go.RowKit.wrap64 (r.f5 + x.f3), if r.f6 < x.f4 then x.f4 else r.f6⟩
def failR (r : S51) (y i j : Int) : S51 := ⟨y, i, j, r.f3, r.f4, r.f5, r.f6⟩
def edgeR (r : S51) (n m : Nat) : S51 := ⟨r.f0, r.f1, r.f2, r.f3, Go.RowKit.wrap64 (r.f4 + 1), Go.RowKit.wrap64 (Go.RowKit.wrap64 (Go.RowKit.wrap64 (r.f5 + 1) + (n : Int)) + (m : Int)), r.f6⟩
def Qdk (k : Nat) (i : Nat) (Wl : List (List S47)) (out : List S47) : List Int → Nat → S51 → (S51 → Option S51) → Option S51
  | [], _, r, K => K r
  | tg :: t, j, r, K =>
    if 0 ≤ tg ∧ tg < (Wl.length : Int) then (edge_Implies.f k out (Qa4 Wl tg)).bind fun p =>
      if p.2.2 = 0 then Qdk k i Wl out t (j + 1) (edgeR r out.length (Qa4 Wl tg).length) K
      else some (failR (edgeR r out.length (Qa4 Wl tg).length) p.2.2 (i : Int) (j : Int))
    else none
def Qcc (k : Nat) (TB : List S57) (Wl : List (List S47)) : List S39 → Nat → S51 → Option S51
  | [], _, r => some r
  | b :: t, i, r =>
    if (i : Int) < (TB.length : Int) ∧ (i : Int) < (Wl.length : Int) then
      (blockF k b.f0 (Qam TB i).f0 b.f1 (Qam TB i).f1 (Qa4 Wl i) 1048576).bind fun x =>
        if x.f1 = 0 then (source_Successors.f b.f1.f0 b.f1.f1 b.f1.f2 b.f1.f3).bind fun tg =>
          Qdk k i Wl x.f0 tg 0 (nextR r x) fun r2 => Qcc k TB Wl t (i + 1) r2
        else some (failR (nextR r x) x.f1 (i : Int) x.f2)
    else none
def Qdm (k : Nat) (sa sr : Int) (SB : List S39) (ta tr ts : Int) (TB : List S57) (Wl : List (List S47)) : Option S51 :=
  (Qba.f k sa sr SB ta tr ts TB Wl).bind fun y => if y = 0 then
    (Qa1.f k sa sr SB ta tr ts TB Wl).bind fun p => if p.1 = 0 then Qcc k TB Wl SB 0 ⟨p.1, p.2.1, p.2.2.1, p.2.2.2.1, p.2.2.2.2.1, p.2.2.2.2.2.1, p.2.2.2.2.2.2⟩
      else some ⟨p.1, p.2.1, p.2.2.1, p.2.2.2.1, p.2.2.2.2.1, p.2.2.2.2.2.1, p.2.2.2.2.2.2⟩
  else some ⟨y, 0, 0, 0, 0, 0, 0⟩
theorem fin23 {ops : Array Oper} {id : Nat} {o0 o1 : Oper} {R : Ending → World → Prop} {K : Act → World → Prop} {Q : Exit → Act → World → Prop} (a : Act) (W : World) (gO gR : Nat) (cs : Array Value)
    (hs : ops.size = 2) (h0 : ops[0]? = some o0) (h1 : ops[1]? = some o1) (e0 : o0.op = .load 51 (.tmp 4)) (e1 : o1.op = .store 51 (.tmp 2) (.tmp 122)) (d0 : o0.dst = some 122) (d1 : o1.dst = none) (q0 : o0.guard = none) (q1 : o1.guard = none)
    (hd : a.defers = []) (hsz : 122 < a.tmps.size) (h4 : a.eval (.tmp 4) = .pointer (some ⟨gR, 0, none⟩)) (h2 : a.eval (.tmp 2) = .pointer (some ⟨gO, 0, none⟩)) (hcs : cs.size = 7) (hone : cs.all (·.oneCell') = true)
    (hR : W.heap[gR]? = some (.cells cs 51 (0, 0))) {old : Array Value} (hold : old.size = 7) (hO : W.heap[gO]? = some (.cells old 51 (0, 0)))
    (hQ : ∀ W', (∀ B w0, B ≤ gO → Below B w0 W → Below B w0 W') → R (.returned (.agg cs)) W')
    (hK : ∀ a w, Code.ret.wp Tryz.prog (Exit.noGoto (bodyPost Tryz.prog Tryz.f14 R)) a w → K a w) : (Code.region id ops false).wp Tryz.prog (Exit.then K Q) a W := by
  have hi : (Tryz.prog.info? 51).map (·.size) = some cs.size := by rw [hcs]; kernel_rfl
  refine wp_region ?_
  have hr : List.range ops.size = [0, 1] := by rw [hs]; rfl
  rw [hr, wpOps_cons]
  unfold wpOp
  simp only [h0, Region.wanted, q0, if_true]
  left
  refine wp_load_row 51 (.tmp 4) e0 gR h4 51 cs (0, 0) _ hR Tryz.underlying51 rfl hi ?_
  rw [wpOps_cons]
  unfold wpOp
  simp only [h1, Region.wanted, q1, if_true]
  left
  have h2' : (a.put o0.dst (.agg cs)).eval (.tmp 2) = .pointer (some ⟨gO, 0, none⟩) := by rw [Act.eval_put (fun d e => by rw [d0] at e; injection e with e; subst e; simp)]; exact h2
  have hy : (a.put o0.dst (.agg cs)).eval (.tmp 122) = .agg cs := by rw [d0]; simp [Act.eval, Act.put, hsz]
  refine wp_store_row 51 (.tmp 2) (.tmp 122) e1 gO cs h2' hy 51 old hO hi (by rw [hold, hcs]) hone ?_
  rw [d1]
  refine hK _ _ (wp_ret ?_)
  show bodyPost Tryz.prog Tryz.f14 R .ret _ _
  refine ⟨by rw [d0]; exact hd, .agg cs, results_cell_row rfl _ _ gO 51 cs (0, 0) _ ?_ (setRow_heap W gO old cs 51 (0, 0) hO) Tryz.underlying51 rfl hi, hQ _ fun B w0 hB hb => below_setRow hb hB cs⟩
  have : (a.put o0.dst (.agg cs)).tmps.getD 2 undef = _ := h2'
  exact this
theorem check_calls (k : Nat) (sa sr : Int) (A0 : Option Addr) (c0 : Nat) (SB : List S39) (ta tr ts : Int) (A1 : Option Addr) (c1 : Nat) (TB : List S57) (A2 : Option Addr) (c2 : Nat) (Wl : List (List S47)) (x : S51) (w : World)
    (h0 : Kd.C k39 w A0 SB.length SB) (hc0 : SB.length ≤ c0) (h1 : Kd.C k57 w A1 TB.length TB) (hc1 : TB.length ≤ c1) (h2 : Kd.C (Kd.slice 47 k47) w A2 Wl.length Wl) (hc2 : Wl.length ≤ c2) (hf : Qdm k sa sr SB ta tr ts TB Wl = some x) :
    Calls Tryz.prog 14 #[.agg #[.int .i64 sa, .int .i64 sr, .slice A0 SB.length c0, .int .i64 ta, .int .i64 tr, .int .i64 ts, .slice A1 TB.length c1, .slice A2 Wl.length c2]] w fun e w' => e = .returned (.agg #[.int .i64 x.f0, .int .i64 x.f1, .int .i64 x.f2, .int .i64 x.f3, .int .i64 x.f4, .int .i64 x.f5, .int .i64 x.f6]) ∧ Below w.heap.size w w' := by
  have hu22 := Tryz.underlying22
  have hu24 := Tryz.underlying24
  have hu25 := Tryz.underlying25
  have hu27 := Tryz.underlying27
  have hu28 := Tryz.underlying28
  have hu30 := Tryz.underlying30
  have hu37 := Tryz.underlying37
  have hu39 := Tryz.underlying39
  have hu44 := Tryz.underlying44
  have hu47 := Tryz.underlying47
  have hu49 := Tryz.underlying49
  have hu51 := Tryz.underlying51
  have hu57 := Tryz.underlying57
  have hu87 := Tryz.underlying87
  have hu89 := Tryz.underlying89
  have hu91 := Tryz.underlying91
  have H0 := As0 h0
  have H1 := As0 h1
  have H2 := As0 h2
  have HM0 := As0 h0.2.1
  have HB := As0 (Below.refl w.heap.size w)
  clear h0 h1 h2
  obtain ⟨y, hv, hx⟩ := Option.bind_eq_some_iff.mp hf
  clear hf
  by_cases hy : y = 0
  · rw [if_pos hy] at hx
    subst hy
    obtain ⟨⟨e0, e1, e2, e3, e4, e5, e6⟩, hbg, hx⟩ := Option.bind_eq_some_iff.mp hx
    by_cases he : e0 = 0
    · rw [if_pos he] at hx
      subst he
      have H := As0 hx
      clear hx
      go_enter Tryz.func14, Tryz.ntmps14
      go_wp2_with (first
        | ((with_reducible refine Qbn (N := 1) rfl ?_); refine bX (N := 1) (cs := #[.int .i64 sa, .int .i64 sr, .slice A0 SB.length c0, .int .i64 ta, .int .i64 tr, .int .i64 ts, .slice A1 TB.length c1, .slice A2 Wl.length c2]) (t := 30) ?_; intro gC hg w1 hbox hb; have C := As0 hbox; have GC := As0 (by rw [hg]; exact Qbp (BU HB.out) : w.heap.size ≤ gC); replace HB := As0 (Qbj (BU HB.out) hb); clear hb hbox hg)
        | ((with_reducible refine Qbn (N := 2) rfl ?_); refine bX (N := 2) (cs := #[.int .i64 0, .int .i64 0, .int .i64 0, .int .i64 0, .int .i64 0, .int .i64 0, .int .i64 0]) (t := 51) ?_; intro gO hg w2 hbox hb; have O := As0 hbox; have GO := As0 (by rw [hg]; exact Qbp (BU HB.out) : w.heap.size ≤ gO); have NCO := As0 (by have := Qbz C.out; omega : gC ≠ gO); replace C := As0 (Qbo C.out hb); replace HB := As0 (Qbj (BU HB.out) hb); (have c_0 := (Qbl C.out 0).trans rfl; have c_f0 := Qbk C.out 0; have c_1 := (Qbl C.out 1).trans rfl; have c_f1 := Qbk C.out 1; have c_2 := (Qbl C.out 2).trans rfl; have c_f2 := Qbk C.out 2; have c_3 := (Qbl C.out 3).trans rfl; have c_f3 := Qbk C.out 3; have c_4 := (Qbl C.out 4).trans rfl; have c_f4 := Qbk C.out 4; have c_5 := (Qbl C.out 5).trans rfl; have c_f5 := Qbk C.out 5; have c_6 := (Qbl C.out 6).trans rfl; have c_f6 := Qbk C.out 6; have c_7 := (Qbl C.out 7).trans rfl; have c_f7 := Qbk C.out 7); clear hb hbox hg))
      go_step3
      go_wp2_with (first
        | (go_at_call 31; refine (Qba.calls k sa sr A0 c0 SB ta tr ts A1 c1 TB A2 c2 Wl _ _ (Kd.C_below H0.out (BU HB.out)) hc0 (Kd.C_below H1.out (BU HB.out)) hc1 (Kd.C_below H2.out (BU HB.out)) hc2 hv).mono ?_; rintro e w3 ⟨rfl, hb⟩; clear c_0 c_1 c_2 c_3 c_4 c_5 c_6 c_7 c_f0 c_f1 c_f2 c_f3 c_f4 c_f5 c_f6 c_f7; replace C := As0 (Qbo C.out hb); replace O := As0 (Qbo O.out hb); replace HB := As0 (Qbj (BU HB.out) hb); (have c_0 := (Qbl C.out 0).trans rfl; have c_f0 := Qbk C.out 0; have c_1 := (Qbl C.out 1).trans rfl; have c_f1 := Qbk C.out 1; have c_2 := (Qbl C.out 2).trans rfl; have c_f2 := Qbk C.out 2; have c_3 := (Qbl C.out 3).trans rfl; have c_f3 := Qbk C.out 3; have c_4 := (Qbl C.out 4).trans rfl; have c_f4 := Qbk C.out 4; have c_5 := (Qbl C.out 5).trans rfl; have c_f5 := Qbk C.out 5; have c_6 := (Qbl C.out 6).trans rfl; have c_f6 := Qbk C.out 6; have c_7 := (Qbl C.out 7).trans rfl; have c_f7 := Qbk C.out 7); clear hb)
        | (go_at_call 32; refine (Qa1.calls k sa sr A0 c0 SB ta tr ts A1 c1 TB A2 c2 Wl _ _ _ _ _ _ _ _ (Kd.C_below H0.out (BU HB.out)) hc0 (Kd.C_below H1.out (BU HB.out)) hc1 (Kd.C_below H2.out (BU HB.out)) hc2 hbg).mono ?_; rintro e w4 ⟨rfl, hb⟩; clear c_0 c_1 c_2 c_3 c_4 c_5 c_6 c_7 c_f0 c_f1 c_f2 c_f3 c_f4 c_f5 c_f6 c_f7; replace C := As0 (Qbo C.out hb); replace O := As0 (Qbo O.out hb); replace HB := As0 (Qbj (BU HB.out) hb); (have c_0 := (Qbl C.out 0).trans rfl; have c_f0 := Qbk C.out 0; have c_1 := (Qbl C.out 1).trans rfl; have c_f1 := Qbk C.out 1; have c_2 := (Qbl C.out 2).trans rfl; have c_f2 := Qbk C.out 2; have c_3 := (Qbl C.out 3).trans rfl; have c_f3 := Qbk C.out 3; have c_4 := (Qbl C.out 4).trans rfl; have c_f4 := Qbk C.out 4; have c_5 := (Qbl C.out 5).trans rfl; have c_f5 := Qbk C.out 5; have c_6 := (Qbl C.out 6).trans rfl; have c_f6 := Qbk C.out 6; have c_7 := (Qbl C.out 7).trans rfl; have c_f7 := Qbk C.out 7); clear hb)
        | ((with_reducible refine Qbn (N := 4) rfl ?_); refine bX (N := 4) (cs := #[.int .i64 0, .int .i64 0, .int .i64 0, .int .i64 0, .int .i64 0, .int .i64 0, .int .i64 0]) (t := 51) ?_; intro gR hg w5 hbox hb; have R := As0 hbox; have GR := As0 (by rw [hg]; exact Qbp (BU HB.out) : w.heap.size ≤ gR); have NCR := As0 (by have := Qbz C.out; omega : gC ≠ gR); have NOR := As0 (by have := Qbz O.out; omega : gO ≠ gR); replace C := As0 (Qbo C.out hb); replace O := As0 (Qbo O.out hb); replace HB := As0 (Qbj (BU HB.out) hb); clear c_0 c_1 c_2 c_3 c_4 c_5 c_6 c_7 c_f0 c_f1 c_f2 c_f3 c_f4 c_f5 c_f6 c_f7; (have c_0 := (Qbl C.out 0).trans rfl; have c_f0 := Qbk C.out 0; have c_1 := (Qbl C.out 1).trans rfl; have c_f1 := Qbk C.out 1; have c_2 := (Qbl C.out 2).trans rfl; have c_f2 := Qbk C.out 2; have c_3 := (Qbl C.out 3).trans rfl; have c_f3 := Qbk C.out 3; have c_4 := (Qbl C.out 4).trans rfl; have c_f4 := Qbk C.out 4; have c_5 := (Qbl C.out 5).trans rfl; have c_f5 := Qbk C.out 5; have c_6 := (Qbl C.out 6).trans rfl; have c_f6 := Qbk C.out 6; have c_7 := (Qbl C.out 7).trans rfl; have c_f7 := Qbk C.out 7); clear hb hbox hg)
        | ((with_reducible refine Qc6 (.store 51 (.tmp 4) (.tmp 19)) rfl ?_); go_loud (refine Qat rfl rfl 51 _ _ rfl gR #[.int .i64 0, .int .i64 e1, .int .i64 e2, .int .i64 e3, .int .i64 e4, .int .i64 e5, .int .i64 e6] rfl rfl 51 #[.int .i64 0, .int .i64 0, .int .i64 0, .int .i64 0, .int .i64 0, .int .i64 0, .int .i64 0] R.out (by kernel_rfl) rfl (by kernel_rfl) ?_); intro w6 hg ho hB; replace HB := As0 (hB _ _ GR.out (BU HB.out)); replace R := As0 hg; replace C := As0 ((ho _ NCR.out).trans C.out); replace O := As0 ((ho _ NOR.out).trans O.out); clear c_0 c_1 c_2 c_3 c_4 c_5 c_6 c_7 c_f0 c_f1 c_f2 c_f3 c_f4 c_f5 c_f6 c_f7; (have c_0 := (Qbl C.out 0).trans rfl; have c_f0 := Qbk C.out 0; have c_1 := (Qbl C.out 1).trans rfl; have c_f1 := Qbk C.out 1; have c_2 := (Qbl C.out 2).trans rfl; have c_f2 := Qbk C.out 2; have c_3 := (Qbl C.out 3).trans rfl; have c_f3 := Qbk C.out 3; have c_4 := (Qbl C.out 4).trans rfl; have c_f4 := Qbk C.out 4; have c_5 := (Qbl C.out 5).trans rfl; have c_f5 := Qbk C.out 5; have c_6 := (Qbl C.out 6).trans rfl; have c_f6 := Qbk C.out 6; have c_7 := (Qbl C.out 7).trans rfl; have c_f7 := Qbk C.out 7); (have r_0 := (Qbl R.out 0).trans rfl; have r_f0 := Qbk R.out 0; have r_1 := (Qbl R.out 1).trans rfl; have r_f1 := Qbk R.out 1; have r_2 := (Qbl R.out 2).trans rfl; have r_f2 := Qbk R.out 2; have r_3 := (Qbl R.out 3).trans rfl; have r_f3 := Qbk R.out 3; have r_4 := (Qbl R.out 4).trans rfl; have r_f4 := Qbk R.out 4; have r_5 := (Qbl R.out 5).trans rfl; have r_f5 := Qbk R.out 5; have r_6 := (Qbl R.out 6).trans rfl; have r_f6 := Qbk R.out 6); clear hg ho hB))
      go_step3
      go_wp2
      go_loopg [28] (SB.length + 1) (fun n v28 w' => ∃ (i : Nat) (e : S51), v28 = .int .i64 (i : Int) ∧ Qbm (i ≤ SB.length ∧ SB.length - i < n) ∧ Qbm (Qcc k TB Wl (SB.drop i) i e = some x) ∧ Qbm (Below w.heap.size w w') ∧ Qbm (w'.heap[gC]? = some (.cells #[.int .i64 sa, .int .i64 sr, .slice A0 SB.length c0, .int .i64 ta, .int .i64 tr, .int .i64 ts, .slice A1 TB.length c1, .slice A2 Wl.length c2] 30 (0, 0))) ∧ Qbm (w'.heap[gO]? = some (.cells #[.int .i64 0, .int .i64 0, .int .i64 0, .int .i64 0, .int .i64 0, .int .i64 0, .int .i64 0] 51 (0, 0))) ∧ Qbm (w'.heap[gR]? = some (.cells #[.int .i64 e.f0, .int .i64 e.f1, .int .i64 e.f2, .int .i64 e.f3, .int .i64 e.f4, .int .i64 e.f5, .int .i64 e.f6] 51 (0, 0))))
      case atStart => exact ⟨0, ⟨0, e1, e2, e3, e4, e5, e6⟩, rfl, ⟨by omega, by omega⟩, ⟨by rw [List.drop_zero]; exact H.out⟩, HB, C, O, R⟩
      case round =>
        clear c_0 c_1 c_2 c_3 c_4 c_5 c_6 c_7 c_f0 c_f1 c_f2 c_f3 c_f4 c_f5 c_f6 c_f7 r_0 r_1 r_2 r_3 r_4 r_5 r_6 r_f0 r_f1 r_f2 r_f3 r_f4 r_f5 r_f6 HB C O R H
        obtain ⟨i, e, rfl, HI, H, HB, C, O, R⟩ := hrel
        by_cases hi : i < SB.length
        · have hlt : (i : Int) < (SB.length : Int) := by omega
          have h0' : (0 : Int) ≤ (i : Int) := by omega
          obtain ⟨adS, A0b, c0b, eS, hS0, hS1, hS2, hS3, hS4, hcb, hB0⟩ := at_T39 H0.out i h0' hlt
          cases eS
          have hw : Go.RowKit.wrap64 ((i : Int) + 1) = ((i + 1 : Nat) : Int) := by have := HM0.out; unfold Go.RowKit.wrap64; omega
          have hp : Qap SB (i : Int) = SB[i] := by simp [Qap, List.getD_eq_getElem?_getD, hi]
          have hdr : SB.drop i = SB[i] :: SB.drop (i + 1) := by rw [List.drop_eq_getElem_cons hi]
          have H' := H.out
          rw [hdr] at H'
          rw [hp] at hS0 hS1 hS2 hS3 hS4 hcb hB0
          simp only [Int.toNat_natCast] at hS0 hS1 hS2 hS3 hS4
          generalize SB[i] = p at hS0 hS1 hS2 hS3 hS4 hcb hB0 H'
          clear hp hdr
          simp only [Qcc] at H'
          by_cases hb2 : (i : Int) < (TB.length : Int) ∧ (i : Int) < (Wl.length : Int)
          · rw [if_pos hb2] at H'
            obtain ⟨y1, y2⟩ := hb2
            obtain ⟨adT, A1m, c1m, eT, hT0, hT1, hT2, hT3, hT4, hcm, hM0⟩ := at_T57 H1.out i h0' y1
            cases eT
            obtain ⟨adW, A2w, c2w, eW, hW0, hcw, hP0⟩ := Qeb H2.out i h0' y2
            cases eW
            simp only [Int.toNat_natCast] at hT0 hT1 hT2 hT3 hT4 hW0
            have y0d : decide ((0 : Int) ≤ (i : Int)) = true := decide_eq_true h0'
            have y1d := decide_eq_true y1
            have y2d := decide_eq_true y2
            generalize Qam TB (i : Int) = pm at hT0 hT1 hT2 hT3 hT4 hcm hM0 H'
            generalize Qa4 Wl (i : Int) = pw at hW0 hcw hP0 H'
            obtain ⟨xb, hxb, H'⟩ := Option.bind_eq_some_iff.mp H'
            have HX := As0 hxb
            have HH := As0 H'
            replace hB0 := As0 hB0
            replace hM0 := As0 hM0
            replace hP0 := As0 hP0
            clear hxb H'
            have hz0 := cl HB hS0
            have hz1 := cl HB hS1
            have hz2 := cl HB hS2
            have hz3 := cl HB hS3
            have hz4 := cl HB hS4
            (have c_0 := (Qbl C.out 0).trans rfl; have c_f0 := Qbk C.out 0; have c_1 := (Qbl C.out 1).trans rfl; have c_f1 := Qbk C.out 1; have c_2 := (Qbl C.out 2).trans rfl; have c_f2 := Qbk C.out 2; have c_3 := (Qbl C.out 3).trans rfl; have c_f3 := Qbk C.out 3; have c_4 := (Qbl C.out 4).trans rfl; have c_f4 := Qbk C.out 4; have c_5 := (Qbl C.out 5).trans rfl; have c_f5 := Qbk C.out 5; have c_6 := (Qbl C.out 6).trans rfl; have c_f6 := Qbk C.out 6; have c_7 := (Qbl C.out 7).trans rfl; have c_f7 := Qbk C.out 7); (have r_0 := (Qbl R.out 0).trans rfl; have r_f0 := Qbk R.out 0; have r_1 := (Qbl R.out 1).trans rfl; have r_f1 := Qbk R.out 1; have r_2 := (Qbl R.out 2).trans rfl; have r_f2 := Qbk R.out 2; have r_3 := (Qbl R.out 3).trans rfl; have r_f3 := Qbk R.out 3; have r_4 := (Qbl R.out 4).trans rfl; have r_f4 := Qbk R.out 4; have r_5 := (Qbl R.out 5).trans rfl; have r_f5 := Qbk R.out 5; have r_6 := (Qbl R.out 6).trans rfl; have r_f6 := Qbk R.out 6)
            go_wp2_with (first
              | ((with_reducible refine Qbn (N := 6) rfl ?_); refine bX (N := 6) (cs := #[.slice none 0 0, .int .i64 0, .int .i64 0, .int .i64 0, .int .i64 0]) (t := 39) ?_; intro gB hg w7 hbox hb; have B := As0 hbox; have GB := As0 (by rw [hg]; exact Qbp (BU HB.out) : w.heap.size ≤ gB); have NCB := As0 (by have := Qbz C.out; omega : gC ≠ gB); have NOB := As0 (by have := Qbz O.out; omega : gO ≠ gB); have NRB := As0 (by have := Qbz R.out; omega : gR ≠ gB); replace C := As0 (Qbo C.out hb); replace O := As0 (Qbo O.out hb); replace R := As0 (Qbo R.out hb); replace HB := As0 (Qbj (BU HB.out) hb); clear hb hbox hg)
              | ((with_reducible refine Qc6 (.store 39 (.tmp 6) (.tmp 32)) rfl ?_); go_loud (refine Qat rfl rfl 39 _ _ rfl gB #[.slice A0b p.f0.length c0b, .int .i64 p.f1.f0, .int .i64 p.f1.f1, .int .i64 p.f1.f2, .int .i64 p.f1.f3] rfl rfl 39 #[.slice none 0 0, .int .i64 0, .int .i64 0, .int .i64 0, .int .i64 0] B.out (by kernel_rfl) rfl (by kernel_rfl) ?_); intro w8 hg ho hB; replace HB := As0 (hB _ _ GB.out (BU HB.out)); replace B := As0 hg; replace C := As0 ((ho _ NCB.out).trans C.out); replace O := As0 ((ho _ NOB.out).trans O.out); replace R := As0 ((ho _ NRB.out).trans R.out); clear hg ho hB))
            replace B := As0 (Qbu B.out)
            replace C := As0 (Qbu C.out)
            replace O := As0 (Qbu O.out)
            replace R := As0 (Qbu R.out)
            replace HB := As0 (bd1 HB.out)
            refine Qcd (n := 15) (S := fun w' => w'.cell? ⟨gB, 0, none⟩ = some (.slice A0b p.f0.length c0b) ∧ w'.cell? ⟨gB, 1, none⟩ = some (.int .i64 p.f1.f0) ∧ w'.cell? ⟨gB, 2, none⟩ = some (.int .i64 p.f1.f1) ∧ w'.cell? ⟨gB, 3, none⟩ = some (.int .i64 p.f1.f2) ∧ w'.cell? ⟨gB, 4, none⟩ = some (.int .i64 p.f1.f3) ∧ w'.cell? ⟨gC, 6, none⟩ = some (.slice (some adT) TB.length c1) ∧ w'.cell? (adT.add (i * 5)) = some (.slice A1m pm.f0.length c1m) ∧ w'.cell? ⟨(adT.add (i * 5)).block, (adT.add (i * 5)).off + 1, none⟩ = some (.int .i64 pm.f1.f0) ∧ w'.cell? ⟨(adT.add (i * 5)).block, (adT.add (i * 5)).off + 2, none⟩ = some (.int .i64 pm.f1.f1) ∧ w'.cell? ⟨(adT.add (i * 5)).block, (adT.add (i * 5)).off + 3, none⟩ = some (.int .i64 pm.f1.f2) ∧ w'.cell? ⟨(adT.add (i * 5)).block, (adT.add (i * 5)).off + 4, none⟩ = some (.int .i64 pm.f1.f3) ∧ w'.cell? ⟨gC, 7, none⟩ = some (.slice (some adW) Wl.length c2) ∧ w'.cell? (adW.add i) = some (.slice A2w pw.length c2w)) (ds := [14]) (bb 15 0) (by kernel_rfl) rfl rfl ⟨(bc B 0), (bc B 1), (bc B 2), (bc B 3), (bc B 4), (bc C 6), (cl HB hT0), (cl HB hT1), (cl HB hT2), (cl HB hT3), (cl HB hT4), (bc C 7), (cl HB hW0)⟩ (fun hHeld => ?_)
            generalize w8.drew = wd at B C O R HB hHeld ⊢
            refine pu 1 34 (bb 15 2) ?_
            refine pu 2 35 (bb 15 6) ?_
            refine pu 4 37 (bb 15 22) ?_
            refine pu 7 40 (bb 15 150) ?_
            refine pu 9 42 (bb 15 662) ?_
            refine tu hHeld 0 33 (bb 15 663) ?_
            refine tu hHeld 3 36 (bb 15 671) ?_
            refine pu 5 38 (bb 15 703) ?_
            refine tu hHeld 6 39 (bb 15 767) ?_
            refine tu hHeld 8 41 (bb 15 1023) ?_
            refine pu 10 43 (bb 15 2047) ?_
            refine tu hHeld 11 44 (bb 15 4095) ?_
            refine join_ (σ := Option Addr × Nat × Nat) 1 (bb 15 16383) (fun s_ => [(45, .agg #[.slice s_.1 xb.f0.length s_.2.1, .int .i64 xb.f1, .int .i64 xb.f2, .int .i64 xb.f3, .int .i64 xb.f4]), (7, .pointer (some ⟨s_.2.2, 0, none⟩))]) (fun s_ w' => (w'.cell? ⟨gB, 0, none⟩ = some (.slice A0b p.f0.length c0b) ∧ w'.cell? ⟨gB, 1, none⟩ = some (.int .i64 p.f1.f0) ∧ w'.cell? ⟨gB, 2, none⟩ = some (.int .i64 p.f1.f1) ∧ w'.cell? ⟨gB, 3, none⟩ = some (.int .i64 p.f1.f2) ∧ w'.cell? ⟨gB, 4, none⟩ = some (.int .i64 p.f1.f3) ∧ w'.cell? ⟨gC, 6, none⟩ = some (.slice (some adT) TB.length c1) ∧ w'.cell? (adT.add (i * 5)) = some (.slice A1m pm.f0.length c1m) ∧ w'.cell? ⟨(adT.add (i * 5)).block, (adT.add (i * 5)).off + 1, none⟩ = some (.int .i64 pm.f1.f0) ∧ w'.cell? ⟨(adT.add (i * 5)).block, (adT.add (i * 5)).off + 2, none⟩ = some (.int .i64 pm.f1.f1) ∧ w'.cell? ⟨(adT.add (i * 5)).block, (adT.add (i * 5)).off + 3, none⟩ = some (.int .i64 pm.f1.f2) ∧ w'.cell? ⟨(adT.add (i * 5)).block, (adT.add (i * 5)).off + 4, none⟩ = some (.int .i64 pm.f1.f3) ∧ w'.cell? ⟨gC, 7, none⟩ = some (.slice (some adW) Wl.length c2) ∧ w'.cell? (adW.add i) = some (.slice A2w pw.length c2w)) ∧ xb.f0.length ≤ s_.2.1 ∧ Qbm (OutR w' s_.1 xb.f0) ∧ Qbm (w'.heap[s_.2.2]? = some (.cells #[.slice none 0 0, .int .i64 0, .int .i64 0, .int .i64 0, .int .i64 0] 87 (0, 0))) ∧ Qbm (w.heap.size ≤ s_.2.2) ∧ Qbm (Below w.heap.size w w') ∧ Qbm (w'.heap[gB]? = some (.cells #[.slice A0b p.f0.length c0b, .int .i64 p.f1.f0, .int .i64 p.f1.f1, .int .i64 p.f1.f2, .int .i64 p.f1.f3] 39 (0, 0))) ∧ Qbm (w'.heap[gC]? = some (.cells #[.int .i64 sa, .int .i64 sr, .slice (some adS) SB.length c0, .int .i64 ta, .int .i64 tr, .int .i64 ts, .slice (some adT) TB.length c1, .slice (some adW) Wl.length c2] 30 (0, 0))) ∧ Qbm (w'.heap[gO]? = some (.cells #[.int .i64 0, .int .i64 0, .int .i64 0, .int .i64 0, .int .i64 0, .int .i64 0, .int .i64 0] 51 (0, 0))) ∧ Qbm (w'.heap[gR]? = some (.cells #[.int .i64 e.f0, .int .i64 e.f1, .int .i64 e.f2, .int .i64 e.f3, .int .i64 e.f4, .int .i64 e.f5, .int .i64 e.f6] 51 (0, 0))) ∧ Qbm (gB ≠ s_.2.2) ∧ Qbm (gC ≠ s_.2.2) ∧ Qbm (gO ≠ s_.2.2) ∧ Qbm (gR ≠ s_.2.2)) ?_ ?_
            rotate_left
            · intro hCont
              refine two_ (i := 12) (j := 13) (Ni := some 45) (Nj := some 7) (bb 15 8191) (bb 15 12287) rfl rfl rfl rfl (by kernel_rfl) (by decide) (by decide) (fun K hK => ?_) (fun K hK => ?_)
              · skip
                refine Qcz Tryz.func33 (by kernel_rfl) rfl #[.agg #[.slice A0b p.f0.length c0b, .int .i64 p.f1.f0, .int .i64 p.f1.f1, .int .i64 p.f1.f2, .int .i64 p.f1.f3], .agg #[.slice A1m pm.f0.length c1m, .int .i64 pm.f1.f0, .int .i64 pm.f1.f1, .int .i64 pm.f1.f2, .int .i64 pm.f1.f3], .slice A2w pw.length c2w, .int .i64 1048576] (by rfl) rfl rfl (by simp only [List.map_toArray, List.map_cons, List.map_nil]; rfl) ?_
                with_reducible refine (block_calls k A0b c0b p.f0 p.f1 A1m c1m pm.f0 pm.f1 A2w c2w pw 1048576 xb _ (Kd.C_below hB0.out (BU HB.out)) hcb (Kd.C_below hM0.out (BU HB.out)) hcm (Kd.C_below hP0.out (BU HB.out)) HX.out).mono ?_
                rintro e w9 ⟨Ao, co, rfl, hco, hCo, hTy, hb⟩
                refine ⟨_, rfl, ?_⟩
                have HCo := As0 (show OutR w9 Ao xb.f0 from ⟨hCo, hTy⟩)
                clear hTy
                replace B := As0 (Qbo B.out hb)
                replace C := As0 (Qbo C.out hb)
                replace O := As0 (Qbo O.out hb)
                replace R := As0 (Qbo R.out hb)
                replace HB := As0 (Qbj (BU HB.out) hb)
                clear hb hCo
                refine hK.out _ _ ⟨(bc B 0), (bc B 1), (bc B 2), (bc B 3), (bc B 4), (bc C 6), (cl HB hT0), (cl HB hT1), (cl HB hT2), (cl HB hT3), (cl HB hT4), (bc C 7), (cl HB hW0)⟩ (fun hHeld => ?_)
                clear hK K
                refine Qb5 (a' := ?_) ?_ ?_
                rotate_left
                · show Act.put _ (some 45) _ = _
                  simp only [Act.put, List.setIfInBounds_toArray, List.set_cons_zero, List.set_cons_succ, Qbw, Qbx]
                  rfl
                refine one_ (i := 13) (N := some 7) (bb 15 16383) rfl rfl (by kernel_rfl) (by decide) (fun K hK => ?_)
                refine value_ (w1 := ?_) (v := ?_) (by rfl) rfl ?_ ?_
                rotate_left 2
                · go_simp
                  constructor
                  · rfl
                  · rfl
                have X := As0 (Qde (w9) (.cells #[.slice none 0 0, .int .i64 0, .int .i64 0, .int .i64 0, .int .i64 0] 87 (0, 0)))
                have hb := Qb3 (Below.refl (w9).heap.size (w9)) (.cells #[.slice none 0 0, .int .i64 0, .int .i64 0, .int .i64 0, .int .i64 0] 87 (0, 0))
                have GX := As0 (Qbp (BU HB.out) : w.heap.size ≤ (w9).heap.size)
                have NBX := As0 (Nat.ne_of_lt (Qbz (w := w9) B.out) : gB ≠ (w9).heap.size)
                have NCX := As0 (Nat.ne_of_lt (Qbz (w := w9) C.out) : gC ≠ (w9).heap.size)
                have NOX := As0 (Nat.ne_of_lt (Qbz (w := w9) O.out) : gO ≠ (w9).heap.size)
                have NRX := As0 (Nat.ne_of_lt (Qbz (w := w9) R.out) : gR ≠ (w9).heap.size)
                replace B := As0 (Qbo B.out hb)
                replace C := As0 (Qbo C.out hb)
                replace O := As0 (Qbo O.out hb)
                replace R := As0 (Qbo R.out hb)
                replace HB := As0 (Qbj (BU HB.out) hb)
                replace HCo := As0 (HCo.out.below hb)
                clear hb
                generalize (w9).alloc (.cells #[.slice none 0 0, .int .i64 0, .int .i64 0, .int .i64 0, .int .i64 0] 87 (0, 0)) = w10 at *
                generalize (w9).heap.size = gX at *
                refine hK.out _ _ ⟨(bc B 0), (bc B 1), (bc B 2), (bc B 3), (bc B 4), (bc C 6), (cl HB hT0), (cl HB hT1), (cl HB hT2), (cl HB hT3), (cl HB hT4), (bc C 7), (cl HB hW0)⟩ (fun hHeld => ?_)
                clear hK K
                refine Qb5 (a' := ?_) ?_ ?_
                rotate_left
                · show Act.put _ (some 7) _ = _
                  simp only [Act.put, List.setIfInBounds_toArray, List.set_cons_zero, List.set_cons_succ, Qbw, Qbx]
                  rfl
                exact Qb5 (by simp only [Qdf, Act.put, List.setIfInBounds_toArray, List.set_cons_zero, List.set_cons_succ]) (hCont (Ao, co, gX) _ ⟨hHeld, hco, HCo, X, GX, HB, B, C, O, R, NBX, NCX, NOX, NRX⟩)
              · skip
                refine value_ (w1 := ?_) (v := ?_) (by rfl) rfl ?_ ?_
                rotate_left 2
                · go_simp
                  constructor
                  · rfl
                  · rfl
                have X := As0 (Qde (wd) (.cells #[.slice none 0 0, .int .i64 0, .int .i64 0, .int .i64 0, .int .i64 0] 87 (0, 0)))
                have hb := Qb3 (Below.refl (wd).heap.size (wd)) (.cells #[.slice none 0 0, .int .i64 0, .int .i64 0, .int .i64 0, .int .i64 0] 87 (0, 0))
                have GX := As0 (Qbp (BU HB.out) : w.heap.size ≤ (wd).heap.size)
                have NBX := As0 (Nat.ne_of_lt (Qbz (w := wd) B.out) : gB ≠ (wd).heap.size)
                have NCX := As0 (Nat.ne_of_lt (Qbz (w := wd) C.out) : gC ≠ (wd).heap.size)
                have NOX := As0 (Nat.ne_of_lt (Qbz (w := wd) O.out) : gO ≠ (wd).heap.size)
                have NRX := As0 (Nat.ne_of_lt (Qbz (w := wd) R.out) : gR ≠ (wd).heap.size)
                replace B := As0 (Qbo B.out hb)
                replace C := As0 (Qbo C.out hb)
                replace O := As0 (Qbo O.out hb)
                replace R := As0 (Qbo R.out hb)
                replace HB := As0 (Qbj (BU HB.out) hb)
                clear hb
                generalize (wd).alloc (.cells #[.slice none 0 0, .int .i64 0, .int .i64 0, .int .i64 0, .int .i64 0] 87 (0, 0)) = w10 at *
                generalize (wd).heap.size = gX at *
                refine hK.out _ _ ⟨(bc B 0), (bc B 1), (bc B 2), (bc B 3), (bc B 4), (bc C 6), (cl HB hT0), (cl HB hT1), (cl HB hT2), (cl HB hT3), (cl HB hT4), (bc C 7), (cl HB hW0)⟩ (fun hHeld => ?_)
                clear hK K
                refine Qb5 (a' := ?_) ?_ ?_
                rotate_left
                · show Act.put _ (some 7) _ = _
                  simp only [Act.put, List.setIfInBounds_toArray, List.set_cons_zero, List.set_cons_succ, Qbw, Qbx]
                  rfl
                refine one_ (i := 12) (N := some 45) (bb 15 16383) rfl rfl (by kernel_rfl) (by decide) (fun K hK => ?_)
                refine Qcz Tryz.func33 (by kernel_rfl) rfl #[.agg #[.slice A0b p.f0.length c0b, .int .i64 p.f1.f0, .int .i64 p.f1.f1, .int .i64 p.f1.f2, .int .i64 p.f1.f3], .agg #[.slice A1m pm.f0.length c1m, .int .i64 pm.f1.f0, .int .i64 pm.f1.f1, .int .i64 pm.f1.f2, .int .i64 pm.f1.f3], .slice A2w pw.length c2w, .int .i64 1048576] (by rfl) rfl rfl (by simp only [List.map_toArray, List.map_cons, List.map_nil]; rfl) ?_
                with_reducible refine (block_calls k A0b c0b p.f0 p.f1 A1m c1m pm.f0 pm.f1 A2w c2w pw 1048576 xb _ (Kd.C_below hB0.out (BU HB.out)) hcb (Kd.C_below hM0.out (BU HB.out)) hcm (Kd.C_below hP0.out (BU HB.out)) HX.out).mono ?_
                rintro e w9 ⟨Ao, co, rfl, hco, hCo, hTy, hb⟩
                refine ⟨_, rfl, ?_⟩
                have HCo := As0 (show OutR w9 Ao xb.f0 from ⟨hCo, hTy⟩)
                clear hTy
                replace X := As0 (Qbo X.out hb)
                replace B := As0 (Qbo B.out hb)
                replace C := As0 (Qbo C.out hb)
                replace O := As0 (Qbo O.out hb)
                replace R := As0 (Qbo R.out hb)
                replace HB := As0 (Qbj (BU HB.out) hb)
                clear hb hCo
                refine hK.out _ _ ⟨(bc B 0), (bc B 1), (bc B 2), (bc B 3), (bc B 4), (bc C 6), (cl HB hT0), (cl HB hT1), (cl HB hT2), (cl HB hT3), (cl HB hT4), (bc C 7), (cl HB hW0)⟩ (fun hHeld => ?_)
                clear hK K
                refine Qb5 (a' := ?_) ?_ ?_
                rotate_left
                · show Act.put _ (some 45) _ = _
                  simp only [Act.put, List.setIfInBounds_toArray, List.set_cons_zero, List.set_cons_succ, Qbw, Qbx]
                  rfl
                exact Qb5 (by simp only [Qdf, Act.put, List.setIfInBounds_toArray, List.set_cons_zero, List.set_cons_succ]) (hCont (Ao, co, gX) _ ⟨hHeld, hco, HCo, X, GX, HB, B, C, O, R, NBX, NCX, NOX, NRX⟩)
            clear HB B C O R
            rintro ⟨Ao, co, gX⟩ w10 ⟨hHeld, hco, HCo, X, GX, HB, B, C, O, R, NBX, NCX, NOX, NRX⟩
            dsimp only at hco HCo X GX NBX NCX NOX NRX ⊢
            (have x_0 := (Qbl X.out 0).trans rfl; have x_f0 := Qbk X.out 0; have x_1 := (Qbl X.out 1).trans rfl; have x_f1 := Qbk X.out 1; have x_2 := (Qbl X.out 2).trans rfl; have x_f2 := Qbk X.out 2; have x_3 := (Qbl X.out 3).trans rfl; have x_f3 := Qbk X.out 3; have x_4 := (Qbl X.out 4).trans rfl; have x_f4 := Qbk X.out 4)
            refine Qb5 (a' := ?_) ?_ ?_
            rotate_left
            · simp only [Qdf, Act.put, List.setIfInBounds_toArray, List.set_cons_zero, List.set_cons_succ]
              rfl
            refine Qdz (i := 14) (N := none) (bb 15 32767) rfl rfl (by kernel_rfl) (by decide) (fun K hK => ?_)
            refine skip_ (w1 := ?_) (by rfl) rfl ?_ ?_
            rotate_left
            · go_simp
              rfl
            refine hK.out _ _ ?_
            clear hK K
            refine Qc0 (by kernel_rfl) ?_
            have hOx := ((((On.refl gX w10).set 0 (.slice Ao xb.f0.length co)).set 1 (.int .i64 xb.f1)).set 2 (.int .i64 xb.f2)).set 3 (.int .i64 xb.f3) |>.set 4 (.int .i64 xb.f4)
            have hx5 := put5 X.out (.slice Ao xb.f0.length co) (.int .i64 xb.f1) (.int .i64 xb.f2) (.int .i64 xb.f3) (.int .i64 xb.f4)
            generalize ((((w10.setCell ⟨gX, 0, none⟩ (.slice Ao xb.f0.length co)).setCell ⟨gX, 1, none⟩ (.int .i64 xb.f1)).setCell ⟨gX, 2, none⟩ (.int .i64 xb.f2)).setCell ⟨gX, 3, none⟩ (.int .i64 xb.f3)).setCell ⟨gX, 4, none⟩ (.int .i64 xb.f4) = w11 at hOx hx5 ⊢
            replace HCo := As0 (HCo.out.on hOx X.out (by decide))
            replace HB := As0 (hOx.2 _ _ GX.out HB.out)
            replace B := As0 ((hOx.1 _ NBX.out).trans B.out)
            replace C := As0 ((hOx.1 _ NCX.out).trans C.out)
            replace O := As0 ((hOx.1 _ NOX.out).trans O.out)
            replace R := As0 ((hOx.1 _ NRX.out).trans R.out)
            replace X := As0 hx5
            clear hx5 hOx x_0 x_1 x_2 x_3 x_4 x_f0 x_f1 x_f2 x_f3 x_f4 hS0 hS1 hS2 hS3 hS4 hz0 hz1 hz2 hz3 hz4 hT0 hT1 hT2 hT3 hT4 hW0 y0d y1d y2d hcb hcm hcw hB0 hM0 hP0 HX hHeld h0' hlt y1 y2
            (have x_0 := (Qbl X.out 0).trans rfl; have x_f0 := Qbk X.out 0; have x_1 := (Qbl X.out 1).trans rfl; have x_f1 := Qbk X.out 1; have x_2 := (Qbl X.out 2).trans rfl; have x_f2 := Qbk X.out 2; have x_3 := (Qbl X.out 3).trans rfl; have x_f3 := Qbk X.out 3; have x_4 := (Qbl X.out 4).trans rfl; have x_f4 := Qbk X.out 4)
            (have r_0 := (Qbl R.out 0).trans rfl; have r_f0 := Qbk R.out 0; have r_1 := (Qbl R.out 1).trans rfl; have r_f1 := Qbk R.out 1; have r_2 := (Qbl R.out 2).trans rfl; have r_f2 := Qbk R.out 2; have r_3 := (Qbl R.out 3).trans rfl; have r_f3 := Qbk R.out 3; have r_4 := (Qbl R.out 4).trans rfl; have r_f4 := Qbk R.out 4; have r_5 := (Qbl R.out 5).trans rfl; have r_f5 := Qbk R.out 5; have r_6 := (Qbl R.out 6).trans rfl; have r_f6 := Qbk R.out 6)
            as_aux_lemma =>
             have nrx := NRX.out
             have nrx' := nrx.symm
             obtain ⟨mx, hmx⟩ : ∃ mx, (if e.f6 < xb.f4 then xb.f4 else e.f6) = mx := ⟨_, rfl⟩
             have ncr := NCR.out
             have ncr' := ncr.symm
             have nbr := NRB.out
             have nbr' := nbr.symm
             go_wp2
             go_region
             go_upto_if 64 with (fail)
             obtain ⟨eN, heN⟩ : ∃ eN : S51, eN = nextR e xb := ⟨_, rfl⟩
             have hO_ := ((((On.refl gR w11).set 3 (.int .i64 (Go.RowKit.wrap64 (e.f3 + 1)))).set 5 (.int .i64 (Go.RowKit.wrap64 (e.f5 + xb.f3)))).set 6 (.int .i64 mx)).drew
             have hr_ := Qbu (put7a R.out (.int .i64 (Go.RowKit.wrap64 (e.f3 + 1))) (.int .i64 (Go.RowKit.wrap64 (e.f5 + xb.f3))) (.int .i64 mx))
             generalize ((((w11).setCell ⟨gR, 3, none⟩ (.int .i64 (Go.RowKit.wrap64 (e.f3 + 1)))).setCell ⟨gR, 5, none⟩ (.int .i64 (Go.RowKit.wrap64 (e.f5 + xb.f3)))).setCell ⟨gR, 6, none⟩ (.int .i64 mx)).drew = w12 at hO_ hr_ ⊢
             replace C := As0 ((hO_.1 _ NCR.out).trans C.out)
             replace O := As0 ((hO_.1 _ NOR.out).trans O.out)
             replace HCo := As0 (HCo.out.on hO_ R.out (by decide))
             replace B := As0 ((hO_.1 _ nbr').trans B.out)
             replace X := As0 ((hO_.1 _ nrx').trans X.out)
             replace R := As0 (show w12.heap[gR]? = some (.cells #[.int .i64 eN.f0, .int .i64 eN.f1, .int .i64 eN.f2, .int .i64 eN.f3, .int .i64 eN.f4, .int .i64 eN.f5, .int .i64 eN.f6] 51 (0, 0)) from by (have h6 : (nextR e xb).f6 = mx := hmx); rw [heN, h6]; exact hr_)
             replace HB := As0 (hO_.2 _ _ GR.out HB.out)
             replace HH := HH.out
             rw [← heN] at HH
             clear hmx hr_ hO_ heN x_0 x_1 x_2 x_3 x_4 x_f0 x_f1 x_f2 x_f3 x_f4 r_0 r_1 r_2 r_3 r_4 r_5 r_6 r_f0 r_f1 r_f2 r_f3 r_f4 r_f5 r_f6
             (have b_0 := (Qbl B.out 0).trans rfl; have b_f0 := Qbk B.out 0; have b_1 := (Qbl B.out 1).trans rfl; have b_f1 := Qbk B.out 1; have b_2 := (Qbl B.out 2).trans rfl; have b_f2 := Qbk B.out 2; have b_3 := (Qbl B.out 3).trans rfl; have b_f3 := Qbk B.out 3; have b_4 := (Qbl B.out 4).trans rfl; have b_f4 := Qbk B.out 4)
             as_aux_lemma =>
              by_cases hf1 : xb.f1 = 0
              · rw [if_pos hf1] at HH
                have hf1b : (xb.f1 != 0) = false := bne_eq_false_iff_eq.mpr hf1
                clear hf1
                obtain ⟨tg, htg, HH⟩ := Option.bind_eq_some_iff.mp HH
                replace HH := As0 HH
                go_wp2_with (go_at_call 34; refine (source_Successors.calls p.f1.f0 p.f1.f1 p.f1.f2 p.f1.f3 tg _ htg).mono ?_; rintro e w13 ⟨vt, rfl, ho, hb⟩; (obtain ⟨At, ct, et, hct, hCt⟩ := Kd.R_reads ho); subst et; have HNt := As0 (show ∀ ad, At = some ad → ad.block ≠ gR from fun ad e => (by subst e; have q := ((Kd.R_bound ho).1 ad.block rfl).2.1; have q2 := Qbz R.out; omega)); have HCt := As0 hCt; clear ho hCt b_0 b_1 b_2 b_3 b_4 b_f0 b_f1 b_f2 b_f3 b_f4; replace HCo := As0 (HCo.out.below hb); replace C := As0 (Qbo C.out hb); replace O := As0 (Qbo O.out hb); replace R := As0 (Qbo R.out hb); replace X := As0 (Qbo X.out hb); replace HB := As0 (Qbj (BU HB.out) hb); clear hb)
                have HMt := As0 HCt.out.2.1
                go_loopg [77] (tg.length + 1) (fun n v77 w' => ∃ (j : Nat) (ei : S51), v77 = .int .i64 (j : Int) ∧ Qbm (j ≤ tg.length ∧ tg.length - j < n) ∧ Qbm (Qdk k i Wl xb.f0 (tg.drop j) j ei (fun r2 => Qcc k TB Wl (SB.drop (i + 1)) (i + 1) r2) = some x) ∧ Qbm (Below w.heap.size w w') ∧ Qbm (w'.heap[gC]? = some (.cells #[.int .i64 sa, .int .i64 sr, .slice (some adS) SB.length c0, .int .i64 ta, .int .i64 tr, .int .i64 ts, .slice (some adT) TB.length c1, .slice (some adW) Wl.length c2] 30 (0, 0))) ∧ Qbm (w'.heap[gO]? = some (.cells #[.int .i64 0, .int .i64 0, .int .i64 0, .int .i64 0, .int .i64 0, .int .i64 0, .int .i64 0] 51 (0, 0))) ∧ Qbm (w'.heap[gR]? = some (.cells #[.int .i64 ei.f0, .int .i64 ei.f1, .int .i64 ei.f2, .int .i64 ei.f3, .int .i64 ei.f4, .int .i64 ei.f5, .int .i64 ei.f6] 51 (0, 0))) ∧ Qbm (w'.heap[gX]? = some (.cells #[.slice Ao xb.f0.length co, .int .i64 xb.f1, .int .i64 xb.f2, .int .i64 xb.f3, .int .i64 xb.f4] 87 (0, 0))) ∧ Qbm (OutR w' Ao xb.f0) ∧ Qbm (Kd.C (Kd.int .i64) w' At tg.length tg))
                case atStart => exact ⟨0, eN, rfl, ⟨by omega, by omega⟩, ⟨by rw [List.drop_zero]; exact HH.out⟩, ⟨BU HB.out⟩, C, O, R, X, HCo, HCt⟩
                case round =>
                  clear HB C O R X HCo HCt HH
                  obtain ⟨j, ei, rfl, HJ, HH, HB, C, O, R, X, HCo, HCt⟩ := hrel
                  as_aux_lemma =>
                   by_cases hj : j < tg.length
                   · have hjlt : (j : Int) < (tg.length : Int) := by omega
                     have hj0 : (0 : Int) ≤ (j : Int) := by omega
                     obtain ⟨adt, et, ht0⟩ := Kd.at_int HCt.out j hj0 hjlt
                     cases et
                     simp only [Int.toNat_natCast] at ht0
                     have hwj : Go.RowKit.wrap64 ((j : Int) + 1) = ((j + 1 : Nat) : Int) := by have := HMt.out; unfold Go.RowKit.wrap64; omega
                     have hpt : rd tg (j : Int) = tg[j] := by simp [rd, List.getD_eq_getElem?_getD, hj]
                     have hdt : tg.drop j = tg[j] :: tg.drop (j + 1) := by rw [List.drop_eq_getElem_cons hj]
                     have H' := HH.out
                     rw [hdt] at H'
                     rw [hpt] at ht0
                     generalize tg[j] = tv at ht0 H'
                     clear hpt hdt
                     simp only [Qdk] at H'
                     by_cases hb3 : 0 ≤ tv ∧ tv < (Wl.length : Int)
                     · rw [if_pos hb3] at H'
                       obtain ⟨z1, z2⟩ := hb3
                       obtain ⟨adW2, A2q, c2q, eW2, hq0, hcq, hQ0⟩ := Qeb H2.out tv z1 z2
                       cases eW2
                       have z1d := decide_eq_true z1
                       have z2d := decide_eq_true z2
                       have hn4 : (adW.add tv.toNat).block ≠ gR := by have q1 := wblt w hq0; have q2 := GR.out; omega
                       have hqw := cl HB hq0
                       generalize Qa4 Wl tv = wq at hq0 hcq hQ0 hqw H'
                       obtain ⟨⟨p0, p1, y⟩, hed, H'⟩ := Option.bind_eq_some_iff.mp H'
                       replace hQ0 := As0 hQ0
                       (have x_0 := (Qbl X.out 0).trans rfl; have x_f0 := Qbk X.out 0; have x_1 := (Qbl X.out 1).trans rfl; have x_f1 := Qbk X.out 1; have x_2 := (Qbl X.out 2).trans rfl; have x_f2 := Qbk X.out 2; have x_3 := (Qbl X.out 3).trans rfl; have x_f3 := Qbk X.out 3; have x_4 := (Qbl X.out 4).trans rfl; have x_f4 := Qbk X.out 4)
                       (have r_0 := (Qbl R.out 0).trans rfl; have r_f0 := Qbk R.out 0; have r_1 := (Qbl R.out 1).trans rfl; have r_f1 := Qbk R.out 1; have r_2 := (Qbl R.out 2).trans rfl; have r_f2 := Qbk R.out 2; have r_3 := (Qbl R.out 3).trans rfl; have r_f3 := Qbk R.out 3; have r_4 := (Qbl R.out 4).trans rfl; have r_f4 := Qbk R.out 4; have r_5 := (Qbl R.out 5).trans rfl; have r_f5 := Qbk R.out 5; have r_6 := (Qbl R.out 6).trans rfl; have r_f6 := Qbk R.out 6)
                       (have c_0 := (Qbl C.out 0).trans rfl; have c_f0 := Qbk C.out 0; have c_1 := (Qbl C.out 1).trans rfl; have c_f1 := Qbk C.out 1; have c_2 := (Qbl C.out 2).trans rfl; have c_f2 := Qbk C.out 2; have c_3 := (Qbl C.out 3).trans rfl; have c_f3 := Qbk C.out 3; have c_4 := (Qbl C.out 4).trans rfl; have c_f4 := Qbk C.out 4; have c_5 := (Qbl C.out 5).trans rfl; have c_f5 := Qbk C.out 5; have c_6 := (Qbl C.out 6).trans rfl; have c_f6 := Qbk C.out 6; have c_7 := (Qbl C.out 7).trans rfl; have c_f7 := Qbk C.out 7)
                       have hqs : ∀ u : Value, (wr.setCell ⟨gR, 4, none⟩ u).cell? (adW.add tv.toNat) = some (.slice A2q wq.length c2q) := fun u => (World.cell?_setCell_other _ _ _ _ (fun e => hn4 (congrArg Addr.block e).symm)).trans hqw
                       go_wp2
                       go_region
                       go_upto_region 18 with (fail)
                       obtain ⟨eN, heN⟩ : ∃ eN : S51, eN = edgeR ei xb.f0.length wq.length := ⟨_, rfl⟩
                       have hO_ := (((On.refl gR wr).set 4 (.int .i64 (Go.RowKit.wrap64 (ei.f4 + 1)))).set 5 (.int .i64 (Go.RowKit.wrap64 (Go.RowKit.wrap64 (Go.RowKit.wrap64 (ei.f5 + 1) + (xb.f0.length : Int)) + (wq.length : Int))))).drew
                       have hr_ := Qbu (put7c R.out (.int .i64 (Go.RowKit.wrap64 (ei.f4 + 1))) (.int .i64 (Go.RowKit.wrap64 (Go.RowKit.wrap64 (Go.RowKit.wrap64 (ei.f5 + 1) + (xb.f0.length : Int)) + (wq.length : Int)))))
                       generalize ((wr.setCell ⟨gR, 4, none⟩ (.int .i64 (Go.RowKit.wrap64 (ei.f4 + 1)))).setCell ⟨gR, 5, none⟩ (.int .i64 (Go.RowKit.wrap64 (Go.RowKit.wrap64 (Go.RowKit.wrap64 (ei.f5 + 1) + (xb.f0.length : Int)) + (wq.length : Int))))).drew = wd at hO_ hr_ ⊢
                       replace HCo := As0 (HCo.out.on hO_ R.out (by decide))
                       replace HCt := As0 (Ci_on HCt.out hO_ HNt.out)
                       replace C := As0 ((hO_.1 _ NCR.out).trans C.out)
                       replace O := As0 ((hO_.1 _ NOR.out).trans O.out)
                       replace X := As0 ((hO_.1 _ nrx').trans X.out)
                       replace R := As0 (show wd.heap[gR]? = some (.cells #[.int .i64 eN.f0, .int .i64 eN.f1, .int .i64 eN.f2, .int .i64 eN.f3, .int .i64 eN.f4, .int .i64 eN.f5, .int .i64 eN.f6] 51 (0, 0)) from by rw [heN]; exact hr_)
                       replace HB := As0 (hO_.2 _ _ GR.out HB.out)
                       rw [← heN] at H'
                       clear hr_ hO_ heN hqs hqw x_0 x_1 x_2 x_3 x_4 x_f0 x_f1 x_f2 x_f3 x_f4 r_0 r_1 r_2 r_3 r_4 r_5 r_6 r_f0 r_f1 r_f2 r_f3 r_f4 r_f5 r_f6 c_0 c_1 c_2 c_3 c_4 c_5 c_6 c_7 c_f0 c_f1 c_f2 c_f3 c_f4 c_f5 c_f6 c_f7
                       replace HCo := As0 (HCo.out.on ((On.refl gR wd).drew) R.out (by decide))
                       replace HCt := As0 (Ci_on HCt.out ((On.refl gR wd).drew) HNt.out)
                       replace C := As0 (Qbu C.out)
                       replace O := As0 (Qbu O.out)
                       replace R := As0 (Qbu R.out)
                       replace X := As0 (Qbu X.out)
                       replace HB := As0 (bd1 HB.out)
                       clear z1d z2d
                       have z1d := decide_eq_true z1
                       have z2d := decide_eq_true z2
                       refine Qcd (n := 14) (S := fun w' => w'.cell? ⟨gX, 0, none⟩ = some (.slice Ao xb.f0.length co) ∧ w'.cell? ⟨gC, 7, none⟩ = some (.slice (some adW) Wl.length c2) ∧ w'.cell? (adW.add tv.toNat) = some (.slice A2q wq.length c2q)) (ds := [12]) (bb 14 0) (by kernel_rfl) rfl rfl ⟨(bc X 0), (bc C 7), (cl HB hq0)⟩ (fun hHeld => ?_)
                       generalize wd.drew = we at X C O R HB HCo HCt hHeld ⊢
                       refine pu 0 102 (bb 14 1) ?_
                       refine pu 2 104 (bb 14 5) ?_
                       refine pu 4 106 (bb 14 21) ?_
                       refine tu hHeld 1 103 (bb 14 23) ?_
                       refine tu hHeld 3 105 (bb 14 31) ?_
                       refine pu 5 107 (bb 14 63) ?_
                       refine tu hHeld 6 108 (bb 14 127) ?_
                       refine join_ (σ := Nat) 2 (bb 14 4095) (fun s_ => [(109, .tuple #[.agg #[.int .i64 p0, .int .i64 p1], .int .i64 y]), (10, .pointer (some ⟨s_, 0, none⟩)), (101, .tuple #[.agg #[.int .i64 p0, .int .i64 p1], .int .i64 y]), (110, .agg #[.int .i64 p0, .int .i64 p1]), (111, .int .i64 y)]) (fun s_ w' => (w'.cell? ⟨gX, 0, none⟩ = some (.slice Ao xb.f0.length co) ∧ w'.cell? ⟨gC, 7, none⟩ = some (.slice (some adW) Wl.length c2) ∧ w'.cell? (adW.add tv.toNat) = some (.slice A2q wq.length c2q)) ∧ Qbm (w'.heap[s_]? = some (.cells #[.int .i64 0, .int .i64 0] 47 (0, 0))) ∧ Qbm (w.heap.size ≤ s_) ∧ Qbm (Below w.heap.size w w') ∧ Qbm (w'.heap[gC]? = some (.cells #[.int .i64 sa, .int .i64 sr, .slice (some adS) SB.length c0, .int .i64 ta, .int .i64 tr, .int .i64 ts, .slice (some adT) TB.length c1, .slice (some adW) Wl.length c2] 30 (0, 0))) ∧ Qbm (w'.heap[gO]? = some (.cells #[.int .i64 0, .int .i64 0, .int .i64 0, .int .i64 0, .int .i64 0, .int .i64 0, .int .i64 0] 51 (0, 0))) ∧ Qbm (w'.heap[gR]? = some (.cells #[.int .i64 eN.f0, .int .i64 eN.f1, .int .i64 eN.f2, .int .i64 eN.f3, .int .i64 eN.f4, .int .i64 eN.f5, .int .i64 eN.f6] 51 (0, 0))) ∧ Qbm (w'.heap[gX]? = some (.cells #[.slice Ao xb.f0.length co, .int .i64 xb.f1, .int .i64 xb.f2, .int .i64 xb.f3, .int .i64 xb.f4] 87 (0, 0))) ∧ Qbm (OutR w' Ao xb.f0) ∧ Qbm (Kd.C (Kd.int .i64) w' (some adt) tg.length tg) ∧ Qbm (gC ≠ s_) ∧ Qbm (gO ≠ s_) ∧ Qbm (gR ≠ s_) ∧ Qbm (gX ≠ s_) ∧ Qbm (∀ ad, Ao = some ad → ad.block ≠ s_) ∧ Qbm (adt.block ≠ s_)) ?_ ?_
                       rotate_left
                       · intro hCont
                         refine two_ (i := 7) (j := 11) (Ni := some 109) (Nj := some 10) (bb 14 255) (bb 14 2175) rfl rfl rfl rfl (by kernel_rfl) (by decide) (by decide) (fun K hK => ?_) (fun K hK => ?_)
                         · skip
                           refine Qcz Tryz.func35 (by kernel_rfl) rfl #[.slice Ao xb.f0.length co, .slice A2q wq.length c2q] (by rfl) rfl rfl (by simp only [List.map_toArray, List.map_cons, List.map_nil]; rfl) ?_
                           with_reducible refine (edge_Implies.calls k Ao co xb.f0 A2q c2q wq p0 p1 y _ (OutR.c HCo.out) hco (Kd.C_below hQ0.out (BU HB.out)) hcq hed).mono ?_
                           rintro e w9 ⟨rfl, hb⟩
                           refine ⟨_, rfl, ?_⟩
                           replace C := As0 (Qbo C.out hb)
                           replace O := As0 (Qbo O.out hb)
                           replace R := As0 (Qbo R.out hb)
                           replace X := As0 (Qbo X.out hb)
                           replace HB := As0 (Qbj (BU HB.out) hb)
                           replace HCo := As0 (HCo.out.below hb)
                           replace HCt := As0 (Kd.C_below HCt.out hb)
                           clear hb
                           refine hK.out _ _ ⟨(bc X 0), (bc C 7), (cl HB hq0)⟩ (fun hHeld => ?_)
                           clear hK K
                           refine Qb5 (a' := ?_) ?_ ?_
                           rotate_left
                           · show Act.put _ (some 109) _ = _
                             simp only [Act.put, List.setIfInBounds_toArray, List.set_cons_zero, List.set_cons_succ, Qbw, Qbx]
                             rfl
                           refine pu 8 101 (bb 14 511) ?_
                           refine pu 9 110 (bb 14 1023) ?_
                           refine pu 10 111 (bb 14 2047) ?_
                           refine one_ (i := 11) (N := some 10) (bb 14 4095) rfl rfl (by kernel_rfl) (by decide) (fun K hK => ?_)
                           refine value_ (w1 := ?_) (v := ?_) (by rfl) rfl ?_ ?_
                           rotate_left 2
                           · go_simp
                             constructor
                             · rfl
                             · rfl
                           have Y := As0 (Qde (w9) (.cells #[.int .i64 0, .int .i64 0] 47 (0, 0)))
                           have hb := Qb3 (Below.refl (w9).heap.size (w9)) (.cells #[.int .i64 0, .int .i64 0] 47 (0, 0))
                           have GY := As0 (Qbp (BU HB.out) : w.heap.size ≤ (w9).heap.size)
                           have HAY := As0 (show ∀ ad, Ao = some ad → ad.block ≠ (w9).heap.size from fun ad e => let ⟨cs2, h2⟩ := HCo.out.2 ad e; Nat.ne_of_lt (Qbz h2))
                           have HTY := As0 (show adt.block ≠ (w9).heap.size from by (obtain ⟨ad9, e9, h9⟩ := Kd.at_int HCt.out j hj0 hjlt; cases e9; have q9 := wblt _ h9; rw [addB] at q9; exact Nat.ne_of_lt q9))
                           have NCY := As0 (Nat.ne_of_lt (Qbz (w := w9) C.out) : gC ≠ (w9).heap.size)
                           have NOY := As0 (Nat.ne_of_lt (Qbz (w := w9) O.out) : gO ≠ (w9).heap.size)
                           have NRY := As0 (Nat.ne_of_lt (Qbz (w := w9) R.out) : gR ≠ (w9).heap.size)
                           have NXY := As0 (Nat.ne_of_lt (Qbz (w := w9) X.out) : gX ≠ (w9).heap.size)
                           replace C := As0 (Qbo C.out hb)
                           replace O := As0 (Qbo O.out hb)
                           replace R := As0 (Qbo R.out hb)
                           replace X := As0 (Qbo X.out hb)
                           replace HB := As0 (Qbj (BU HB.out) hb)
                           replace HCo := As0 (HCo.out.below hb)
                           replace HCt := As0 (Kd.C_below HCt.out hb)
                           clear hb
                           generalize (w9).alloc (.cells #[.int .i64 0, .int .i64 0] 47 (0, 0)) = w10 at *
                           generalize (w9).heap.size = gY at *
                           refine hK.out _ _ ⟨(bc X 0), (bc C 7), (cl HB hq0)⟩ (fun hHeld => ?_)
                           clear hK K
                           refine Qb5 (a' := ?_) ?_ ?_
                           rotate_left
                           · show Act.put _ (some 10) _ = _
                             simp only [Act.put, List.setIfInBounds_toArray, List.set_cons_zero, List.set_cons_succ, Qbw, Qbx]
                             rfl
                           exact Qb5 (by simp only [Qdf, Act.put, List.setIfInBounds_toArray, List.set_cons_zero, List.set_cons_succ]) (hCont gY _ ⟨hHeld, Y, GY, HB, C, O, R, X, HCo, HCt, NCY, NOY, NRY, NXY, HAY, HTY⟩)
                         · skip
                           refine value_ (w1 := ?_) (v := ?_) (by rfl) rfl ?_ ?_
                           rotate_left 2
                           · go_simp
                             constructor
                             · rfl
                             · rfl
                           have Y := As0 (Qde (we) (.cells #[.int .i64 0, .int .i64 0] 47 (0, 0)))
                           have hb := Qb3 (Below.refl (we).heap.size (we)) (.cells #[.int .i64 0, .int .i64 0] 47 (0, 0))
                           have GY := As0 (Qbp (BU HB.out) : w.heap.size ≤ (we).heap.size)
                           have HAY := As0 (show ∀ ad, Ao = some ad → ad.block ≠ (we).heap.size from fun ad e => let ⟨cs2, h2⟩ := HCo.out.2 ad e; Nat.ne_of_lt (Qbz h2))
                           have HTY := As0 (show adt.block ≠ (we).heap.size from by (obtain ⟨ad9, e9, h9⟩ := Kd.at_int HCt.out j hj0 hjlt; cases e9; have q9 := wblt _ h9; rw [addB] at q9; exact Nat.ne_of_lt q9))
                           have NCY := As0 (Nat.ne_of_lt (Qbz (w := we) C.out) : gC ≠ (we).heap.size)
                           have NOY := As0 (Nat.ne_of_lt (Qbz (w := we) O.out) : gO ≠ (we).heap.size)
                           have NRY := As0 (Nat.ne_of_lt (Qbz (w := we) R.out) : gR ≠ (we).heap.size)
                           have NXY := As0 (Nat.ne_of_lt (Qbz (w := we) X.out) : gX ≠ (we).heap.size)
                           replace C := As0 (Qbo C.out hb)
                           replace O := As0 (Qbo O.out hb)
                           replace R := As0 (Qbo R.out hb)
                           replace X := As0 (Qbo X.out hb)
                           replace HB := As0 (Qbj (BU HB.out) hb)
                           replace HCo := As0 (HCo.out.below hb)
                           replace HCt := As0 (Kd.C_below HCt.out hb)
                           clear hb
                           generalize (we).alloc (.cells #[.int .i64 0, .int .i64 0] 47 (0, 0)) = w10 at *
                           generalize (we).heap.size = gY at *
                           refine hK.out _ _ ⟨(bc X 0), (bc C 7), (cl HB hq0)⟩ (fun hHeld => ?_)
                           clear hK K
                           refine Qb5 (a' := ?_) ?_ ?_
                           rotate_left
                           · show Act.put _ (some 10) _ = _
                             simp only [Act.put, List.setIfInBounds_toArray, List.set_cons_zero, List.set_cons_succ, Qbw, Qbx]
                             rfl
                           refine one_ (i := 7) (N := some 109) (bb 14 2303) rfl rfl (by kernel_rfl) (by decide) (fun K hK => ?_)
                           refine Qcz Tryz.func35 (by kernel_rfl) rfl #[.slice Ao xb.f0.length co, .slice A2q wq.length c2q] (by rfl) rfl rfl (by simp only [List.map_toArray, List.map_cons, List.map_nil]; rfl) ?_
                           with_reducible refine (edge_Implies.calls k Ao co xb.f0 A2q c2q wq p0 p1 y _ (OutR.c HCo.out) hco (Kd.C_below hQ0.out (BU HB.out)) hcq hed).mono ?_
                           rintro e w9 ⟨rfl, hb⟩
                           refine ⟨_, rfl, ?_⟩
                           replace Y := As0 (Qbo Y.out hb)
                           replace C := As0 (Qbo C.out hb)
                           replace O := As0 (Qbo O.out hb)
                           replace R := As0 (Qbo R.out hb)
                           replace X := As0 (Qbo X.out hb)
                           replace HB := As0 (Qbj (BU HB.out) hb)
                           replace HCo := As0 (HCo.out.below hb)
                           replace HCt := As0 (Kd.C_below HCt.out hb)
                           clear hb
                           refine hK.out _ _ ⟨(bc X 0), (bc C 7), (cl HB hq0)⟩ (fun hHeld => ?_)
                           clear hK K
                           refine Qb5 (a' := ?_) ?_ ?_
                           rotate_left
                           · show Act.put _ (some 109) _ = _
                             simp only [Act.put, List.setIfInBounds_toArray, List.set_cons_zero, List.set_cons_succ, Qbw, Qbx]
                             rfl
                           refine pu 8 101 (bb 14 2559) ?_
                           refine pu 9 110 (bb 14 3071) ?_
                           refine pu 10 111 (bb 14 4095) ?_
                           exact Qb5 (by simp only [Qdf, Act.put, List.setIfInBounds_toArray, List.set_cons_zero, List.set_cons_succ]) (hCont gY _ ⟨hHeld, Y, GY, HB, C, O, R, X, HCo, HCt, NCY, NOY, NRY, NXY, HAY, HTY⟩)
                       clear HB C O R X HCo HCt
                       rintro gY w10 ⟨hHeld, Y, GY, HB, C, O, R, X, HCo, HCt, NCY, NOY, NRY, NXY, HAY, HTY⟩
                       try dsimp only at Y GY NCY NOY NRY NXY HAY HTY ⊢
                       (have y_0 := (Qbl Y.out 0).trans rfl; have y_f0 := Qbk Y.out 0; have y_1 := (Qbl Y.out 1).trans rfl; have y_f1 := Qbk Y.out 1)
                       refine Qb5 (a' := ?_) ?_ ?_
                       rotate_left
                       · simp only [Qdf, Act.put, List.setIfInBounds_toArray, List.set_cons_zero, List.set_cons_succ]
                         rfl
                       refine Qdz (i := 12) (N := none) (bb 14 8191) rfl rfl (by kernel_rfl) (by decide) (fun K hK => ?_)
                       refine skip_ (w1 := ?_) (by rfl) rfl ?_ ?_
                       rotate_left
                       · go_simp
                         rfl
                       refine hK.out _ _ ?_
                       clear hK K
                       refine pu 13 11 (bb 14 16383) ?_
                       refine Qc0 (by kernel_rfl) ?_
                       have hOy := ((On.refl gY w10).set 0 (.int .i64 p0)).set 1 (.int .i64 p1)
                       generalize ((w10.setCell ⟨gY, 0, none⟩ (.int .i64 p0)).setCell ⟨gY, 1, none⟩ (.int .i64 p1)) = w11 at hOy ⊢
                       replace HB := As0 (hOy.2 _ _ GY.out HB.out)
                       replace C := As0 ((hOy.1 _ NCY.out).trans C.out)
                       replace O := As0 ((hOy.1 _ NOY.out).trans O.out)
                       replace R := As0 ((hOy.1 _ NRY.out).trans R.out)
                       replace X := As0 ((hOy.1 _ NXY.out).trans X.out)
                       replace HCo := As0 (HCo.out.on' hOy HAY.out)
                       replace HCt := As0 (Ci_on HCt.out hOy (fun ad e => by cases e; exact HTY.out))
                       clear hOy y_0 y_1 y_f0 y_f1 hHeld hed hQ0 hq0 hcq
                       by_cases hy : y = 0
                       · rw [if_pos hy] at H'
                         have hyb : (y != 0) = false := bne_eq_false_iff_eq.mpr hy
                         clear hy
                         replace H' := As0 H'
                         go_wp2
                         go_roundg (tg.length - j)
                         case measure => exact HJ.out.2
                         case rel => exact ⟨j + 1, eN, by first | rw [hwj] | rfl, ⟨hj, Nat.sub_lt_sub_left hj (Nat.lt_succ_self j)⟩, H', HB, C, O, R, X, HCo, HCt⟩
                       · rw [if_neg hy] at H'
                         have hyb : (y != 0) = true := bne_iff_ne.mpr hy
                         clear hy
                         obtain rfl := Option.some.inj H'
                         (have r_0 := (Qbl R.out 0).trans rfl; have r_f0 := Qbk R.out 0; have r_1 := (Qbl R.out 1).trans rfl; have r_f1 := Qbk R.out 1; have r_2 := (Qbl R.out 2).trans rfl; have r_f2 := Qbk R.out 2; have r_3 := (Qbl R.out 3).trans rfl; have r_f3 := Qbk R.out 3; have r_4 := (Qbl R.out 4).trans rfl; have r_f4 := Qbk R.out 4; have r_5 := (Qbl R.out 5).trans rfl; have r_f5 := Qbk R.out 5; have r_6 := (Qbl R.out 6).trans rfl; have r_f6 := Qbk R.out 6)
                         have nrx := NRX.out
                         go_upto_region 23 with (fail)
                         have hO_ := (((On.refl gR w11).set 0 (.int .i64 y)).set 1 (.int .i64 (i : Int))).set 2 (.int .i64 (j : Int))
                         have hr_ := put7b R.out (.int .i64 y) (.int .i64 (i : Int)) (.int .i64 (j : Int))
                         generalize (((w11.setCell ⟨gR, 0, none⟩ (.int .i64 y)).setCell ⟨gR, 1, none⟩ (.int .i64 (i : Int))).setCell ⟨gR, 2, none⟩ (.int .i64 (j : Int))) = w13 at hO_ hr_ ⊢
                         replace O := As0 ((hO_.1 _ NOR.out).trans O.out)
                         replace HB := As0 (hO_.2 _ _ GR.out HB.out)
                         replace R := As0 hr_
                         clear hr_ hO_
                         apply fin23 _ _ gO gR #[.int .i64 y, .int .i64 (i : Int), .int .i64 (j : Int), .int .i64 eN.f3, .int .i64 eN.f4, .int .i64 eN.f5, .int .i64 eN.f6]
                         case hK => assumption
                         case hO => exact O.out
                         case hR => exact R.out
                         case h0 => rfl
                         case h1 => rfl
                         case hQ => exact fun W' hW => ⟨rfl, hW _ _ GO.out HB.out⟩
                         case hsz => show 122 < 123; decide
                         case hone => kernel_rfl
                         all_goals rfl
                     · rw [if_neg hb3] at H'; cases H'
                   · have hj' : j = tg.length := by have := HJ.out; omega
                     subst hj'
                     have H' := HH.out
                     simp only [List.drop_length, Qdk] at H'
                     replace H' := As0 H'
                     clear HH
                     go_wp2
                     go_roundg (SB.length - i)
                     case measure => have := HI.out; omega
                     case rel => exact ⟨i + 1, ei, by first | rw [hw] | rfl, ⟨by omega, by omega⟩, H', HB, C, O, R⟩
              · rw [if_neg hf1] at HH
                (have x_0 := (Qbl X.out 0).trans rfl; have x_f0 := Qbk X.out 0; have x_1 := (Qbl X.out 1).trans rfl; have x_f1 := Qbk X.out 1; have x_2 := (Qbl X.out 2).trans rfl; have x_f2 := Qbk X.out 2; have x_3 := (Qbl X.out 3).trans rfl; have x_f3 := Qbk X.out 3; have x_4 := (Qbl X.out 4).trans rfl; have x_f4 := Qbk X.out 4)
                (have r_0 := (Qbl R.out 0).trans rfl; have r_f0 := Qbk R.out 0; have r_1 := (Qbl R.out 1).trans rfl; have r_f1 := Qbk R.out 1; have r_2 := (Qbl R.out 2).trans rfl; have r_f2 := Qbk R.out 2; have r_3 := (Qbl R.out 3).trans rfl; have r_f3 := Qbk R.out 3; have r_4 := (Qbl R.out 4).trans rfl; have r_f4 := Qbk R.out 4; have r_5 := (Qbl R.out 5).trans rfl; have r_f5 := Qbk R.out 5; have r_6 := (Qbl R.out 6).trans rfl; have r_f6 := Qbk R.out 6)
                have hf1b : (xb.f1 != 0) = true := bne_iff_ne.mpr hf1
                obtain rfl := Option.some.inj HH
                clear hf1
                go_wp2
                go_region
                go_upto_region 23 with (fail)
                have hO_ := ((((On.refl gR w12).set 0 (.int .i64 xb.f1)).set 1 (.int .i64 (i : Int))).set 2 (.int .i64 xb.f2)).drew
                have hr_ := Qbu (put7b R.out (.int .i64 xb.f1) (.int .i64 (i : Int)) (.int .i64 xb.f2))
                generalize ((((w12).setCell ⟨gR, 0, none⟩ (.int .i64 xb.f1)).setCell ⟨gR, 1, none⟩ (.int .i64 (i : Int))).setCell ⟨gR, 2, none⟩ (.int .i64 xb.f2)).drew = w13 at hO_ hr_ ⊢
                replace O := As0 ((hO_.1 _ NOR.out).trans O.out)
                replace HB := As0 (hO_.2 _ _ GR.out HB.out)
                replace R := As0 hr_
                clear hr_ hO_
                (try clear r_0 r_1 r_2 r_3 r_4 r_5 r_6 r_f0 r_f1 r_f2 r_f3 r_f4 r_f5 r_f6)
                (have rr0 := (Qbl R.out 0).trans rfl; have rrf0 := Qbk R.out 0; have rr1 := (Qbl R.out 1).trans rfl; have rrf1 := Qbk R.out 1; have rr2 := (Qbl R.out 2).trans rfl; have rrf2 := Qbk R.out 2; have rr3 := (Qbl R.out 3).trans rfl; have rrf3 := Qbk R.out 3; have rr4 := (Qbl R.out 4).trans rfl; have rrf4 := Qbk R.out 4; have rr5 := (Qbl R.out 5).trans rfl; have rrf5 := Qbk R.out 5; have rr6 := (Qbl R.out 6).trans rfl; have rrf6 := Qbk R.out 6)
                go_wp2_with ((with_reducible refine Qc6 (.store 51 (.tmp 2) (.tmp 122)) rfl ?_); go_loud (refine Qat rfl rfl 51 _ _ rfl gO #[.int .i64 xb.f1, .int .i64 (i : Int), .int .i64 xb.f2, .int .i64 eN.f3, .int .i64 eN.f4, .int .i64 eN.f5, .int .i64 eN.f6] rfl rfl 51 #[.int .i64 0, .int .i64 0, .int .i64 0, .int .i64 0, .int .i64 0, .int .i64 0, .int .i64 0] O.out (by kernel_rfl) rfl (by kernel_rfl) ?_); intro wz hg ho hB; replace HB := As0 (hB _ _ GO.out (BU HB.out)); replace O := As0 hg; skip; clear hg ho hB)
                (try rw [Exit.noGoto_ret])
                exact bodyPost_ret (results_cell_row rfl _ _ gO 51 #[.int .i64 xb.f1, .int .i64 (i : Int), .int .i64 xb.f2, .int .i64 eN.f3, .int .i64 eN.f4, .int .i64 eN.f5, .int .i64 eN.f6] (0, 0) _ rfl O.out hu51 rfl (by kernel_rfl)) rfl ⟨rfl, BU HB.out⟩
          · rw [if_neg hb2] at H'; cases H'
        · have hi' : i = SB.length := by have := HI.out; omega
          subst hi'
          have H' := H.out
          simp only [List.drop_length, Qcc] at H'
          obtain rfl := Option.some.inj H'
          clear H H'
          (have rr0 := (Qbl R.out 0).trans rfl; have rrf0 := Qbk R.out 0; have rr1 := (Qbl R.out 1).trans rfl; have rrf1 := Qbk R.out 1; have rr2 := (Qbl R.out 2).trans rfl; have rrf2 := Qbk R.out 2; have rr3 := (Qbl R.out 3).trans rfl; have rrf3 := Qbk R.out 3; have rr4 := (Qbl R.out 4).trans rfl; have rrf4 := Qbk R.out 4; have rr5 := (Qbl R.out 5).trans rfl; have rrf5 := Qbk R.out 5; have rr6 := (Qbl R.out 6).trans rfl; have rrf6 := Qbk R.out 6)
          go_wp2_with ((with_reducible refine Qc6 (.store 51 (.tmp 2) (.tmp 122)) rfl ?_); go_loud (refine Qat rfl rfl 51 _ _ rfl gO #[.int .i64 e.f0, .int .i64 e.f1, .int .i64 e.f2, .int .i64 e.f3, .int .i64 e.f4, .int .i64 e.f5, .int .i64 e.f6] rfl rfl 51 #[.int .i64 0, .int .i64 0, .int .i64 0, .int .i64 0, .int .i64 0, .int .i64 0, .int .i64 0] O.out (by kernel_rfl) rfl (by kernel_rfl) ?_); intro wz hg ho hB; replace HB := As0 (hB _ _ GO.out (BU HB.out)); replace O := As0 hg; skip; clear hg ho hB)
          (try rw [Exit.noGoto_ret])
          exact bodyPost_ret (results_cell_row rfl _ _ gO 51 #[.int .i64 e.f0, .int .i64 e.f1, .int .i64 e.f2, .int .i64 e.f3, .int .i64 e.f4, .int .i64 e.f5, .int .i64 e.f6] (0, 0) _ rfl O.out hu51 rfl (by kernel_rfl)) rfl ⟨rfl, BU HB.out⟩
    · rw [if_neg he] at hx
      obtain rfl := Option.some.inj hx
      have heb : (e0 != 0) = true := bne_iff_ne.mpr he
      go_enter Tryz.func14, Tryz.ntmps14
      go_wp2_with (first
        | ((with_reducible refine Qbn (N := 1) rfl ?_); refine bX (N := 1) (cs := #[.int .i64 sa, .int .i64 sr, .slice A0 SB.length c0, .int .i64 ta, .int .i64 tr, .int .i64 ts, .slice A1 TB.length c1, .slice A2 Wl.length c2]) (t := 30) ?_; intro gC hg w1 hbox hb; have C := As0 hbox; have GC := As0 (by rw [hg]; exact Qbp (BU HB.out) : w.heap.size ≤ gC); replace HB := As0 (Qbj (BU HB.out) hb); clear hb hbox hg)
        | ((with_reducible refine Qbn (N := 2) rfl ?_); refine bX (N := 2) (cs := #[.int .i64 0, .int .i64 0, .int .i64 0, .int .i64 0, .int .i64 0, .int .i64 0, .int .i64 0]) (t := 51) ?_; intro gO hg w2 hbox hb; have O := As0 hbox; have GO := As0 (by rw [hg]; exact Qbp (BU HB.out) : w.heap.size ≤ gO); have NCO := As0 (by have := Qbz C.out; omega : gC ≠ gO); replace C := As0 (Qbo C.out hb); replace HB := As0 (Qbj (BU HB.out) hb); (have c_0 := (Qbl C.out 0).trans rfl; have c_f0 := Qbk C.out 0; have c_1 := (Qbl C.out 1).trans rfl; have c_f1 := Qbk C.out 1; have c_2 := (Qbl C.out 2).trans rfl; have c_f2 := Qbk C.out 2; have c_3 := (Qbl C.out 3).trans rfl; have c_f3 := Qbk C.out 3; have c_4 := (Qbl C.out 4).trans rfl; have c_f4 := Qbk C.out 4; have c_5 := (Qbl C.out 5).trans rfl; have c_f5 := Qbk C.out 5; have c_6 := (Qbl C.out 6).trans rfl; have c_f6 := Qbk C.out 6; have c_7 := (Qbl C.out 7).trans rfl; have c_f7 := Qbk C.out 7); clear hb hbox hg))
      go_step3
      go_wp2_with (first
        | (go_at_call 31; refine (Qba.calls k sa sr A0 c0 SB ta tr ts A1 c1 TB A2 c2 Wl _ _ (Kd.C_below H0.out (BU HB.out)) hc0 (Kd.C_below H1.out (BU HB.out)) hc1 (Kd.C_below H2.out (BU HB.out)) hc2 hv).mono ?_; rintro e w3 ⟨rfl, hb⟩; clear c_0 c_1 c_2 c_3 c_4 c_5 c_6 c_7 c_f0 c_f1 c_f2 c_f3 c_f4 c_f5 c_f6 c_f7; replace C := As0 (Qbo C.out hb); replace O := As0 (Qbo O.out hb); replace HB := As0 (Qbj (BU HB.out) hb); (have c_0 := (Qbl C.out 0).trans rfl; have c_f0 := Qbk C.out 0; have c_1 := (Qbl C.out 1).trans rfl; have c_f1 := Qbk C.out 1; have c_2 := (Qbl C.out 2).trans rfl; have c_f2 := Qbk C.out 2; have c_3 := (Qbl C.out 3).trans rfl; have c_f3 := Qbk C.out 3; have c_4 := (Qbl C.out 4).trans rfl; have c_f4 := Qbk C.out 4; have c_5 := (Qbl C.out 5).trans rfl; have c_f5 := Qbk C.out 5; have c_6 := (Qbl C.out 6).trans rfl; have c_f6 := Qbk C.out 6; have c_7 := (Qbl C.out 7).trans rfl; have c_f7 := Qbk C.out 7); clear hb)
        | (go_at_call 32; refine (Qa1.calls k sa sr A0 c0 SB ta tr ts A1 c1 TB A2 c2 Wl _ _ _ _ _ _ _ _ (Kd.C_below H0.out (BU HB.out)) hc0 (Kd.C_below H1.out (BU HB.out)) hc1 (Kd.C_below H2.out (BU HB.out)) hc2 hbg).mono ?_; rintro e w4 ⟨rfl, hb⟩; clear c_0 c_1 c_2 c_3 c_4 c_5 c_6 c_7 c_f0 c_f1 c_f2 c_f3 c_f4 c_f5 c_f6 c_f7; replace C := As0 (Qbo C.out hb); replace O := As0 (Qbo O.out hb); replace HB := As0 (Qbj (BU HB.out) hb); (have c_0 := (Qbl C.out 0).trans rfl; have c_f0 := Qbk C.out 0; have c_1 := (Qbl C.out 1).trans rfl; have c_f1 := Qbk C.out 1; have c_2 := (Qbl C.out 2).trans rfl; have c_f2 := Qbk C.out 2; have c_3 := (Qbl C.out 3).trans rfl; have c_f3 := Qbk C.out 3; have c_4 := (Qbl C.out 4).trans rfl; have c_f4 := Qbk C.out 4; have c_5 := (Qbl C.out 5).trans rfl; have c_f5 := Qbk C.out 5; have c_6 := (Qbl C.out 6).trans rfl; have c_f6 := Qbk C.out 6; have c_7 := (Qbl C.out 7).trans rfl; have c_f7 := Qbk C.out 7); clear hb)
        | ((with_reducible refine Qbn (N := 4) rfl ?_); refine bX (N := 4) (cs := #[.int .i64 0, .int .i64 0, .int .i64 0, .int .i64 0, .int .i64 0, .int .i64 0, .int .i64 0]) (t := 51) ?_; intro gR hg w5 hbox hb; have R := As0 hbox; have GR := As0 (by rw [hg]; exact Qbp (BU HB.out) : w.heap.size ≤ gR); have NCR := As0 (by have := Qbz C.out; omega : gC ≠ gR); have NOR := As0 (by have := Qbz O.out; omega : gO ≠ gR); replace C := As0 (Qbo C.out hb); replace O := As0 (Qbo O.out hb); replace HB := As0 (Qbj (BU HB.out) hb); clear c_0 c_1 c_2 c_3 c_4 c_5 c_6 c_7 c_f0 c_f1 c_f2 c_f3 c_f4 c_f5 c_f6 c_f7; (have c_0 := (Qbl C.out 0).trans rfl; have c_f0 := Qbk C.out 0; have c_1 := (Qbl C.out 1).trans rfl; have c_f1 := Qbk C.out 1; have c_2 := (Qbl C.out 2).trans rfl; have c_f2 := Qbk C.out 2; have c_3 := (Qbl C.out 3).trans rfl; have c_f3 := Qbk C.out 3; have c_4 := (Qbl C.out 4).trans rfl; have c_f4 := Qbk C.out 4; have c_5 := (Qbl C.out 5).trans rfl; have c_f5 := Qbk C.out 5; have c_6 := (Qbl C.out 6).trans rfl; have c_f6 := Qbk C.out 6; have c_7 := (Qbl C.out 7).trans rfl; have c_f7 := Qbk C.out 7); clear hb hbox hg)
        | ((with_reducible refine Qc6 (.store 51 (.tmp 4) (.tmp 19)) rfl ?_); go_loud (refine Qat rfl rfl 51 _ _ rfl gR #[.int .i64 e0, .int .i64 e1, .int .i64 e2, .int .i64 e3, .int .i64 e4, .int .i64 e5, .int .i64 e6] rfl rfl 51 #[.int .i64 0, .int .i64 0, .int .i64 0, .int .i64 0, .int .i64 0, .int .i64 0, .int .i64 0] R.out (by kernel_rfl) rfl (by kernel_rfl) ?_); intro w6 hg ho hB; replace HB := As0 (hB _ _ GR.out (BU HB.out)); replace R := As0 hg; replace C := As0 ((ho _ NCR.out).trans C.out); replace O := As0 ((ho _ NOR.out).trans O.out); clear c_0 c_1 c_2 c_3 c_4 c_5 c_6 c_7 c_f0 c_f1 c_f2 c_f3 c_f4 c_f5 c_f6 c_f7; (have c_0 := (Qbl C.out 0).trans rfl; have c_f0 := Qbk C.out 0; have c_1 := (Qbl C.out 1).trans rfl; have c_f1 := Qbk C.out 1; have c_2 := (Qbl C.out 2).trans rfl; have c_f2 := Qbk C.out 2; have c_3 := (Qbl C.out 3).trans rfl; have c_f3 := Qbk C.out 3; have c_4 := (Qbl C.out 4).trans rfl; have c_f4 := Qbk C.out 4; have c_5 := (Qbl C.out 5).trans rfl; have c_f5 := Qbk C.out 5; have c_6 := (Qbl C.out 6).trans rfl; have c_f6 := Qbk C.out 6; have c_7 := (Qbl C.out 7).trans rfl; have c_f7 := Qbk C.out 7); (have r_0 := (Qbl R.out 0).trans rfl; have r_f0 := Qbk R.out 0; have r_1 := (Qbl R.out 1).trans rfl; have r_f1 := Qbk R.out 1; have r_2 := (Qbl R.out 2).trans rfl; have r_f2 := Qbk R.out 2; have r_3 := (Qbl R.out 3).trans rfl; have r_f3 := Qbk R.out 3; have r_4 := (Qbl R.out 4).trans rfl; have r_f4 := Qbk R.out 4; have r_5 := (Qbl R.out 5).trans rfl; have r_f5 := Qbk R.out 5; have r_6 := (Qbl R.out 6).trans rfl; have r_f6 := Qbk R.out 6); clear hg ho hB)
        | ((with_reducible refine Qc6 (.store 51 (.tmp 2) (.tmp 23)) rfl ?_); go_loud (refine Qat rfl rfl 51 _ _ rfl gO #[.int .i64 e0, .int .i64 e1, .int .i64 e2, .int .i64 e3, .int .i64 e4, .int .i64 e5, .int .i64 e6] rfl rfl 51 #[.int .i64 0, .int .i64 0, .int .i64 0, .int .i64 0, .int .i64 0, .int .i64 0, .int .i64 0] O.out (by kernel_rfl) rfl (by kernel_rfl) ?_); intro w7 hg ho hB; replace HB := As0 (hB _ _ GO.out (BU HB.out)); replace O := As0 hg; skip; clear hg ho hB))
      rw [Exit.noGoto_ret]
      exact bodyPost_ret (results_cell_row rfl _ _ gO 51 #[.int .i64 e0, .int .i64 e1, .int .i64 e2, .int .i64 e3, .int .i64 e4, .int .i64 e5, .int .i64 e6] (0, 0) _ rfl O.out hu51 rfl (by kernel_rfl)) rfl ⟨rfl, BU HB.out⟩
  · rw [if_neg hy] at hx
    obtain rfl := Option.some.inj hx
    have hyb : (y != 0) = true := bne_iff_ne.mpr hy
    go_enter Tryz.func14, Tryz.ntmps14
    go_wp2_with (first
      | ((with_reducible refine Qbn (N := 1) rfl ?_); refine bX (N := 1) (cs := #[.int .i64 sa, .int .i64 sr, .slice A0 SB.length c0, .int .i64 ta, .int .i64 tr, .int .i64 ts, .slice A1 TB.length c1, .slice A2 Wl.length c2]) (t := 30) ?_; intro gC hg w1 hbox hb; have C := As0 hbox; have GC := As0 (by rw [hg]; exact Qbp (BU HB.out) : w.heap.size ≤ gC); replace HB := As0 (Qbj (BU HB.out) hb); clear hb hbox hg)
      | ((with_reducible refine Qbn (N := 2) rfl ?_); refine bX (N := 2) (cs := #[.int .i64 0, .int .i64 0, .int .i64 0, .int .i64 0, .int .i64 0, .int .i64 0, .int .i64 0]) (t := 51) ?_; intro gO hg w2 hbox hb; have O := As0 hbox; have GO := As0 (by rw [hg]; exact Qbp (BU HB.out) : w.heap.size ≤ gO); have NCO := As0 (by have := Qbz C.out; omega : gC ≠ gO); replace C := As0 (Qbo C.out hb); replace HB := As0 (Qbj (BU HB.out) hb); (have c_0 := (Qbl C.out 0).trans rfl; have c_f0 := Qbk C.out 0; have c_1 := (Qbl C.out 1).trans rfl; have c_f1 := Qbk C.out 1; have c_2 := (Qbl C.out 2).trans rfl; have c_f2 := Qbk C.out 2; have c_3 := (Qbl C.out 3).trans rfl; have c_f3 := Qbk C.out 3; have c_4 := (Qbl C.out 4).trans rfl; have c_f4 := Qbk C.out 4; have c_5 := (Qbl C.out 5).trans rfl; have c_f5 := Qbk C.out 5; have c_6 := (Qbl C.out 6).trans rfl; have c_f6 := Qbk C.out 6; have c_7 := (Qbl C.out 7).trans rfl; have c_f7 := Qbk C.out 7); clear hb hbox hg))
    go_step3
    go_wp2_with (first
      | (go_at_call 31; refine (Qba.calls k sa sr A0 c0 SB ta tr ts A1 c1 TB A2 c2 Wl _ _ (Kd.C_below H0.out (BU HB.out)) hc0 (Kd.C_below H1.out (BU HB.out)) hc1 (Kd.C_below H2.out (BU HB.out)) hc2 hv).mono ?_; rintro e w3 ⟨rfl, hb⟩; clear c_0 c_1 c_2 c_3 c_4 c_5 c_6 c_7 c_f0 c_f1 c_f2 c_f3 c_f4 c_f5 c_f6 c_f7; replace C := As0 (Qbo C.out hb); replace O := As0 (Qbo O.out hb); replace HB := As0 (Qbj (BU HB.out) hb); (have c_0 := (Qbl C.out 0).trans rfl; have c_f0 := Qbk C.out 0; have c_1 := (Qbl C.out 1).trans rfl; have c_f1 := Qbk C.out 1; have c_2 := (Qbl C.out 2).trans rfl; have c_f2 := Qbk C.out 2; have c_3 := (Qbl C.out 3).trans rfl; have c_f3 := Qbk C.out 3; have c_4 := (Qbl C.out 4).trans rfl; have c_f4 := Qbk C.out 4; have c_5 := (Qbl C.out 5).trans rfl; have c_f5 := Qbk C.out 5; have c_6 := (Qbl C.out 6).trans rfl; have c_f6 := Qbk C.out 6; have c_7 := (Qbl C.out 7).trans rfl; have c_f7 := Qbk C.out 7); clear hb)
      | ((with_reducible refine Qc6 (.store 51 (.tmp 2) (.tmp 17)) rfl ?_); go_loud (refine Qat rfl rfl 51 _ _ rfl gO #[.int .i64 y, .int .i64 0, .int .i64 0, .int .i64 0, .int .i64 0, .int .i64 0, .int .i64 0] rfl rfl 51 #[.int .i64 0, .int .i64 0, .int .i64 0, .int .i64 0, .int .i64 0, .int .i64 0, .int .i64 0] O.out (by kernel_rfl) rfl (by kernel_rfl) ?_); intro w7 hg ho hB; replace HB := As0 (hB _ _ GO.out (BU HB.out)); replace O := As0 hg; skip; clear hg ho hB))
    rw [Exit.noGoto_ret]
    exact bodyPost_ret (results_cell_row rfl _ _ gO 51 #[.int .i64 y, .int .i64 0, .int .i64 0, .int .i64 0, .int .i64 0, .int .i64 0, .int .i64 0] (0, 0) _ rfl O.out hu51 rfl (by kernel_rfl)) rfl ⟨rfl, BU HB.out⟩
theorem LeO.then {o o' : OBs} {f f' : Bs → OBs} (h : LeO o o') (hf : ∀ s, LeO (f s) (f' s)) : LeO (o.then f) (o'.then f') := by
 refine LeO.bind h fun p => ?_
 obtain ⟨s, q⟩ := p
 cases q with
 | none => exact hf s
 | some q => exact LeO.refl _
def Qa8.f (k : Nat) (sa sr : Int) (SB : List S39) (ta tr ts : Int) (TB : List S57) (Wl : List (List S47)) : Option (Int × Int × Int × Int × Int × Int × Int) := (Qdm k sa sr SB ta tr ts TB Wl).map fun r => (r.f0, r.f1, r.f2, r.f3, r.f4, r.f5, r.f6)
theorem Qa8.calls (k : Nat) (a0_0 : Int) (a0_1 : Int) (A0_2 : Option Addr) (c0_2 : Nat) (l0_2 : List (S39)) (a0_3 : Int) (a0_4 : Int) (a0_5 : Int) (A0_6 : Option Addr) (c0_6 : Nat) (l0_6 : List (S57)) (A0_7 : Option Addr) (c0_7 : Nat) (l0_7 : List (List (S47))) (r1 : Int) (r2 : Int) (r3 : Int) (r4 : Int) (r5 : Int) (r6 : Int) (r7 : Int) (w : World) (hr0_2 : Kd.C k39 w A0_2 l0_2.length l0_2) (hc0_2 : l0_2.length ≤ c0_2) (hr0_6 : Kd.C k57 w A0_6 l0_6.length l0_6) (hc0_6 : l0_6.length ≤ c0_6) (hr0_7 : Kd.C (Kd.slice 47 k47) w A0_7 l0_7.length l0_7) (hc0_7 : l0_7.length ≤ c0_7) (h : Qa8.f k a0_0 a0_1 l0_2 a0_3 a0_4 a0_5 l0_6 l0_7 = some (r1, r2, r3, r4, r5, r6, r7)) :
 Calls Tryz.prog 14 #[.agg #[.int .i64 a0_0, .int .i64 a0_1, .slice A0_2 l0_2.length c0_2, .int .i64 a0_3, .int .i64 a0_4, .int .i64 a0_5, .slice A0_6 l0_6.length c0_6, .slice A0_7 l0_7.length c0_7]] w fun e w' => e = .returned (.agg #[.int .i64 r1, .int .i64 r2, .int .i64 r3, .int .i64 r4, .int .i64 r5, .int .i64 r6, .int .i64 r7]) ∧ Below w.heap.size w w' := by
 obtain ⟨x, hx, hr⟩ := Option.map_eq_some_iff.1 h
 simp only [Prod.mk.injEq] at hr
 obtain ⟨rfl, rfl, rfl, rfl, rfl, rfl, rfl⟩ := hr
 exact check_calls k a0_0 a0_1 A0_2 c0_2 l0_2 a0_3 a0_4 a0_5 A0_6 c0_6 l0_6 A0_7 c0_7 l0_7 x w hr0_2 hc0_2 hr0_6 hc0_6 hr0_7 hc0_7 hx
end Go.Proofs.YtchpkjgibloleaaGreat.Z
namespace Go.Proofs.YtchpkjgibloleaaGreat.V
set_option maxRecDepth 100000
set_option maxHeartbeats 8000000
open Go
set_option linter.unusedVariables false
set_option linter.unusedSimpArgs false
inductive C0 where
 | b (x : Bool)
 | i (k : IntKind) (n : Int)
 | p (a : Option (Nat × Nat))
 | s (a : Option (Nat × Nat)) (len : Nat) (cap : Option Nat) (sz : Nat) (full : Bool)
 | nilI
 | nilF
 deriving DecidableEq
inductive C1 where
 | c (x : C0)
 | f (fn : FuncId) (first cap : List C0)
 deriving DecidableEq
inductive T1 where
 | c (x : C1)
 | g (l : List C1)
 deriving DecidableEq
inductive AV where
 | c (x : C1)
 | g (l : List C1)
 | t (l : List T1)
 deriving DecidableEq
abbrev Ren := Nat → Option (Nat × Nat)
def Ren.le (ρ ρ' : Ren) : Prop := ∀ n x, ρ n = some x → ρ' n = some x
theorem Ren.le_refl (ρ : Ren) : ρ.le ρ := fun _ _ h => h
theorem Ren.le.trans {ρ ρ' ρ'' : Ren} (h : ρ.le ρ') (h' : ρ'.le ρ'') : ρ.le ρ'' := fun n x e => h' n x (h n x e)
def All2 {α β : Type} (R : α → β → Prop) : List α → List β → Prop
 | [], [] => True
 | a :: l, b :: m => R a b ∧ All2 R l m
 | _, _ => False
theorem All2.imp {α β : Type} {R R' : α → β → Prop} (h : ∀ a b, R a b → R' a b) : ∀ {l : List α} {m : List β}, All2 R l m → All2 R' l m
 | [], [], _ => trivial
 | _ :: _, _ :: _, ⟨h1, h2⟩ => ⟨h _ _ h1, All2.imp h h2⟩
 | [], _ :: _, hh => hh.elim
 | _ :: _, [], hh => hh.elim
theorem All2.len {α β : Type} {R : α → β → Prop} : ∀ {l : List α} {m : List β}, All2 R l m → l.length = m.length
 | [], [], _ => rfl
 | _ :: _, _ :: _, ⟨_, h2⟩ => by simp [All2.len h2]
 | [], _ :: _, hh => hh.elim
 | _ :: _, [], hh => hh.elim
theorem All2.get {α β : Type} {R : α → β → Prop} : ∀ {l : List α} {m : List β}, All2 R l m → ∀ (i : Nat) {x : α}, l[i]? = some x → ∃ y, m[i]? = some y ∧ R x y
 | a :: l, b :: m, ⟨h1, h2⟩, 0, x, h => by
  simp at h; subst h; exact ⟨b, by simp, h1⟩
 | a :: l, b :: m, ⟨_, h2⟩, i + 1, x, h => by
  simp at h
  obtain ⟨y, hy, hr⟩ := All2.get h2 i h
  exact ⟨y, by simpa using hy, hr⟩
 | [], [], _, i, x, h => by simp at h
 | [], _ :: _, hh, _, _, _ => hh.elim
 | _ :: _, [], hh, _, _, _ => hh.elim
theorem All2.app {α β : Type} {R : α → β → Prop} : ∀ {l l' : List α} {m m' : List β}, All2 R l m → All2 R l' m' → All2 R (l ++ l') (m ++ m')
 | [], _, [], _, _, h => h
 | _ :: _, _, _ :: _, _, ⟨h1, h2⟩, h => ⟨h1, All2.app h2 h⟩
 | [], _, _ :: _, _, hh, _ => hh.elim
 | _ :: _, _, [], _, hh, _ => hh.elim
theorem All2.set {α β : Type} {R : α → β → Prop} {x : α} {y : β} (hr : R x y) : ∀ {l : List α} {m : List β}, All2 R l m → ∀ i, All2 R (l.set i x) (m.set i y)
 | [], [], _, _ => trivial
 | _ :: _, _ :: _, ⟨h1, h2⟩, 0 => ⟨hr, h2⟩
 | _ :: _, _ :: _, ⟨h1, h2⟩, i + 1 => ⟨h1, All2.set hr h2 i⟩
 | [], _ :: _, hh, _ => hh.elim
 | _ :: _, [], hh, _ => hh.elim
theorem All2.of {α β : Type} {R : α → β → Prop} : ∀ {l : List α} {m : List β}, l.length = m.length → (∀ (i : Nat) x, l[i]? = some x → ∃ y, m[i]? = some y ∧ R x y) → All2 R l m
 | [], [], _, _ => trivial
 | a :: l, b :: m, hl, h => by
  obtain ⟨y, hy, hr⟩ := h 0 a (by simp)
  simp at hy; subst hy
  exact ⟨hr, All2.of (by simpa using hl) fun i x hx => by simpa using h (i + 1) x (by simpa using hx)⟩
 | [], _ :: _, hl, _ => by simp at hl
 | _ :: _, [], hl, _ => by simp at hl
theorem All2.rep {α β : Type} {R : α → β → Prop} {x : α} {y : β} (h : R x y) : ∀ n, All2 R (List.replicate n x) (List.replicate n y)
 | 0 => trivial
 | n + 1 => ⟨h, All2.rep h n⟩
theorem All2.left {α β : Type} {R : α → β → Prop} : ∀ {l : List α} {m : List β}, All2 R l m → ∀ {P : β → Prop}, (∀ a b, R a b → P b) → ∀ b ∈ m, P b
 | [], [], _, _, _, _, hb => by cases hb
 | _ :: _, _ :: _, ⟨h1, h2⟩, P, h, b, hb => by
  rcases List.mem_cons.1 hb with rfl | hb
  ·exact h _ _ h1
  ·exact All2.left h2 h b hb
 | [], _ :: _, hh, _, _, _, _ => hh.elim
 | _ :: _, [], hh, _, _, _, _ => hh.elim
def C0.R (ρ : Ren) : C0 → Value → Prop
 | .b x, v => v = .bool x
 | .i k n, v => v = .int k n
 | .p none, v => v = .pointer none
 | .p (some (n, o)), v => ∃ g z, ρ n = some (g, z) ∧ v = .pointer (some ⟨g, o, none⟩)
 | .s none _ _ _ _, v => v = .slice none 0 0
 | .s (some (n, o)) len cap sz full, v => ∃ g z c, ρ n = some (g, z) ∧ v = .slice (some ⟨g, o, none⟩) len c ∧ (∀ c', cap = some c' → c = c') ∧ len ≤ c ∧ c ≤ maxLen ∧ o + c * sz ≤ z ∧ (full = true → o + c * sz = z)
 | .nilI, v => v = .nilIface
 | .nilF, v => v = .nilFunc
def C1.R (ρ : Ren) : C1 → Value → Prop
 | .c x, v => x.R ρ v
 | .f fn first cap, v => ∃ F C, All2 (C0.R ρ) first F ∧ All2 (C0.R ρ) cap C ∧ v = .func (.func fn) F.toArray C.toArray
def T1.R (ρ : Ren) : T1 → Value → Prop
 | .c x, v => x.R ρ v
 | .g l, v => ∃ L, All2 (C1.R ρ) l L ∧ v = .agg L.toArray
def AV.R (ρ : Ren) : AV → Value → Prop
 | .c x, v => x.R ρ v
 | .g l, v => ∃ L, All2 (C1.R ρ) l L ∧ v = .agg L.toArray
 | .t l, v => ∃ L, All2 (T1.R ρ) l L ∧ v = .tuple L.toArray
theorem C0.mono {ρ ρ' : Ren} (h : ρ.le ρ') : ∀ (x : C0) (v : Value), x.R ρ v → x.R ρ' v := by
 intro x v hx
 cases x with
 | p a =>
  cases a with
  | none => exact hx
  | some a => obtain ⟨g, z, h1, h2⟩ := hx; exact ⟨g, z, h _ _ h1, h2⟩
 | s a len cap sz full =>
  cases a with
  | none => exact hx
  | some a => obtain ⟨g, z, c, h1, h2⟩ := hx; exact ⟨g, z, c, h _ _ h1, h2⟩
 | _ => exact hx
theorem C1.mono {ρ ρ' : Ren} (h : ρ.le ρ') : ∀ (x : C1) (v : Value), x.R ρ v → x.R ρ' v := by
 intro x v hx
 cases x with
 | c x => exact C0.mono h x v hx
 | f fn first cap => obtain ⟨F, C, h1, h2, h3⟩ := hx; exact ⟨F, C, h1.imp (C0.mono h), h2.imp (C0.mono h), h3⟩
theorem T1.mono {ρ ρ' : Ren} (h : ρ.le ρ') : ∀ (x : T1) (v : Value), x.R ρ v → x.R ρ' v := by
 intro x v hx
 cases x with
 | c x => exact C1.mono h x v hx
 | g l => obtain ⟨L, h1, h2⟩ := hx; exact ⟨L, h1.imp (C1.mono h), h2⟩
theorem AV.mono {ρ ρ' : Ren} (h : ρ.le ρ') : ∀ (x : AV) (v : Value), x.R ρ v → x.R ρ' v := by
 intro x v hx
 cases x with
 | c x => exact C1.mono h x v hx
 | g l => obtain ⟨L, h1, h2⟩ := hx; exact ⟨L, h1.imp (C1.mono h), h2⟩
 | t l => obtain ⟨L, h1, h2⟩ := hx; exact ⟨L, h1.imp (T1.mono h), h2⟩
theorem C0.one {ρ : Ren} {x : C0} {v : Value} (h : x.R ρ v) : v.oneCell' = true := by
 cases x with
 | p a => cases a with
  | none => cases h; rfl
  | some a => obtain ⟨g, z, h1, rfl⟩ := h; rfl
 | s a len cap sz full => cases a with
  | none => cases h; rfl
  | some a => obtain ⟨g, z, c, h1, rfl, _⟩ := h; rfl
 | _ => cases h; rfl
theorem C1.one {ρ : Ren} {x : C1} {v : Value} (h : x.R ρ v) : v.oneCell' = true := by
 cases x with
 | c x => exact C0.one h
 | f fn first cap => obtain ⟨F, C, h1, h2, rfl⟩ := h; rfl
def C0.lit : C0 → Option Value
 | .b x => some (.bool x)
 | .i k n => some (.int k n)
 | .p none => some (.pointer none)
 | .s none _ _ _ _ => some (.slice none 0 0)
 | .nilI => some .nilIface
 | .nilF => some .nilFunc
 | _ => none
def C1.lit : C1 → Option Value
 | .c x => x.lit
 | _ => none
def litCs : List C1 → Option (List Value)
 | [] => some []
 | x :: l => match x.lit, litCs l with
  | some v, some vs => some (v :: vs)
  | _, _ => none
def AV.lit : AV → Option Value
 | .c x => x.lit
 | .g l => (litCs l).map fun vs => .agg vs.toArray
 | _ => none
theorem C1.lit_eq {ρ : Ren} {x : C1} {V v : Value} (h : x.lit = some V) (hr : x.R ρ v) : v = V := by
 cases x with
 | c x => cases x with
  | p a => cases a <;> simp [C1.lit, C0.lit] at h; subst h; exact hr
  | s a len cap sz full => cases a <;> simp [C1.lit, C0.lit] at h; subst h; exact hr
  | _ => simp [C1.lit, C0.lit] at h; subst h; exact hr
 | f fn first cap => simp [C1.lit] at h
theorem litCs_eq {ρ : Ren} : ∀ {l : List C1} {vs L : List Value}, litCs l = some vs → All2 (C1.R ρ) l L → L = vs
 | [], vs, [], h, _ => by simp [litCs] at h; exact h.symm
 | x :: l, vs, V :: L, h, ⟨h1, h2⟩ => by
  unfold litCs at h
  split at h
  ·rename_i v vs' hv hvs
   simp at h; subst h
   rw [C1.lit_eq hv h1, litCs_eq hvs h2]
  ·cases h
 | [], _, _ :: _, _, hh => hh.elim
 | _ :: _, _, [], _, hh => hh.elim
theorem AV.lit_eq {ρ : Ren} {x : AV} {V v : Value} (h : x.lit = some V) (hr : x.R ρ v) : v = V := by
 cases x with
 | c x => exact C1.lit_eq h hr
 | g l =>
  obtain ⟨vs, hvs, rfl⟩ := Option.map_eq_some_iff.1 h
  obtain ⟨L, h1, rfl⟩ := hr
  rw [litCs_eq hvs h1]
 | t l => simp [AV.lit] at h
def absC : Value → Option C0
 | .bool x => some (.b x)
 | .int k n => some (.i k n)
 | .pointer none => some (.p none)
 | .slice none 0 0 => some (.s none 0 none 0 false)
 | .nilIface => some .nilI
 | .nilFunc => some .nilF
 | _ => none
theorem absC_R {ρ : Ren} {v : Value} {x : C0} (h : absC v = some x) : x.R ρ v := by
 unfold absC at h
 split at h <;> simp at h <;> subst h <;> rfl
def absCs : List Value → Option (List C1)
 | [] => some []
 | v :: l => match absC v, absCs l with
  | some x, some xs => some (.c x :: xs)
  | _, _ => none
theorem absCs_R {ρ : Ren} : ∀ {l : List Value} {m : List C1}, absCs l = some m → All2 (C1.R ρ) m l
 | [], m, h => by simp [absCs] at h; subst h; trivial
 | v :: l, m, h => by
  unfold absCs at h
  split at h
  ·rename_i x xs hx hxs
   simp at h; subst h
   exact ⟨absC_R hx, absCs_R hxs⟩
  ·cases h
def absV : Value → Option AV
 | .agg cs => (absCs cs.toList).map .g
 | .tuple cs => if cs.size = 0 then some (.t []) else none
 | v => (absC v).map fun x => .c (.c x)
theorem absV_R {ρ : Ren} {v : Value} {x : AV} (h : absV v = some x) : x.R ρ v := by
 unfold absV at h
 split at h
 ·rename_i cs
  obtain ⟨m, hm, rfl⟩ := Option.map_eq_some_iff.1 h
  exact ⟨cs.toList, absCs_R hm, by simp⟩
 ·rename_i cs
  split at h
  ·rename_i h0
   simp at h; subst h
   exact ⟨[], trivial, by simp [Array.size_eq_zero_iff.1 h0]⟩
  ·cases h
 ·obtain ⟨m, hm, rfl⟩ := Option.map_eq_some_iff.1 h
  exact absC_R hm
structure Ent where
 cs : List C1
 ty : TypeId
 ex : Bool
 deriving DecidableEq
abbrev Hp := List (Nat × Ent)
noncomputable def get (H : Hp) : Nat → Option Ent :=
 @List.rec (Nat × Ent) (fun _ => Nat → Option Ent) (fun _ => none) (fun x _ ih n => cond (Nat.beq x.1 n) (some x.2) (ih n)) H
noncomputable def ins (n : Nat) (e : Ent) (H : Hp) : Hp :=
 @List.rec (Nat × Ent) (fun _ => Hp) [(n, e)] (fun x l ih => cond (Nat.blt x.1 n) ((n, e) :: x :: l) (x :: ih)) H
noncomputable def upd (n : Nat) (e : Ent) (H : Hp) : Hp :=
 @List.rec (Nat × Ent) (fun _ => Hp) [] (fun x l ih => cond (Nat.beq x.1 n) ((x.1, e) :: l) (x :: ih)) H
noncomputable def del (n : Nat) (H : Hp) : Hp :=
 @List.rec (Nat × Ent) (fun _ => Hp) [] (fun x l ih => cond (Nat.beq x.1 n) ih (x :: ih)) H
theorem Qd1 (n : Nat) : get [] n = none := rfl
theorem beq_if {α : Type} (m n : Nat) (a b : α) : (bif Nat.beq m n then a else b) = if m = n then a else b := by
 by_cases h : m = n
 ·subst h; simp
 ·have : Nat.beq m n = false := by
    cases hh : Nat.beq m n with
    | false => rfl
    | true => exact absurd (Nat.eq_of_beq_eq_true hh) h
  simp [this, h]
theorem Qb6 (m : Nat) (e : Ent) (H : Hp) (n : Nat) : get ((m, e) :: H) n = if m = n then some e else get H n := beq_if _ _ _ _
theorem ins_cons (n : Nat) (e : Ent) (m : Nat) (e' : Ent) (H : Hp) : ins n e ((m, e') :: H) = (n, e) :: (m, e') :: H ∨ ins n e ((m, e') :: H) = (m, e') :: ins n e H := by
 show (bif Nat.blt m n then _ else _) = _ ∨ (bif Nat.blt m n then _ else _) = _
 cases Nat.blt m n
 ·exact .inr rfl
 ·exact .inl rfl
theorem upd_cons (n : Nat) (e : Ent) (m : Nat) (e' : Ent) (H : Hp) : upd n e ((m, e') :: H) = if m = n then (m, e) :: H else (m, e') :: upd n e H := beq_if _ _ _ _
theorem del_cons (n : Nat) (m : Nat) (e' : Ent) (H : Hp) : del n ((m, e') :: H) = if m = n then del n H else (m, e') :: del n H := beq_if _ _ _ _
theorem Qea (n : Nat) (e : Ent) : ∀ (H : Hp), get H n = none → ∀ m, get (ins n e H) m = if m = n then some e else get H m
 | [], _, m => by
  show get [(n, e)] m = if m = n then some e else none
  rw [Qb6]
  by_cases h1 : m = n
  ·simp [h1]
  ·have h2 : ¬ n = m := fun h => h1 h.symm
   simp [h1, h2, Qd1]
 | (k, e') :: H, h, m => by
  rw [Qb6] at h
  split at h
  ·cases h
  ·rename_i hk
   rcases ins_cons n e k e' H with h3 | h3 <;> rw [h3]
   ·rw [Qb6]
    by_cases h1 : m = n
    ·simp [h1]
    ·have h2 : ¬ n = m := fun h => h1 h.symm
     simp [h1, h2]
   ·rw [Qb6, Qb6, Qea n e H h m]
    by_cases h1 : k = m
    ·subst h1; simp [hk]
    ·simp [h1]
theorem get_upd (n : Nat) (e : Ent) : ∀ (H : Hp) {e0 : Ent}, get H n = some e0 → ∀ m, get (upd n e H) m = if m = n then some e else get H m
 | [], _, h, _ => by simp [Qd1] at h
 | (k, e') :: H, e0, h, m => by
  rw [upd_cons]
  split
  ·rename_i hk
   subst hk
   rw [Qb6, Qb6]
   by_cases h1 : m = k
   ·simp [h1]
   ·have h2 : ¬ k = m := fun h => h1 h.symm
    simp [h1, h2]
  ·rename_i hk
   rw [Qb6, if_neg hk] at h
   rw [Qb6, Qb6, get_upd n e H h m]
   by_cases h1 : k = m
   ·subst h1; simp [hk]
   ·simp [h1]
theorem get_del (n : Nat) : ∀ (H : Hp) (m : Nat), get (del n H) m = if m = n then none else get H m
 | [], m => by show get [] m = _; simp [Qd1]
 | (k, e') :: H, m => by
  rw [del_cons]
  split
  ·rename_i hk
   subst hk
   rw [get_del k H m, Qb6]
   by_cases h1 : m = k
   ·simp [h1]
   ·have h2 : ¬ k = m := fun h => h1 h.symm
    simp [h1, h2]
  ·rename_i hk
   rw [Qb6, Qb6, get_del n H m]
   by_cases h1 : k = m
   ·subst h1; simp [hk]
   ·simp [h1]
structure Out (D : Nat → Prop) (w0 w : World) : Prop where
 os : w.os = w0.os
 tape : w.tape = w0.tape
 output : w.output = w0.output
 size : w0.heap.size ≤ w.heap.size
 block : ∀ k, k < w0.heap.size → ¬ D k → w.heap[k]? = w0.heap[k]?
def Holds (D : Nat → Prop) (w0 : World) (ρ : Ren) (w : World) (n : Nat) (e : Ent) : Prop :=
 ∃ g z c, ρ n = some (g, z) ∧ w.heap[g]? = some (.cells c e.ty (0, 0)) ∧ c.size = z ∧ (∀ (i : Nat) x, e.cs[i]? = some x → ∃ y, c.toList[i]? = some y ∧ C1.R ρ x y) ∧
  (e.ex = true → z = e.cs.length) ∧ (D g ∨ w0.heap.size ≤ g)
structure RH (D : Nat → Prop) (w0 : World) (ρ : Ren) (H : Hp) (dead : List Nat) (w : World) : Prop where
 hp : ∀ n e, get H n = some e → Holds D w0 ρ w n e
 inj : ∀ n m e e' g z z', get H n = some e → get H m = some e' → ρ n = some (g, z) → ρ m = some (g, z') → n = m
 fr : ∀ n x, ρ n = some x → (get H n).isSome = true ∨ n ∈ dead
 out : Out D w0 w
section
variable {D : Nat → Prop} {w0 : World} {ρ : Ren} {H : Hp} {dead : List Nat} {w : World}
theorem alloc_old {w : World} {k : Nat} (h : k < w.heap.size) (o : Obj) : (w.alloc o).heap[k]? = w.heap[k]? := by
 show (w.heap.push o)[k]? = _
 rw [Array.getElem?_push, if_neg (by omega)]
theorem alloc_new (w : World) (o : Obj) : (w.alloc o).heap[w.heap.size]? = some o := by
 show (w.heap.push o)[w.heap.size]? = _
 rw [Array.getElem?_push, if_pos rfl]
theorem Out.alloc (h : Out D w0 w) (o : Obj) : Out D w0 (w.alloc o) :=
 ⟨h.os, h.tape, h.output, by simp; have := h.size; omega, fun k hk hd => by
  have := h.size
  rw [alloc_old (by omega)]; exact h.block k hk hd⟩
theorem Out.drew (h : Out D w0 w) : Out D w0 w.drew := ⟨h.os, h.tape, h.output, h.size, h.block⟩
theorem Holds.block_lt {n : Nat} {e : Ent} (h : Holds D w0 ρ w n e) : ∀ g z, ρ n = some (g, z) → g < w.heap.size := by
 intro g z hg
 obtain ⟨g', z', c, h1, h2, _⟩ := h
 rw [hg] at h1; injection h1 with h1; injection h1 with h1 h3; subst h1
 rcases Nat.lt_or_ge g w.heap.size with h | h
 ·exact h
 ·rw [Array.getElem?_eq_none h] at h2; cases h2
def Ren.add (ρ : Ren) (n : Nat) (x : Nat × Nat) : Ren := fun m => if m = n then some x else ρ m
theorem Ren.le_add {ρ : Ren} {n : Nat} {x : Nat × Nat} (h : ρ n = none) : ρ.le (ρ.add n x) := by
 intro m y hm
 unfold Ren.add
 split
 ·rename_i e; subst e; rw [h] at hm; cases hm
 ·exact hm
theorem Holds.mono {ρ' : Ren} {w' : World} {n : Nat} {e : Ent} (h : Holds D w0 ρ w n e) (hr : ρ.le ρ') (hw : ∀ g z, ρ n = some (g, z) → w'.heap[g]? = w.heap[g]?) : Holds D w0 ρ' w' n e := by
 obtain ⟨g, z, c, h1, h2, h3, h4, h5⟩ := h
 exact ⟨g, z, c, hr _ _ h1, (hw g z h1).trans h2, h3, fun i x hx => let ⟨y, hy, hR⟩ := h4 i x hx; ⟨y, hy, C1.mono hr _ _ hR⟩, h5⟩
theorem RH.unused {n : Nat} (h : RH D w0 ρ H dead w) (hn : get H n = Option.none) (hd : n ∉ dead) : ρ n = Option.none := by
 cases hr : ρ n with
 | none => rfl
 | some x => rcases h.fr n x hr with h1 | h1
             ·rw [hn] at h1; cases h1
             ·exact absurd h1 hd
theorem RH.new (h : RH D w0 ρ H dead w) {n : Nat} (hn : get H n = Option.none) (hd : n ∉ dead) {cs : List C1} {L : List Value} (hc : All2 (C1.R ρ) cs L) (ty : TypeId) :
    RH D w0 (ρ.add n (w.heap.size, L.length)) (ins n ⟨cs, ty, true⟩ H) dead (w.alloc (.cells L.toArray ty)) ∧ ρ.le (ρ.add n (w.heap.size, L.length)) := by
 have h0 := h.unused hn hd
 have hle := Ren.le_add (x := (w.heap.size, L.length)) h0
 refine ⟨⟨?_, ?_, ?_, h.out.alloc _⟩, hle⟩
 ·intro m e he
  rw [Qea n _ H hn] at he
  split at he
  ·rename_i hm
   subst hm
   injection he with he; subst he
   refine ⟨w.heap.size, L.length, L.toArray, by simp [Ren.add], alloc_new _ _, by simp, fun i x hx => ?_, fun _ => hc.len.symm, .inr h.out.size⟩
   obtain ⟨y, hy, hr⟩ := hc.get i hx
   exact ⟨y, by simpa using hy, C1.mono hle _ _ hr⟩
  ·exact (h.hp m e he).mono hle fun g z hg => by
     exact alloc_old ((h.hp m e he).block_lt g z hg) _
 ·intro m m' e e' g z z' he he' hg hg'
  rw [Qea n _ H hn] at he he'
  unfold Ren.add at hg hg'
  split at he <;> split at he' <;> rename_i h1 h2
  ·rw [h1, h2]
  ·simp only [h1, if_true, h2, if_false] at hg hg'
   injection hg with hg; injection hg with hg _
   have := (h.hp m' e' he').block_lt g z' hg'
   omega
  ·simp only [h1, if_false, h2, if_true] at hg hg'
   injection hg' with hg'; injection hg' with hg' _
   have := (h.hp m e he).block_lt g z hg
   omega
  ·simp only [h1, if_false, h2] at hg hg'
   exact h.inj m m' e e' g z z' he he' hg hg'
 ·intro m x hm
  rw [Qea n _ H hn]
  unfold Ren.add at hm
  split at hm
  ·rename_i e; left; simp [e]
  ·rename_i e; simp only [e, if_false]; exact h.fr m x hm
theorem RH.drew (h : RH D w0 ρ H dead w) : RH D w0 ρ H dead w.drew :=
 ⟨fun n e he => (h.hp n e he).mono (Ren.le_refl _) fun _ _ _ => rfl, h.inj, h.fr, h.out.drew⟩
end
end Go.Proofs.YtchpkjgibloleaaGreat.V
namespace Go.Proofs.YtchpkjgibloleaaGreat.V
set_option maxRecDepth 100000
set_option maxHeartbeats 8000000
open Go
set_option linter.unusedVariables false
set_option linter.unusedSimpArgs false
def spl {α : Type} (l : List α) (o : Nat) (cs : List α) : List α := l.take o ++ cs ++ l.drop (o + cs.length)
theorem spl_len {α : Type} {l cs : List α} {o : Nat} (h : o + cs.length ≤ l.length) : (spl l o cs).length = l.length := by
 simp [spl]; omega
theorem spl_get {α : Type} {l cs : List α} {o : Nat} (h : o + cs.length ≤ l.length) (i : Nat) :
    (spl l o cs)[i]? = if i < o then l[i]? else if i < o + cs.length then cs[i - o]? else l[i]? := by
 unfold spl
 have h1 : (l.take o).length = o := by simp; omega
 split
 ·rename_i hi
  rw [List.append_assoc, List.getElem?_append_left (by omega), List.getElem?_take]
  simp [hi]
 ·rename_i hi
  rw [List.append_assoc, List.getElem?_append_right (by omega), h1]
  split
  ·rw [List.getElem?_append_left (by omega)]
  ·rw [List.getElem?_append_right (by omega), List.getElem?_drop]
   congr 1
   omega
theorem Out.setRow {D : Nat → Prop} {w0 w : World} (h : Out D w0 w) {g : Nat} (hg : D g ∨ w0.heap.size ≤ g) (cs : Array Value) : Out D w0 (w.setRow g cs) :=
 ⟨h.os, h.tape, h.output, by simpa using h.size, fun k hk hd => by
  rw [setRow_other w g k cs (by rintro rfl; rcases hg with hg | hg; exact hd hg; omega)]; exact h.block k hk hd⟩
section
variable {D : Nat → Prop} {w0 : World} {ρ : Ren} {H : Hp} {dead : List Nat} {w : World}
theorem RH.store (h : RH D w0 ρ H dead w) {n : Nat} {e : Ent} (he : get H n = some e) {g z : Nat} (hg : ρ n = some (g, z)) {cs : List C1} {L : List Value} (hc : All2 (C1.R ρ) cs L) {o : Nat}
    (ho : o + cs.length ≤ e.cs.length) {cur : Array Value} (hcur : w.heap[g]? = some (.cells cur e.ty (0, 0))) :
    RH D w0 ρ (upd n { e with cs := spl e.cs o cs } H) dead (w.setRow g (cur.toList.take o ++ L ++ cur.toList.drop (o + L.length)).toArray) := by
 obtain ⟨g', z', c, h1, h2, h3, h4, h5, h6⟩ := h.hp n e he
 rw [hg] at h1; injection h1 with h1; injection h1 with h1 h1'; subst h1; subst h1'
 rw [hcur] at h2; injection h2 with h2; injection h2 with h2 _ _; subst h2
 have hll := hc.len
 have hcl : e.cs.length ≤ cur.toList.length := by
  rcases Nat.lt_or_ge cur.toList.length e.cs.length with hlt | hge
  ·obtain ⟨y, hy, _⟩ := h4 cur.toList.length _ (List.getElem?_eq_getElem hlt)
   simp at hy
  ·exact hge
 refine ⟨?_, ?_, ?_, h.out.setRow h6 _⟩
 ·intro m e' he'
  rw [get_upd n _ H he] at he'
  split at he'
  ·rename_i hm
   subst hm
   injection he' with he'; subst he'
   refine ⟨g, z, _, hg, setRow_heap w g cur _ e.ty _ hcur, ?_, ?_, ?_, h6⟩
   ·have := spl_len (l := cur.toList) (cs := L) (o := o) (by omega)
    simp only [spl] at this
    simpa [← h3] using this
   ·intro i x hx
    simp only [spl_get (l := e.cs) (cs := cs) (o := o) ho] at hx
    have hs := spl_get (l := cur.toList) (cs := L) (o := o) (by omega) i
    simp only [spl] at hs
    simp only [hs]
    split at hx
    ·rename_i hi; simp only [hi, if_true]; exact h4 i x hx
    ·rename_i hi
     simp only [hi, if_false]
     split at hx
     ·rename_i hi2
      have : i < o + L.length := by omega
      simp only [this, if_true]
      exact hc.get _ hx
     ·rename_i hi2
      have : ¬ i < o + L.length := by omega
      simp only [this, if_false]
      exact h4 i x hx
   ·intro hx
    rw [h5 hx]
    exact (spl_len ho).symm
  ·rename_i hm
   refine (h.hp m e' he').mono (Ren.le_refl _) fun g1 z1 hg1 => setRow_other w g g1 _ ?_
   rintro rfl
   exact hm (h.inj m n e' e _ _ _ he' he hg1 hg)
 ·intro m m' e1 e2 g1 z1 z2 he1 he2 hg1 hg2
  rw [get_upd n _ H he] at he1 he2
  have key : ∀ m e1, (if m = n then some { e with cs := spl e.cs o cs } else get H m) = some e1 → ∃ e3, get H m = some e3 := fun m e1 hh => by
   split at hh
   ·rename_i hm; subst hm; exact ⟨e, he⟩
   ·exact ⟨_, hh⟩
  obtain ⟨e3, he3⟩ := key m e1 he1
  obtain ⟨e4, he4⟩ := key m' e2 he2
  exact h.inj m m' e3 e4 g1 z1 z2 he3 he4 hg1 hg2
 ·intro m x hm
  rw [get_upd n _ H he]
  rcases h.fr m x hm with h1 | h1
  ·left; split <;> simp_all
  ·exact .inr h1
theorem RH.moved (h : RH D w0 ρ H dead w) {n' : Nat} (hn : get H n' = none) (hd : n' ∉ dead) {w' : World} (old : Option Nat)
    (hold : ∀ n, old = some n → ∃ e g z, get H n = some e ∧ ρ n = some (g, z))
    (hgr : w.grownBy w' (old.bind fun n => (ρ n).map (·.1))) {g : Nat} {cur : Array Value} {ty : TypeId} (hcur : w'.heap[g]? = some (.cells cur ty (0, 0)))
    (hg : (old.bind fun n => (ρ n).map (·.1)) = some g ∨ g = w.heap.size) {cs : List C1} (hcs : ∀ (i : Nat) x, cs[i]? = some x → ∃ y, cur.toList[i]? = some y ∧ C1.R ρ x y) :
    let H1 := match old with | some n => del n H | none => H
    let d1 := match old with | some n => n :: dead | none => dead
    RH D w0 (ρ.add n' (g, cur.size)) (ins n' ⟨cs, ty, false⟩ H1) d1 w' ∧ ρ.le (ρ.add n' (g, cur.size)) := by
 intro H1 d1
 have h0 := h.unused hn hd
 have hle := Ren.le_add (x := (g, cur.size)) h0
 have hH1 : ∀ m e, get H1 m = some e → get H m = some e ∧ old ≠ some m := by
  intro m e he
  cases old with
  | none => exact ⟨he, by simp⟩
  | some n =>
   simp only [H1, get_del] at he
   split at he
   ·cases he
   ·rename_i hm; exact ⟨he, fun hh => hm (Option.some.inj hh).symm⟩
 have hn1 : get H1 n' = none := by
  cases hh : get H1 n' with
  | none => rfl
  | some e => rw [(hH1 n' e hh).1] at hn; cases hn
 have hfar : ∀ m e g1 z1, get H1 m = some e → ρ m = some (g1, z1) → g1 ≠ g ∧ some g1 ≠ (old.bind fun n => (ρ n).map (·.1)) := by
  intro m e g1 z1 he hm
  obtain ⟨he', hne⟩ := hH1 m e he
  have hlt := (h.hp m e he').block_lt g1 z1 hm
  have h2 : some g1 ≠ (old.bind fun n => (ρ n).map (·.1)) := by
   intro hh
   cases old with
   | none => cases hh
   | some n =>
    obtain ⟨e2, g2, z2, he2, hg2⟩ := hold n rfl
    simp [hg2] at hh
    subst hh
    exact hne (congrArg some (h.inj m n e e2 _ _ _ he' he2 hm hg2).symm)
  refine ⟨?_, h2⟩
  rintro rfl
  rcases hg with hg | hg
  ·exact h2 hg.symm
  ·omega
 have hgD : D g ∨ w0.heap.size ≤ g := by
  rcases hg with hg | hg
  ·cases old with
   | none => cases hg
   | some n =>
    obtain ⟨e2, g2, z2, he2, hg2⟩ := hold n rfl
    simp [hg2] at hg
    subst hg
    obtain ⟨g3, z3, c3, h1, _, _, _, _, h6⟩ := h.hp n e2 he2
    rw [hg2] at h1; injection h1 with h1; injection h1 with h1 _; subst h1; exact h6
  ·right; have := h.out.size; omega
 refine ⟨⟨?_, ?_, ?_, ?_⟩, hle⟩
 ·intro m e he
  rw [Qea n' _ H1 hn1] at he
  split at he
  ·rename_i hm
   subst hm
   injection he with he; subst he
   exact ⟨g, cur.size, cur, by simp [Ren.add], hcur, rfl, fun i x hx => let ⟨y, hy, hr⟩ := hcs i x hx; ⟨y, hy, C1.mono hle _ _ hr⟩, (by simp), hgD⟩
  ·refine (h.hp m e (hH1 m e he).1).mono hle fun g1 z1 hg1 => hgr.block g1 ((h.hp m e (hH1 m e he).1).block_lt g1 z1 hg1) (hfar m e g1 z1 he hg1).2
 ·intro m m' e e' g1 z z' he he' hg1 hg1'
  rw [Qea n' _ H1 hn1] at he he'
  unfold Ren.add at hg1 hg1'
  split at he <;> split at he' <;> rename_i h1 h2
  ·rw [h1, h2]
  ·simp only [h1, if_true, h2, if_false] at hg1 hg1'
   injection hg1 with hg1; injection hg1 with hg1 _
   exact absurd hg1.symm (hfar m' e' g1 z' he' hg1').1
  ·simp only [h1, if_false, h2, if_true] at hg1 hg1'
   injection hg1' with hg1'; injection hg1' with hg1' _
   exact absurd hg1'.symm (hfar m e g1 z he hg1).1
  ·simp only [h1, if_false, h2] at hg1 hg1'
   exact h.inj m m' e e' g1 z z' (hH1 _ _ he).1 (hH1 _ _ he').1 hg1 hg1'
 ·intro m x hm
  rw [Qea n' _ H1 hn1]
  unfold Ren.add at hm
  split at hm
  ·rename_i e; left; simp [e]
  ·rename_i e
   simp only [e, if_false]
   rcases h.fr m x hm with h1 | h1
   ·cases old with
    | none => exact .inl h1
    | some n =>
     simp only [H1, d1, get_del]
     by_cases hmn : m = n
     ·right; simp [hmn]
     ·left; simpa [hmn] using h1
   ·cases old with
    | none => exact .inr h1
    | some n => exact .inr (List.mem_cons_of_mem _ h1)
 ·refine ⟨hgr.os.trans h.out.os, hgr.tape.trans h.out.tape, hgr.output.trans h.out.output, Nat.le_trans h.out.size hgr.size, fun k hk hdk => ?_⟩
  rw [hgr.block k (Nat.lt_of_lt_of_le hk h.out.size), h.out.block k hk hdk]
  intro hh
  cases old with
  | none => cases hh
  | some n =>
   obtain ⟨e2, g2, z2, he2, hg2⟩ := hold n rfl
   simp [hg2] at hh
   subst hh
   obtain ⟨g3, z3, c3, h1, _, _, _, _, h6⟩ := h.hp n e2 he2
   rw [hg2] at h1; injection h1 with h1; injection h1 with h1 _; subst h1
   rcases h6 with h6 | h6
   ·exact hdk h6
   ·omega
end
end Go.Proofs.YtchpkjgibloleaaGreat.V
namespace Go.Proofs.YtchpkjgibloleaaGreat.V
set_option maxRecDepth 100000
set_option maxHeartbeats 8000000
open Go
set_option linter.unusedVariables false
set_option linter.unusedSimpArgs false
def Qd2 : AV := .t []
theorem undef_R (ρ : Ren) : Qd2.R ρ undef := ⟨[], trivial, rfl⟩
noncomputable def nthA (l : List AV) : Nat → AV :=
 @List.rec AV (fun _ => Nat → AV) (fun _ => Qd2) (fun x _ ih i => @Nat.rec (fun _ => AV) x (fun j _ => ih j) i) l
noncomputable def setA (l : List AV) : Nat → AV → List AV :=
 @List.rec AV (fun _ => Nat → AV → List AV) (fun _ _ => []) (fun x l ih i v => @Nat.rec (fun _ => List AV) (v :: l) (fun j _ => x :: ih j v) i) l
theorem nthA_eq : ∀ (l : List AV) (i : Nat), nthA l i = (l[i]?).getD Qd2
 | [], i => rfl
 | x :: l, 0 => rfl
 | x :: l, i + 1 => (nthA_eq l i).trans (by simp)
theorem setA_eq : ∀ (l : List AV) (i : Nat) (v : AV), setA l i v = l.set i v
 | [], i, v => rfl
 | x :: l, 0, v => rfl
 | x :: l, i + 1, v => congrArg (x :: ·) (setA_eq l i v)
noncomputable def opV (tm : List AV) : Operand → Option AV
 | .tmp t => some (nthA tm t)
 | .const v => absV v
 | .func f => some (.c (.f f [] []))
 | .global _ => none
noncomputable def litV (tm : List AV) : Operand → Option Value
 | .const v => some v
 | .tmp t => (nthA tm t).lit
 | _ => none
noncomputable def opsV (tm : List AV) : List Operand → Option (List AV)
 | [] => some []
 | x :: l => match opV tm x, opsV tm l with
  | some v, some vs => some (v :: vs)
  | _, _ => none
abbrev RT (ρ : Ren) (tm : List AV) (a : Act) : Prop := All2 (AV.R ρ) tm a.tmps.toList
section
variable {ρ : Ren} {tm : List AV} {a : Act}
theorem Qdp (h : RT ρ tm a) (t : Nat) : (nthA tm t).R ρ (a.tmps.getD t undef) := by
 rw [nthA_eq]
 cases ht : tm[t]? with
 | none =>
  have h1 : tm.length ≤ t := List.getElem?_eq_none_iff.1 ht
  have h2 := h.len
  have h3 : a.tmps.size ≤ t := by rw [h2] at h1; simpa using h1
  simp only [Option.getD_none, Array.getD_eq_getD_getElem?, Array.getElem?_eq_none h3]
  exact undef_R ρ
 | some v =>
  obtain ⟨y, hy, hr⟩ := h.get t ht
  have : a.tmps[t]? = some y := by simpa using hy
  simp only [Option.getD_some, Array.getD_eq_getD_getElem?, this]
  exact hr
theorem Qax (h : RT ρ tm a) {x : Operand} {v : AV} (hv : opV tm x = some v) : v.R ρ (a.eval x) := by
 cases x with
 | tmp t => simp only [opV, Option.some.injEq] at hv; subst hv; exact Qdp h t
 | const c => exact absV_R hv
 | func f => simp only [opV, Option.some.injEq] at hv; subst hv; exact ⟨[], [], trivial, trivial, rfl⟩
 | global g => simp [opV] at hv
theorem litV_sound (h : RT ρ tm a) {x : Operand} {V : Value} (hv : litV tm x = some V) : a.eval x = V := by
 cases x with
 | tmp t => exact AV.lit_eq hv (Qdp h t)
 | const c => simpa [litV, Act.eval] using hv
 | func f => simp [litV] at hv
 | global g => simp [litV] at hv
theorem Qeg (h : RT ρ tm a) : ∀ {l : List Operand} {vs : List AV}, opsV tm l = some vs → All2 (AV.R ρ) vs (l.map a.eval)
 | [], vs, hv => by simp [opsV] at hv; subst hv; trivial
 | x :: l, vs, hv => by
  unfold opsV at hv
  split at hv
  ·rename_i v vs' h1 h2
   simp at hv; subst hv
   exact ⟨Qax h h1, Qeg h h2⟩
  ·cases hv
end
def Qd6 (P : Program) : Sem Next → Option Value
 | .pure (.value v) => some v
 | .program k => Qd6 P (k P)
 | _ => none
theorem pureN_run {P : Program} : ∀ {s : Sem Next} {v : Value}, Qd6 P s = some v → ∀ w, s.run P w = .ok (.value v) w
 | .pure n, v, h, w => by
  cases n <;> simp [Qd6] at h
  subst h; rfl
 | .program k, v, h, w => by
  simp only [Qd6] at h
  exact pureN_run h w
 | .load .., v, h, w => by simp [Qd6] at h
 | .store .., v, h, w => by simp [Qd6] at h
 | .new .., v, h, w => by simp [Qd6] at h
 | .shape .., v, h, w => by simp [Qd6] at h
 | .freeze .., v, h, w => by simp [Qd6] at h
 | .frozen .., v, h, w => by simp [Qd6] at h
 | .getObj .., v, h, w => by simp [Qd6] at h
 | .setObj .., v, h, w => by simp [Qd6] at h
 | .choose .., v, h, w => by simp [Qd6] at h
 | .sys .., v, h, w => by simp [Qd6] at h
 | .mark .., v, h, w => by simp [Qd6] at h
 | .halt .., v, h, w => by simp [Qd6] at h
def isSel : Op → Bool
 | .select .. => true
 | _ => false
noncomputable def allLit (tm : List AV) : List Operand → Bool
 | [] => true
 | x :: l => (litV tm x).isSome && allLit tm l
noncomputable def runLit (P : Program) (tm : List AV) (o : Oper) : Option AV :=
 if allLit tm o.op.operands.toList && !isSel o.op then
  match Qd6 P (execOp (fun x => (litV tm x).getD undef) o) with
  | some v => absV v
  | none => none
 else none
theorem allLit_mem {tm : List AV} : ∀ {l : List Operand}, allLit tm l = true → ∀ x ∈ l, (litV tm x).isSome = true
 | x :: l, h, y, hy => by
  simp only [allLit, Bool.and_eq_true] at h
  rcases List.mem_cons.1 hy with rfl | hy
  ·exact h.1
  ·exact allLit_mem h.2 y hy
theorem Qc2 {P : Program} {ρ : Ren} {tm : List AV} {a : Act} (h : RT ρ tm a) {o : Oper} {v : AV} (hv : runLit P tm o = some v) :
    ∃ V, v.R ρ V ∧ ∀ w, (execOp a.eval o).run P w = .ok (.value V) w := by
 unfold runLit at hv
 split at hv
 ·rename_i hc
  simp only [Bool.and_eq_true, Bool.not_eq_true'] at hc
  split at hv
  ·rename_i V hV
   refine ⟨V, absV_R hv, fun w => ?_⟩
   rw [execOp_congr (ρ := a.eval) (ρ' := fun x => (litV tm x).getD undef) o (fun cs b hh => by simp [hh, isSel] at hc) fun x hx => ?_]
   ·exact pureN_run hV w
   ·have := allLit_mem hc.1 x (by simpa using hx)
    obtain ⟨V', hV'⟩ := Option.isSome_iff_exists.1 this
    rw [litV_sound h hV', hV']; rfl
  ·cases hv
 ·cases hv
section
variable {P : Program} {ρ : Ren}
theorem Qcp {t : TypeId} {i : TypeInfo} (h : P.info? t = some i) (w : World) : (sizeOf t).run P w = .ok i.size w := by
 simp [sizeOf, typeInfo, h]
theorem addr_add (g o n : Nat) : (⟨g, o, none⟩ : Addr).add n = ⟨g, o + n, none⟩ := by
 unfold Addr.add; split <;> simp_all
def Qep (P : Program) (s : TypeId) (v : AV) (f : Nat) : Option AV :=
 match v, P.underlying s with
 | .c (.c (.p (some (n, o)))), some (.struct fields) =>
  match fields[f]? with
  | some fd => match P.info? fd.type with
   | some i => if i.size = 0 then none else some (.c (.c (.p (some (n, o + fd.offset)))))
   | none => none
  | none => none
 | _, _ => none
theorem evFieldAddr_sound {s : TypeId} {v r : AV} {V : Value} {f : Nat} (hv : v.R ρ V) (h : Qep P s v f = some r) :
    ∃ V', r.R ρ V' ∧ ∀ w, (Instr.fieldAt s V f).run P w = .ok V' w := by
 unfold Qep at h
 split at h
 ·rename_i n o fields hu
  split at h
  ·rename_i fd hf
   split at h
   ·rename_i i hi
    split at h
    ·cases h
    ·rename_i hz
     simp at h; subst h
     obtain ⟨g, z, h1, rfl⟩ := hv
     refine ⟨.pointer (some ⟨g, o + fd.offset, none⟩), ⟨g, z, h1, rfl⟩, fun w => ?_⟩
     simp [Instr.fieldAt, run_underlying hu, hf, Instr.sureAddr, fieldPlace, Qcp hi, hz, addr_add]
   ·cases h
  ·cases h
 ·cases h
def Qeo (P : Program) (t : TypeId) (v ix : AV) : Option AV :=
 match P.underlying t, v, ix with
 | some (.slice el), .c (.c (.s (some (n, o)) len _ _ _)), .c (.c (.i _ j)) =>
  match P.info? el with
  | some i => if 0 ≤ j ∧ j < (len : Int) then some (.c (.c (.p (some (n, o + j.toNat * i.size))))) else none
  | none => none
 | _, _, _ => none
theorem evIndexAddr_sound {t : TypeId} {v ix r : AV} {V X : Value} (hv : v.R ρ V) (hx : ix.R ρ X) (h : Qeo P t v ix = some r) :
    ∃ V', r.R ρ V' ∧ ∀ w, (Instr.indexAt t V X).run P w = .ok V' w := by
 unfold Qeo at h
 split at h
 ·rename_i el n o len cap sz full k j hu
  split at h
  ·rename_i i hi
   split at h
   ·rename_i hj
    simp at h; subst h
    obtain ⟨g, z, c, h1, rfl, _⟩ := hv
    cases hx
    refine ⟨.pointer (some ⟨g, o + j.toNat * i.size, none⟩), ⟨g, z, h1, rfl⟩, fun w => ?_⟩
    simp [Instr.indexAt, asIntOf, run_underlying hu, Qcp hi, hj, addr_add]
   ·cases h
  ·cases h
 ·cases h
def intA : AV → Option Int
 | .c (.c (.i _ j)) => some j
 | _ => none
def lowA (lo : Option AV) : Option Nat :=
 match lo with
 | none => some 0
 | some v => match intA v with
  | some j => if 0 ≤ j then some j.toNat else none
  | none => none
def highA (len : Nat) (hi : Option AV) : Option Nat :=
 match hi with
 | none => some len
 | some v => match intA v with
  | some j => if 0 ≤ j then some j.toNat else none
  | none => none
def offA (o len sz l : Nat) (cap : Option Nat) : Option Nat :=
 if l = 0 then some o else if l < len then some (o + l * sz) else match cap with
  | some c => some (if c = l then o else o + l * sz)
  | none => none
def evSlice (P : Program) (t : TypeId) (v : AV) (lo hi : Option AV) : Option AV :=
 match P.underlying t, v with
 | some (.slice el), .c (.c (.s (some (n, o)) len cap sz full)) =>
  match P.info? el, lowA lo, highA len hi with
  | some i, some l, some h => if l ≤ h ∧ h ≤ len ∧ i.size = sz then
      match offA o len sz l cap with
      | some o' => some (.c (.c (.s (some (n, o')) (h - l) (cap.map (· - l)) sz (full && (o' = o + l * sz)))))
      | none => none
   else none
  | _, _, _ => none
 | some (.slice el), .c (.c (.s none len cap sz full)) =>
  match P.info? el, lowA lo, highA 0 hi with
  | some i, some l, some h => if l = 0 ∧ h = 0 then some (.c (.c (.s none len cap sz full))) else none
  | _, _, _ => none
 | _, _ => none
def OptR (ρ : Ren) : Option AV → Option Value → Prop
 | none, none => True
 | some v, some V => v.R ρ V
 | _, _ => False
theorem bound_run {v : AV} {V : Value} {j : Int} {y : Nat} (hv : v.R ρ V) (hi : intA v = some j) (h0 : 0 ≤ j) (hy : j.toNat ≤ y) (code : BoundsCode) (w : World) : (Instr.sliceBound V y code).run P w = .ok j.toNat w := by
 unfold intA at hi
 split at hi
 ·rename_i k j'
  simp at hi; subst hi
  cases hv
  have h1 : j' ≤ (y : Int) := by omega
  simp [Instr.sliceBound, asIntOf, h0, h1]
 ·cases hi
theorem bounds_run {lo hi : Option AV} {LO HI : Option Value} {l h len c : Nat} (hlo : OptR ρ lo LO) (hhi : OptR ρ hi HI) (h1 : lowA lo = some l) (h2 : highA len hi = some h) (hlh : l ≤ h) (hc : h ≤ c) (w : World) :
    (Instr.sliceBounds true len c LO HI none).run P w = .ok (l, h, c) w := by
 have e2 : ∀ w, (match HI with | some v => Instr.sliceBound v c .sliceAcap | none => pure len : Sem Nat).run P w = .ok h w := by
  intro w
  cases hi with
  | none => cases HI with
   | none => simp [highA] at h2; subst h2; simp
   | some V => exact hhi.elim
  | some v => cases HI with
   | none => exact hhi.elim
   | some V =>
    simp only [highA] at h2
    split at h2
    ·rename_i j hj
     split at h2
     ·rename_i h0; simp at h2; subst h2; exact bound_run hhi hj h0 hc _ w
     ·cases h2
    ·cases h2
 have e1 : ∀ w, (match LO with | some v => Instr.sliceBound v h .sliceB | none => pure 0 : Sem Nat).run P w = .ok l w := by
  intro w
  cases lo with
  | none => cases LO with
   | none => simp [lowA] at h1; subst h1; simp
   | some V => exact hlo.elim
  | some v => cases LO with
   | none => exact hlo.elim
   | some V =>
    simp only [lowA] at h1
    split at h1
    ·rename_i j hj
     split at h1
     ·rename_i h0; simp at h1; subst h1; exact bound_run hlo hj h0 hlh _ w
     ·cases h1
    ·cases h1
 cases HI <;> cases LO <;> simp_all [Instr.sliceBounds]
theorem Qdg {t : TypeId} {v r : AV} {lo hi : Option AV} {V : Value} {LO HI : Option Value} (hv : v.R ρ V) (hlo : OptR ρ lo LO) (hhi : OptR ρ hi HI) (h : evSlice P t v lo hi = some r) :
    ∃ V', r.R ρ V' ∧ ∀ w, (Instr.sliceAt t V LO HI none).run P w = .ok V' w := by
 unfold evSlice at h
 split at h
 ·rename_i el n o len cap sz full hu
  split at h
  ·rename_i i l hh hi' hl hhg
   split at h
   ·rename_i hc
    obtain ⟨hlh, hhl, hsz⟩ := hc
    split at h
    ·rename_i o' ho'
     simp at h; subst h
     obtain ⟨g, z, c, h1, rfl, h2, h3, h4, h5, h6⟩ := hv
     have hb := bounds_run (P := P) hlo hhi hl hhg hlh (Nat.le_trans hhl h3)
     have hadd : (if c = l then some (⟨g, o, none⟩ : Addr) else some (⟨g, o + l * sz, none⟩ : Addr)) = some ⟨g, o', none⟩ := by
      unfold offA at ho'
      split at ho'
      ·rename_i hl0; simp at ho'; subst ho'; subst hl0; split <;> simp
      ·split at ho'
       ·rename_i hl0 hl1; simp at ho'; subst ho'; rw [if_neg (by omega)]
       ·split at ho'
        ·rename_i c' ; simp at ho'; subst ho'; have := h2 _ rfl; subst this; split <;> rfl
        ·cases ho'
     have ho2 : o' = o ∨ o' = o + l * sz := by
      split at hadd
      ·injection hadd with hadd; injection hadd with _ hadd; exact .inl hadd.symm
      ·injection hadd with hadd; injection hadd with _ hadd; exact .inr hadd.symm
     have hcl : (c - l) * sz + l * sz = c * sz := by rw [← Nat.add_mul]; congr 1; omega
     refine ⟨.slice (some ⟨g, o', none⟩) (hh - l) (c - l), ⟨g, z, c - l, h1, rfl, ?_, by omega, by omega, by omega, ?_⟩, fun w => ?_⟩
     ·intro c' hc'
      cases cap with
      | none => simp at hc'
      | some c0 => simp at hc'; have := h2 c0 rfl; omega
     ·intro hf
      simp at hf
      have := h6 hf.1
      have := hf.2
      omega
     ·simp only [Instr.sliceAt, Sem.run_bind, run_underlying hu, Result.andThen_ok, Instr.slice, hb, Qcp hi', hsz, Sem.run_pure, Option.map_some, addr_add, hadd]
    ·cases h
   ·cases h
  ·cases h
 ·rename_i el len cap sz full hu
  split at h
  ·rename_i i l hh hi' hl hhg
   split at h
   ·rename_i hc
    obtain ⟨rfl, rfl⟩ := hc
    simp at h; subst h
    cases hv
    have hb := bounds_run (P := P) (c := 0) hlo hhi hl hhg (Nat.le_refl _) (Nat.le_refl _)
    refine ⟨.slice none 0 0, rfl, fun w => ?_⟩
    simp only [Instr.sliceAt, Sem.run_bind, run_underlying hu, Result.andThen_ok, Instr.slice, hb, Qcp hi', Sem.run_pure]
    simp
   ·cases h
  ·cases h
 ·cases h
end
end Go.Proofs.YtchpkjgibloleaaGreat.V
