/- TE -/
import Derived.Test.YtchpkjgibloleaaGreatTA
import Derived.Test.YtchpkjgibloleaaGreatTD
import Derived.Test.YtchpkjgibloleaaGreatTW
import Derived.Deep.Slices
import Derived.ProofKit
import Derived.OpenShut
import Derived.Test.YtchpkjgibloleaaGreatRows
import Derived.WalkKit
import Derived.ShutString
import Derived.ChangeOld
import Derived.Below
import Derived.SizedLaws
import Derived.Carry
import Derived.Test.YtchpkjgibloleaaGreatTC
import Derived.Test.YtchpkjgibloleaaGreatTB
set_option linter.unusedVariables false
set_option linter.unusedSimpArgs false
namespace Go.Proofs.YtchpkjgibloleaaGreat.Z
set_option maxRecDepth 100000
set_option maxHeartbeats 8000000
open Go.RowKit Go.Proofs.YtchpkjgibloleaaGreatW.PrintWords Go.Proofs.YtchpkjgibloleaaGreatW.PrintLast Go.Proofs.YtchpkjgibloleaaGreatW.PrintMore
attribute [local go_sem] Qb3 Qb8
attribute [local go_sem high] eqA47
mutual
def Qaf.l0 : Nat → List (S59) → Int → Int → Option (Int)
 | 0, _, _, _ => none
 | k + 1, x0, x3, x4 => if x4 < (x0.length : Int) then (Qaf.l1 k x0 x3 x4 0) else (some x3)
def Qaf.l1 : Nat → List (S59) → Int → Int → Int → Option (Int)
 | 0, _, _, _, _ => none
 | k + 1, x0, x3, x4, x5 => if (wrap64 (x4 + x5)) < (x0.length : Int) then (if 0 ≤ (wrap64 (x4 + x5)) then (Qaf.j2 k x0 x3 x4 x5 (((Qag x0 (wrap64 (x4 + x5))).f0) == 18)) else (none)) else (Qaf.j2 k x0 x3 x4 x5 false)
def Qaf.j2 : Nat → List (S59) → Int → Int → Int → Bool → Option (Int)
 | 0, _, _, _, _, _ => none
 | k + 1, x0, x3, x4, x5, x27 => if x27 = true then (Qaf.l1 k x0 x3 x4 (wrap64 (x5 + 1))) else (if x5 > x3 then (Qaf.l0 k x0 x5 (wrap64 (x4 + 1))) else (Qaf.l0 k x0 x3 (wrap64 (x4 + 1))))
end
def Qaf.f (k : Nat) (l0 : List (S59)) : Option (Int) := Qaf.l0 k l0 0 0
theorem Qaf.calls (k : Nat) (A0 : Option Addr) (c0 : Nat) (l0 : List (S59)) (r : Int) (w : World) (hr0 : Kd.C k59 w A0 l0.length l0) (hc0 : l0.length ≤ c0) (h : Qaf.f k l0 = some r) :
 Calls Tryz.prog 16 #[.slice A0 l0.length c0] w fun e w' => e = .returned (.int .i64 r) ∧ Qbz w w' := by
 have R0 := As0 hr0
 have C0 := As0 hc0
 clear hr0 hc0
 have H : (Qaf.l0 k l0 0 0) = some r := h
 clear h
 have H' := As0 H
 clear H
 go_enter Tryz.func16, Tryz.ntmps16
 go_wp2
 go_loopg [3, 4] k (fun kq v3 v4 w' => ∃ (x3_1 : Int) (x4_1 : Int), v3 = .int .i64 x3_1 ∧ v4 = .int .i64 x4_1 ∧ Qbk (Qaf.l0 kq l0 x3_1 x4_1 = some r) ∧ Qbk (kq ≤ k) ∧ Qbz w w')
 case atStart => exact ⟨(0), (0), eR, eR, H', ⟨Nat.le_refl _⟩, by repeat (first | exact Qbz.refl _ | apply Qbz.step)⟩
 case round =>
  clear H'
  obtain ⟨x3_1, x4_1, rfl, rfl, HA, HK1, ⟨m1, rfl⟩⟩ := hrel
  cases gk with
  | zero => exact absurd HA.out (by simp [Qaf.l0])
  | succ k1 =>
   have H := HA.out
   clear HA
   simp only [Qaf.l0] at H
   by_cases c2 : x4_1 < (l0.length : Int)
   rotate_left
   ·rw [if_neg c2] at H
    have c2b0 := decide_eq_false c2
    clear c2
    obtain rfl := Option.some.inj H
    go_wp2
    go_ret
    exact dR
   rw [if_pos c2] at H
   have c2b0 := decide_eq_true c2
   clear c2
   have H' := As0 H
   clear H
   go_wp2
   go_loopg [5] k1 (fun kq v5 w' => ∃ (x5_2 : Int), v5 = .int .i64 x5_2 ∧ Qbk (Qaf.l1 kq l0 x3_1 x4_1 x5_2 = some r) ∧ Qbk (kq ≤ k1) ∧ Qbz w w')
   case atStart => exact ⟨(0), eR, H', ⟨Nat.le_refl _⟩, by repeat (first | exact Qbz.refl _ | apply Qbz.step)⟩
   case round =>
    clear H'
    obtain ⟨x5_2, rfl, HA, HK2, ⟨m2, rfl⟩⟩ := hrel
    cases gk with
    | zero => exact absurd HA.out (by simp [Qaf.l1])
    | succ k2 =>
     have H := HA.out
     clear HA
     simp only [Qaf.l1] at H
     have C3 := As0 H
     clear H
     go_upto_region 6 with (fail)
     go_cut [27] (fun v27 wc => ∃ (kq : Nat) (x27_2 : Bool), v27 = .bool x27_2 ∧ Qbk (Qaf.j2 kq l0 x3_1 x4_1 x5_2 x27_2 = some r) ∧ Qbk (kq ≤ k2) ∧ Qbz w wc)
     case first =>
      have H := C3.out
      clear C3
      by_cases c4 : (wrap64 (x4_1 + x5_2)) < (l0.length : Int)
      rotate_left
      ·rw [if_neg c4] at H
       have c4b0 := decide_eq_false c4
       clear c4
       (first | rw [c4b0] | (simp only [Qbu, Qbv]; rw [c4b0]) | skip)
       have H' := As0 H
       clear H
       go_wp2
       go_meet
       case rel => exact ⟨_, (false), eR, H', ⟨by have := HK1.out; have := HK2.out; first | omega | exact Nat.le_refl _⟩, by repeat (first | exact Qbz.refl _ | apply Qbz.step)⟩
      rw [if_pos c4] at H
      have c4b0 := decide_eq_true c4
      clear c4
      (first | rw [c4b0] | (simp only [Qbu, Qbv]; rw [c4b0]) | skip)
      obtain ⟨ji5, hji5⟩ : ∃ j_ : Int, (wrap64 (x4_1 + x5_2)) = j_ := ⟨_, rfl⟩
      replace H : (if 0 ≤ (ji5) then (Qaf.j2 k2 l0 x3_1 x4_1 x5_2 (((Qag l0 (ji5)).f0) == 18)) else (none)) = some r := by first | (rw [hji5] at H; exact H) | (simp only [hji5] at H ⊢; exact H)
      (try rw [hji5] at c4b0)
      have hji5w : (IntKind.i64.wrap (x4_1 + x5_2)) = ji5 := (Qbu _).trans hji5
      by_cases c6 : 0 ≤ (ji5)
      rotate_left
      ·rw [if_neg c6] at H
       exact absurd H (by simp)
      rw [if_pos c6] at H
      have c6b0 := decide_eq_true c6
      clear c6
      have H' := As0 H
      clear H
      have p548 : 0 ≤ ((ji5) : Int) := qR
      have q548 : (ji5) < (l0.length : Int) := qR
      obtain ⟨ad548, e548, hx548_0, hx548_1, hx548_2, hx548_3, hx548_4, hx548_5, hx548_6⟩ := at_T59 R0.out (ji5) p548 q548
      cases e548
      replace p548 := eq_true p548
      replace q548 := eq_true q548
      go_wp2
      go_meet
      case rel => exact ⟨_, ((((Qag l0 (ji5)).f0) == 18)), (by first | rfl | (simp; done) | (simp only [← hji5] <;> (first | rfl | simp)) | (simp [*]; done)), H', ⟨by have := HK1.out; have := HK2.out; first | omega | exact Nat.le_refl _⟩, by repeat (first | exact Qbz.refl _ | apply Qbz.step)⟩
     case rest =>
      clear C3
      obtain ⟨kq, x27_2, rfl, HA, HJ2, ⟨mc2, rfl⟩⟩ := hcut
      cases kq with
      | zero => exact absurd HA.out (by simp [Qaf.j2])
      | succ kj2 =>
       have H := HA.out
       clear HA
       simp only [Qaf.j2] at H
       by_cases c7 : x27_2 = true
       ·subst c7
        rw [if_pos rfl] at H
        have H' := As0 H
        clear H
        go_wp2
        go_roundg kj2
        case measure => have := HK1.out; have := HK2.out; have := HJ2.out; omega
        case rel => exact ⟨(wrap64 (x5_2 + 1)), eR, H', ⟨by have := HK1.out; have := HK2.out; have := HJ2.out; omega⟩, by repeat (first | exact Qbz.refl _ | apply Qbz.step)⟩
       replace c7 := Bool.eq_false_iff.mpr c7
       subst c7
       rw [if_neg bF] at H
       by_cases c8 : x5_2 > x3_1
       rotate_left
       ·rw [if_neg c8] at H
        have c8b0 := decide_eq_false c8
        clear c8
        have H' := As0 H
        clear H
        go_wp2
        go_roundg kj2
        case measure => have := HK1.out; have := HK2.out; have := HJ2.out; omega
        case rel => exact ⟨(x3_1), (wrap64 (x4_1 + 1)), eR, eR, H', ⟨by have := HK1.out; have := HK2.out; have := HJ2.out; omega⟩, by repeat (first | exact Qbz.refl _ | apply Qbz.step)⟩
       rw [if_pos c8] at H
       have c8b0 := decide_eq_true c8
       clear c8
       have H' := As0 H
       clear H
       go_wp2
       go_roundg kj2
       case measure => have := HK1.out; have := HK2.out; have := HJ2.out; omega
       case rel => exact ⟨(x5_2), (wrap64 (x4_1 + 1)), eR, eR, H', ⟨by have := HK1.out; have := HK2.out; have := HJ2.out; omega⟩, by repeat (first | exact Qbz.refl _ | apply Qbz.step)⟩
def Qa2.f (l0 : List (S59)) (a1 a2_0 a2_1 a2_2 a2_3 a2_4 a2_5 a2_6 : Int) : Option ((List (S59))) := if (wrap64 ((l0.length : Int) + 1)) = 0 then (none) else ((some (([] : List (S59)) : List (S59))).bind fun y525 => (if 0 ≤ (Int.tmod a1 (wrap64 ((l0.length : Int) + 1))) then (if (Int.tmod a1 (wrap64 ((l0.length : Int) + 1))) ≤ (l0.length : Int) then ((some (l0.take ((Int.tmod a1 (wrap64 ((l0.length : Int) + 1))) : Int).toNat : List (S59))).bind fun y528 => (if y525.length + y528.length < 2513169434916 then ((some (y525 ++ y528 : List (S59))).bind fun y532 => ((some (([(⟨a2_0, a2_1, a2_2, a2_3, a2_4, a2_5, a2_6⟩ : S59)] : List (S59)) : List (S59))).bind fun y535 => (if y532.length + y535.length < 2513169434916 then ((some (y532 ++ y535 : List (S59))).bind fun y538 => ((some (l0.drop ((Int.tmod a1 (wrap64 ((l0.length : Int) + 1))) : Int).toNat : List (S59))).bind fun y541 => (if y538.length + y541.length < 2513169434916 then (some (y538 ++ y541)) else (none)))) else (none)))) else (none))) else (none)) else (none)))
def Qa2.T2 : Bool × List (List Nat × List Nat) := (true, [([], []), ([], []), ([], []), ([1, 2], [1, 2]), ([0, 3], [0, 3]), ([], []), ([5], [5]), ([4, 6, 4], [4, 6]), ([7, 7, 0, 1, 2, 3, 4, 5, 6, 7], [7])])
def Qa2.B2 : List Nat := [0, 0, 0, 6, 15, 0, 32, 127, 255]
theorem Qa2.tab2 : rtab .any (opsOf Tryz.f15 2) = Qa2.T2 := by kernel_rfl
theorem Qa2.bits2 : Qcr Qa2.T2.2 Qa2.B2 = true := by kernel_rfl
theorem Qa2.calls (A0 : Option Addr) (c0 : Nat) (l0 : List (S59)) (a1 a2_0 a2_1 a2_2 a2_3 a2_4 a2_5 a2_6 : Int) (r : List (S59)) (w : World) (hr0 : Kd.C k59 w A0 l0.length l0) (hc0 : l0.length ≤ c0) (h : Qa2.f l0 a1 a2_0 a2_1 a2_2 a2_3 a2_4 a2_5 a2_6 = some r) :
 Calls Tryz.prog 15 #[.slice A0 l0.length c0, .int .i64 a1, .agg #[.int .i64 a2_0, .int .i64 a2_1, .int .i64 a2_2, .int .i64 a2_3, .int .i64 a2_4, .int .i64 a2_5, .int .i64 a2_6]] w fun e w' => ∃ v0_ : Value, e = .returned (v0_) ∧ Kd.R k59 59 w' w.heap.size (fun _ => True) v0_ r ∧ Below w.heap.size w w' := by
 have hu59 := Tryz.underlying59
 have R0 := As0 hr0
 have C0 := As0 hc0
 clear hr0 hc0
 have HB := As0 (Below.refl w.heap.size w)
 have H : (if (wrap64 ((l0.length : Int) + 1)) = 0 then (none) else ((some (([] : List (S59)) : List (S59))).bind fun y525 => (if 0 ≤ (Int.tmod a1 (wrap64 ((l0.length : Int) + 1))) then (if (Int.tmod a1 (wrap64 ((l0.length : Int) + 1))) ≤ (l0.length : Int) then ((some (l0.take ((Int.tmod a1 (wrap64 ((l0.length : Int) + 1))) : Int).toNat : List (S59))).bind fun y528 => (if y525.length + y528.length < 2513169434916 then ((some (y525 ++ y528 : List (S59))).bind fun y532 => ((some (([(⟨a2_0, a2_1, a2_2, a2_3, a2_4, a2_5, a2_6⟩ : S59)] : List (S59)) : List (S59))).bind fun y535 => (if y532.length + y535.length < 2513169434916 then ((some (y532 ++ y535 : List (S59))).bind fun y538 => ((some (l0.drop ((Int.tmod a1 (wrap64 ((l0.length : Int) + 1))) : Int).toNat : List (S59))).bind fun y541 => (if y538.length + y541.length < 2513169434916 then (some (y538 ++ y541)) else (none)))) else (none)))) else (none))) else (none)) else (none)))) = some r := h
 clear h
 by_cases c4 : (wrap64 ((l0.length : Int) + 1)) = 0
 ·rw [if_pos c4] at H
  exact absurd H (by simp)
 rw [if_neg c4] at H
 have c4b0 : ((wrap64 ((l0.length : Int) + 1)) == 0) = false := beq_eq_false_iff_ne.mpr c4
 have c4b1 : ((wrap64 ((l0.length : Int) + 1)) != 0) = true := bne_iff_ne.mpr c4
 obtain ⟨y525, hy525⟩ : ∃ y_ : List (S59), y_ = (([] : List (S59))) := ⟨_, rfl⟩
 replace H : (if 0 ≤ (Int.tmod a1 (wrap64 ((l0.length : Int) + 1))) then (if (Int.tmod a1 (wrap64 ((l0.length : Int) + 1))) ≤ (l0.length : Int) then ((some (l0.take ((Int.tmod a1 (wrap64 ((l0.length : Int) + 1))) : Int).toNat : List (S59))).bind fun y528 => (if y525.length + y528.length < 2513169434916 then ((some (y525 ++ y528 : List (S59))).bind fun y532 => ((some (([(⟨a2_0, a2_1, a2_2, a2_3, a2_4, a2_5, a2_6⟩ : S59)] : List (S59)) : List (S59))).bind fun y535 => (if y532.length + y535.length < 2513169434916 then ((some (y532 ++ y535 : List (S59))).bind fun y538 => ((some (l0.drop ((Int.tmod a1 (wrap64 ((l0.length : Int) + 1))) : Int).toNat : List (S59))).bind fun y541 => (if y538.length + y541.length < 2513169434916 then (some (y538 ++ y541)) else (none)))) else (none)))) else (none))) else (none)) else (none)) = some r := by first | (rw [hy525]; exact H) | exact H
 have Ny525 := As0 hy525
 clear hy525
 obtain ⟨ji5, hji5⟩ : ∃ j_ : Int, (Int.tmod a1 (wrap64 ((l0.length : Int) + 1))) = j_ := ⟨_, rfl⟩
 replace H : (if 0 ≤ (ji5) then (if (ji5) ≤ (l0.length : Int) then ((some (l0.take ((ji5) : Int).toNat : List (S59))).bind fun y528 => (if y525.length + y528.length < 2513169434916 then ((some (y525 ++ y528 : List (S59))).bind fun y532 => ((some (([(⟨a2_0, a2_1, a2_2, a2_3, a2_4, a2_5, a2_6⟩ : S59)] : List (S59)) : List (S59))).bind fun y535 => (if y532.length + y535.length < 2513169434916 then ((some (y532 ++ y535 : List (S59))).bind fun y538 => ((some (l0.drop ((ji5) : Int).toNat : List (S59))).bind fun y541 => (if y538.length + y541.length < 2513169434916 then (some (y538 ++ y541)) else (none)))) else (none)))) else (none))) else (none)) else (none)) = some r := by first | (rw [hji5] at H; exact H) | (simp only [hji5] at H ⊢; exact H)
 by_cases c6 : 0 ≤ (ji5)
 rotate_left
 ·rw [if_neg c6] at H
  exact absurd H (by simp)
 rw [if_pos c6] at H
 have c6b0 := eq_true c6
 have c6b1 := decide_eq_true c6
 clear c6
 by_cases c7 : (ji5) ≤ (l0.length : Int)
 rotate_left
 ·rw [if_neg c7] at H
  exact absurd H (by simp)
 rw [if_pos c7] at H
 have c7b0 := eq_true c7
 have c7b1 := decide_eq_true c7
 clear c7
 obtain ⟨y528, hy528⟩ : ∃ y_ : List (S59), y_ = (l0.take ((ji5) : Int).toNat) := ⟨_, rfl⟩
 replace H : (if y525.length + y528.length < 2513169434916 then ((some (y525 ++ y528 : List (S59))).bind fun y532 => ((some (([(⟨a2_0, a2_1, a2_2, a2_3, a2_4, a2_5, a2_6⟩ : S59)] : List (S59)) : List (S59))).bind fun y535 => (if y532.length + y535.length < 2513169434916 then ((some (y532 ++ y535 : List (S59))).bind fun y538 => ((some (l0.drop ((ji5) : Int).toNat : List (S59))).bind fun y541 => (if y538.length + y541.length < 2513169434916 then (some (y538 ++ y541)) else (none)))) else (none)))) else (none)) = some r := by first | (rw [hy528]; exact H) | exact H
 have Ny528 := As0 hy528
 clear hy528
 by_cases c8 : y525.length + y528.length < 2513169434916
 rotate_left
 ·rw [if_neg c8] at H
  exact absurd H (by simp)
 rw [if_pos c8] at H
 have LMc8 := As0 c8
 clear c8
 obtain ⟨y532, hy532⟩ : ∃ y_ : List (S59), y_ = (y525 ++ y528) := ⟨_, rfl⟩
 replace H : ((some (([(⟨a2_0, a2_1, a2_2, a2_3, a2_4, a2_5, a2_6⟩ : S59)] : List (S59)) : List (S59))).bind fun y535 => (if y532.length + y535.length < 2513169434916 then ((some (y532 ++ y535 : List (S59))).bind fun y538 => ((some (l0.drop ((ji5) : Int).toNat : List (S59))).bind fun y541 => (if y538.length + y541.length < 2513169434916 then (some (y538 ++ y541)) else (none)))) else (none))) = some r := by first | (rw [hy532]; exact H) | exact H
 have Ny532 := As0 hy532
 clear hy532
 obtain ⟨y535, hy535⟩ : ∃ y_ : List (S59), y_ = (([(⟨a2_0, a2_1, a2_2, a2_3, a2_4, a2_5, a2_6⟩ : S59)] : List (S59))) := ⟨_, rfl⟩
 replace H : (if y532.length + y535.length < 2513169434916 then ((some (y532 ++ y535 : List (S59))).bind fun y538 => ((some (l0.drop ((ji5) : Int).toNat : List (S59))).bind fun y541 => (if y538.length + y541.length < 2513169434916 then (some (y538 ++ y541)) else (none)))) else (none)) = some r := by first | (rw [hy535]; exact H) | exact H
 have Ny535 := As0 hy535
 clear hy535
 by_cases c9 : y532.length + y535.length < 2513169434916
 rotate_left
 ·rw [if_neg c9] at H
  exact absurd H (by simp)
 rw [if_pos c9] at H
 have LMc9 := As0 c9
 clear c9
 obtain ⟨y538, hy538⟩ : ∃ y_ : List (S59), y_ = (y532 ++ y535) := ⟨_, rfl⟩
 replace H : ((some (l0.drop ((ji5) : Int).toNat : List (S59))).bind fun y541 => (if y538.length + y541.length < 2513169434916 then (some (y538 ++ y541)) else (none))) = some r := by first | (rw [hy538]; exact H) | exact H
 have Ny538 := As0 hy538
 clear hy538
 have c10b0 := eq_true (qR : 0 ≤ (ji5))
 have c11b0 := eq_true (qR : (ji5) ≤ (l0.length : Int))
 obtain ⟨y541, hy541⟩ : ∃ y_ : List (S59), y_ = (l0.drop ((ji5) : Int).toNat) := ⟨_, rfl⟩
 replace H : (if y538.length + y541.length < 2513169434916 then (some (y538 ++ y541)) else (none)) = some r := by first | (rw [hy541]; exact H) | exact H
 have Ny541 := As0 hy541
 clear hy541
 by_cases c12 : y538.length + y541.length < 2513169434916
 rotate_left
 ·rw [if_neg c12] at H
  exact absurd H (by simp)
 rw [if_pos c12] at H
 have LMc12 := As0 c12
 clear c12
 obtain ⟨y545, hy545⟩ : ∃ y_ : List (S59), y_ = (y538 ++ y541) := ⟨_, rfl⟩
 replace H : (some y545) = some r := by first | (rw [hy545]; exact H) | exact H
 have Ny545 := As0 hy545
 clear hy545
 obtain rfl := Option.some.inj H
 go_enter Tryz.func15, Tryz.ntmps15
 try go_wp2_with (first | ((with_reducible refine gD 5 ?_); refine bY HB.out ?_; intro gb524 w13 hg hb K524 GW524 HB; clear hb hg))
 replace K524 := As0 (Qbr K524.out)
 replace HB := As0 (bd1 HB.out)
 have q15 : ((ji5) : Int) ≤ ((l0.length : Int) : Int) := qR
 obtain ⟨i015, hi015, _, hsz15, _⟩ := info_parts info59
 have hroom15 : l0.length ≤ c0 := C0.out
 have hC15 : Kd.C k59 _ A0 l0.length l0 := R0.out
 have hcut15 := cut_to (P := Tryz.prog) 54 59 .i64 Tryz.underlying54 hi015 A0 l0.length c0 (ji5) (qR) q15 hroom15
 have hr15 := Kd.C_take (m := ((ji5) : Int).toNat) hC15 (by omega)
 have hy15 : y528.length = ((ji5) : Int).toNat := (by rw [Ny528.out, List.length_take]; omega)
 rw [← Ny528.out] at hr15
 rw [← hy15] at hcut15
 have R531 := As0 hr15
 have C531 := As0 (show y528.length ≤ c0 from by omega)
 clear hr15 hC15 hroom15 hi015 hsz15
 have KY15 := As0 hy15
 clear hy15
 replace q15 := eq_true q15
 refine Qcb (n := 9) (S := fun w' => w'.cell? ⟨gb524, 0, none⟩ = some (.int .i64 a2_0) ∧ w'.cell? ⟨gb524, 1, none⟩ = some (.int .i64 a2_1) ∧ w'.cell? ⟨gb524, 2, none⟩ = some (.int .i64 a2_2) ∧ w'.cell? ⟨gb524, 3, none⟩ = some (.int .i64 a2_3) ∧ w'.cell? ⟨gb524, 4, none⟩ = some (.int .i64 a2_4) ∧ w'.cell? ⟨gb524, 5, none⟩ = some (.int .i64 a2_5) ∧ w'.cell? ⟨gb524, 6, none⟩ = some (.int .i64 a2_6)) (ds := []) (bb 9 0) (by kernel_rfl) rfl rfl ⟨bc K524 0, bc K524 1, bc K524 2, bc K524 3, bc K524 4, bc K524 5, bc K524 6⟩ (fun hHeld => ?_); refine Qca Qa2.tab2 Qa2.bits2 (fun HT_ HW_ => ?_)
 generalize w13.drew = w14 at K524 HB R531 hHeld ⊢
 refine pv HT_.out 1 15 (bb 9 2) ?_
 refine pv HT_.out 2 16 (bb 9 6) ?_
 refine pv HT_.out 3 17 (bb 9 14) ?_
 refine tv hHeld HT_.out HW_.out 5 19 (bb 9 46) ?_
 refine join_ (σ := Value × Value × Value) 2 (bb 9 127) (fun s_ => [(14, s_.1), (18, s_.2.1), (20, s_.2.2)]) (fun s_ w' => (w'.cell? ⟨gb524, 0, none⟩ = some (.int .i64 a2_0) ∧ w'.cell? ⟨gb524, 1, none⟩ = some (.int .i64 a2_1) ∧ w'.cell? ⟨gb524, 2, none⟩ = some (.int .i64 a2_2) ∧ w'.cell? ⟨gb524, 3, none⟩ = some (.int .i64 a2_3) ∧ w'.cell? ⟨gb524, 4, none⟩ = some (.int .i64 a2_4) ∧ w'.cell? ⟨gb524, 5, none⟩ = some (.int .i64 a2_5) ∧ w'.cell? ⟨gb524, 6, none⟩ = some (.int .i64 a2_6)) ∧ (Kd.R k59 59 w' w.heap.size (fun k_ => some k_ ≠ (s_.2.2 : Value).ownBlock ∧ k_ ≠ gb524) s_.2.1 y532) ∧ (Kd.R k59 59 w' w.heap.size (fun k_ => some k_ ≠ (s_.2.1 : Value).ownBlock ∧ k_ ≠ gb524) s_.2.2 y535) ∧ (w'.heap[gb524]? = some (.cells #[.int .i64 a2_0, .int .i64 a2_1, .int .i64 a2_2, .int .i64 a2_3, .int .i64 a2_4, .int .i64 a2_5, .int .i64 a2_6] 59 (0, 0))) ∧ (Below w.heap.size w w')) ?_ ?_
 rotate_left
 ·intro hCont
  refine two_ (i := 0) (j := 6) (Ni := some 14) (Nj := some 20) (bb 9 47) (bb 9 110) rfl rfl rfl rfl (two_of HT_.out (by kernel_rfl)) (by decide) (by decide) (fun K hK => ?_) (fun K hK => ?_)
  ·skip
   refine Kd.R_lit_step k59 _ 59 ?hg (N := 14) ?hd (xs := ([] : List (S59))) (inner := []) (ok := fun _ => True) (okp := fun _ => True) ?hr ?hp (fun _ hk => hk) trivial (Below.refl _ _) (Nat.le_refl _) (by simp) ?_; (case hd => rfl); (case hg => rfl); (case hr => first | (go_simp; done) | (go_simp; rfl)); (case hp => exact (Reps.none _ _))
   intro v526 w16 ho17 hb hg_ hnew_
   clear hg_ hnew_
   (first | rw [← Ny525.out] at ho17 | (simp only [Int.reduceToNat] at ho17; rw [← Ny525.out] at ho17))
   have O527 := As0 (Kd.R_lower (Kd.R_newB ho17 (bU K524.out)) (Qbm (BU HB.out)))
   replace K524 := kB K524 hb
   replace HB := sB HB hb
   clear hb ho17
   refine hK.out _ _ ⟨bc K524 0, bc K524 1, bc K524 2, bc K524 3, bc K524 4, bc K524 5, bc K524 6⟩ (fun hHeld => ?_)
   clear hK K
   refine Qb1 (a' := ?_) ?_ ?_
   rotate_left
   ·show Act.put _ (some 14) _ = _
    simp only [Act.put, sL1, sL2, sL3, Qbu, Qbv]
    rfl
   refine two_ (i := 4) (j := 6) (Ni := some 18) (Nj := some 20) (bb 9 63) (bb 9 111) rfl rfl rfl rfl (two_of HT_.out (by kernel_rfl)) (by decide) (by decide) (fun K hK => ?_) (fun K hK => ?_)
   ·skip
    refine Kd.R_append_rows_step k59 (w0 := w) w.heap.size (by rfl) (.tmp 14) (.tmp 17) 54 59 (.agg #[(.int .i64 0), (.int .i64 0), (.int .i64 0), (.int .i64 0), (.int .i64 0), (.int .i64 0), (.int .i64 0)]) 56 rfl Tryz.underlying54 info59 rfl (by decide) (by omega) v526 y525 y528 _ _ _ (fun k_ => k_ ≠ gb524) (fun _ => False) rfl rfl ?aO ?aR (fun _ _ h => h) (fun _ h => h.elim) ?aF ?aB ?aS ?aL ?_
    (case aR => exact CU (Kd.C_below R531.out HB.out))
    (case aB => exact (BU HB.out))
    (case aF => exact (fun k_ hk => Kd.freshB (bU K524.out) k_ hk))
    (case aO => exact (RU (Kd.R_mono O527.out (fun _ hk => hk.2))))
    (case aS => exact (Qbm (BU HB.out)))
    (case aL => have := LMc8.out; omega)
    intro v533 w18 ho hb hg hat
    rw [← Ny532.out] at ho
    replace K524 := As0 (Qbx (bU K524.out) hg (Kd.R_away O527.out (fun _ hk => hk.2)))
    replace HB := As0 (hb)
    have O534 := As0 (ho)
    clear O527 ho hb hg hat
    refine hK.out _ _ ⟨bc K524 0, bc K524 1, bc K524 2, bc K524 3, bc K524 4, bc K524 5, bc K524 6⟩ (fun hHeld => ?_)
    clear hK K
    refine Qb1 (a' := ?_) ?_ ?_
    rotate_left
    ·show Act.put _ (some 18) _ = _
     simp only [Act.put, sL1, sL2, sL3, Qbu, Qbv]
     rfl
    refine one_ (i := 6) (N := some 20) (bb 9 127) rfl rfl (Qcd HT_.out (by kernel_rfl)) (by decide) (fun K hK => ?_)
    refine Kd.R_lit_step k59 _ 59 ?hg (N := 20) ?hd (xs := ([(⟨a2_0, a2_1, a2_2, a2_3, a2_4, a2_5, a2_6⟩ : S59)] : List (S59))) (inner := [.int .i64 a2_0, .int .i64 a2_1, .int .i64 a2_2, .int .i64 a2_3, .int .i64 a2_4, .int .i64 a2_5, .int .i64 a2_6]) (ok := fun _ => True) (okp := fun _ => True) ?hr ?hp (fun _ hk => hk) trivial (Below.refl _ _) (Nat.le_refl _) (by simp) ?_; (case hd => rfl); (case hg => rfl); (case hr => first | (go_simp; done) | (go_simp; rfl)); (case hp => exact (Reps.c7 (k59_mkM _ _ _ (⟨a2_0, a2_1, a2_2, a2_3, a2_4, a2_5, a2_6⟩ : S59)) (Reps.none _ _)))
    intro v536 w19 ho20 hb hg_ hnew_
    clear hg_ hnew_
    (first | rw [← Ny535.out] at ho20 | (simp only [Int.reduceToNat] at ho20; rw [← Ny535.out] at ho20))
    have O537 := As0 (Kd.R_lower (Kd.R_newB (Kd.R_new' ho20 (Kd.R_lt (RU O534.out))) (bU K524.out)) (Qbm (BU HB.out)))
    replace O534 := As0 (Kd.R_elder' (RU O534.out) (Kd.R_base ho20) hb)
    replace K524 := kB K524 hb
    replace HB := sB HB hb
    clear hb ho20
    refine hK.out _ _ ⟨bc K524 0, bc K524 1, bc K524 2, bc K524 3, bc K524 4, bc K524 5, bc K524 6⟩ (fun hHeld => ?_)
    clear hK K
    refine Qb1 (a' := ?_) ?_ ?_
    rotate_left
    ·show Act.put _ (some 20) _ = _
     simp only [Act.put, sL1, sL2, sL3, Qbu, Qbv]
     rfl
    exact Qb1 (by simp only [Qc4, Act.put, sL1, sL2, sL3]) (hCont (v526, v533, v536) _ ⟨hHeld, (RU (Kd.R_mono O534.out (fun _ hk => ⟨hk.2, hk.1⟩))), (RU (Kd.R_mono O537.out (fun _ hk => ⟨hk.1.2, hk.2⟩))), (bU K524.out), (BU HB.out)⟩)
   ·skip
    refine Kd.R_lit_step k59 _ 59 ?hg (N := 20) ?hd (xs := ([(⟨a2_0, a2_1, a2_2, a2_3, a2_4, a2_5, a2_6⟩ : S59)] : List (S59))) (inner := [.int .i64 a2_0, .int .i64 a2_1, .int .i64 a2_2, .int .i64 a2_3, .int .i64 a2_4, .int .i64 a2_5, .int .i64 a2_6]) (ok := fun _ => True) (okp := fun _ => True) ?hr ?hp (fun _ hk => hk) trivial (Below.refl _ _) (Nat.le_refl _) (by simp) ?_; (case hd => rfl); (case hg => rfl); (case hr => first | (go_simp; done) | (go_simp; rfl)); (case hp => exact (Reps.c7 (k59_mkM _ _ _ (⟨a2_0, a2_1, a2_2, a2_3, a2_4, a2_5, a2_6⟩ : S59)) (Reps.none _ _)))
    intro v536 w18 ho19 hb hg_ hnew_
    clear hg_ hnew_
    (first | rw [← Ny535.out] at ho19 | (simp only [Int.reduceToNat] at ho19; rw [← Ny535.out] at ho19))
    have O537 := As0 (Kd.R_lower (Kd.R_newB (Kd.R_new' ho19 (Kd.R_lt (RU O527.out))) (bU K524.out)) (Qbm (BU HB.out)))
    replace O527 := As0 (Kd.R_elder' (RU O527.out) (Kd.R_base ho19) hb)
    replace K524 := kB K524 hb
    replace HB := sB HB hb
    clear hb ho19
    refine hK.out _ _ ⟨bc K524 0, bc K524 1, bc K524 2, bc K524 3, bc K524 4, bc K524 5, bc K524 6⟩ (fun hHeld => ?_)
    clear hK K
    refine Qb1 (a' := ?_) ?_ ?_
    rotate_left
    ·show Act.put _ (some 20) _ = _
     simp only [Act.put, sL1, sL2, sL3, Qbu, Qbv]
     rfl
    refine one_ (i := 4) (N := some 18) (bb 9 127) rfl rfl (Qcd HT_.out (by kernel_rfl)) (by decide) (fun K hK => ?_)
    refine Kd.R_append_rows_step k59 (w0 := w) w.heap.size (by rfl) (.tmp 14) (.tmp 17) 54 59 (.agg #[(.int .i64 0), (.int .i64 0), (.int .i64 0), (.int .i64 0), (.int .i64 0), (.int .i64 0), (.int .i64 0)]) 56 rfl Tryz.underlying54 info59 rfl (by decide) (by omega) v526 y525 y528 _ _ _ (fun k_ => some k_ ≠ (v536 : Value).ownBlock ∧ k_ ≠ gb524) (fun _ => False) rfl rfl ?aO ?aR (fun _ _ h => h) (fun _ h => h.elim) ?aF ?aB ?aS ?aL ?_
    (case aR => exact CU (Kd.C_below R531.out HB.out))
    (case aB => exact (BU HB.out))
    (case aF => exact (fun k_ hk => ⟨Kd.fresh' (Kd.R_lt (RU O537.out)) k_ hk, Kd.freshB (bU K524.out) k_ hk⟩))
    (case aO => exact (RU (Kd.R_mono O527.out (fun _ hk => ⟨hk.2, hk.1.2⟩))))
    (case aS => exact (Qbm (BU HB.out)))
    (case aL => have := LMc8.out; omega)
    intro v533 w20 ho hb hg hat
    rw [← Ny532.out] at ho
    replace K524 := As0 (Qbx (bU K524.out) hg (Kd.R_away O527.out (fun _ hk => hk.1.2)))
    replace O537 := As0 (Kd.R_after (ok := (fun k_ => k_ ≠ gb524)) (RU (Kd.R_mono O537.out (fun _ hk => ⟨hk.2, hk.1.2⟩))) hg hat)
    replace HB := As0 (hb)
    have O534 := As0 (ho)
    clear O527 ho hb hg hat
    refine hK.out _ _ ⟨bc K524 0, bc K524 1, bc K524 2, bc K524 3, bc K524 4, bc K524 5, bc K524 6⟩ (fun hHeld => ?_)
    clear hK K
    refine Qb1 (a' := ?_) ?_ ?_
    rotate_left
    ·show Act.put _ (some 18) _ = _
     simp only [Act.put, sL1, sL2, sL3, Qbu, Qbv]
     rfl
    exact Qb1 (by simp only [Qc4, Act.put, sL1, sL2, sL3]) (hCont (v526, v533, v536) _ ⟨hHeld, (RU O534.out), (RU (Kd.R_mono O537.out (fun _ hk => ⟨hk.2, hk.1⟩))), (bU K524.out), (BU HB.out)⟩)
  ·skip
   refine Kd.R_lit_step k59 _ 59 ?hg (N := 20) ?hd (xs := ([(⟨a2_0, a2_1, a2_2, a2_3, a2_4, a2_5, a2_6⟩ : S59)] : List (S59))) (inner := [.int .i64 a2_0, .int .i64 a2_1, .int .i64 a2_2, .int .i64 a2_3, .int .i64 a2_4, .int .i64 a2_5, .int .i64 a2_6]) (ok := fun _ => True) (okp := fun _ => True) ?hr ?hp (fun _ hk => hk) trivial (Below.refl _ _) (Nat.le_refl _) (by simp) ?_; (case hd => rfl); (case hg => rfl); (case hr => first | (go_simp; done) | (go_simp; rfl)); (case hp => exact (Reps.c7 (k59_mkM _ _ _ (⟨a2_0, a2_1, a2_2, a2_3, a2_4, a2_5, a2_6⟩ : S59)) (Reps.none _ _)))
   intro v536 w16 ho17 hb hg_ hnew_
   clear hg_ hnew_
   (first | rw [← Ny535.out] at ho17 | (simp only [Int.reduceToNat] at ho17; rw [← Ny535.out] at ho17))
   have O537 := As0 (Kd.R_lower (Kd.R_newB ho17 (bU K524.out)) (Qbm (BU HB.out)))
   replace K524 := kB K524 hb
   replace HB := sB HB hb
   clear hb ho17
   refine hK.out _ _ ⟨bc K524 0, bc K524 1, bc K524 2, bc K524 3, bc K524 4, bc K524 5, bc K524 6⟩ (fun hHeld => ?_)
   clear hK K
   refine Qb1 (a' := ?_) ?_ ?_
   rotate_left
   ·show Act.put _ (some 20) _ = _
    simp only [Act.put, sL1, sL2, sL3, Qbu, Qbv]
    rfl
   refine one_ (i := 0) (N := some 14) (bb 9 111) rfl rfl (Qcd HT_.out (by kernel_rfl)) (by decide) (fun K hK => ?_)
   refine Kd.R_lit_step k59 _ 59 ?hg (N := 14) ?hd (xs := ([] : List (S59))) (inner := []) (ok := fun _ => True) (okp := fun _ => True) ?hr ?hp (fun _ hk => hk) trivial (Below.refl _ _) (Nat.le_refl _) (by simp) ?_; (case hd => rfl); (case hg => rfl); (case hr => first | (go_simp; done) | (go_simp; rfl)); (case hp => exact (Reps.none _ _))
   intro v526 w18 ho19 hb hg_ hnew_
   clear hg_ hnew_
   (first | rw [← Ny525.out] at ho19 | (simp only [Int.reduceToNat] at ho19; rw [← Ny525.out] at ho19))
   have O527 := As0 (Kd.R_lower (Kd.R_newB (Kd.R_new' ho19 (Kd.R_lt (RU O537.out))) (bU K524.out)) (Qbm (BU HB.out)))
   replace O537 := As0 (Kd.R_elder' (RU O537.out) (Kd.R_base ho19) hb)
   replace K524 := kB K524 hb
   replace HB := sB HB hb
   clear hb ho19
   refine hK.out _ _ ⟨bc K524 0, bc K524 1, bc K524 2, bc K524 3, bc K524 4, bc K524 5, bc K524 6⟩ (fun hHeld => ?_)
   clear hK K
   refine Qb1 (a' := ?_) ?_ ?_
   rotate_left
   ·show Act.put _ (some 14) _ = _
    simp only [Act.put, sL1, sL2, sL3, Qbu, Qbv]
    rfl
   refine one_ (i := 4) (N := some 18) (bb 9 127) rfl rfl (Qcd HT_.out (by kernel_rfl)) (by decide) (fun K hK => ?_)
   refine Kd.R_append_rows_step k59 (w0 := w) w.heap.size (by rfl) (.tmp 14) (.tmp 17) 54 59 (.agg #[(.int .i64 0), (.int .i64 0), (.int .i64 0), (.int .i64 0), (.int .i64 0), (.int .i64 0), (.int .i64 0)]) 56 rfl Tryz.underlying54 info59 rfl (by decide) (by omega) v526 y525 y528 _ _ _ (fun k_ => some k_ ≠ (v536 : Value).ownBlock ∧ k_ ≠ gb524) (fun _ => False) rfl rfl ?aO ?aR (fun _ _ h => h) (fun _ h => h.elim) ?aF ?aB ?aS ?aL ?_
   (case aR => exact CU (Kd.C_below R531.out HB.out))
   (case aB => exact (BU HB.out))
   (case aF => exact (fun k_ hk => ⟨Kd.fresh' (Kd.R_lt (RU O537.out)) k_ hk, Kd.freshB (bU K524.out) k_ hk⟩))
   (case aO => exact (RU (Kd.R_mono O527.out (fun _ hk => ⟨hk.1.2, hk.2⟩))))
   (case aS => exact (Qbm (BU HB.out)))
   (case aL => have := LMc8.out; omega)
   intro v533 w20 ho hb hg hat
   rw [← Ny532.out] at ho
   replace K524 := As0 (Qbx (bU K524.out) hg (Kd.R_away O527.out (fun _ hk => hk.2)))
   replace O537 := As0 (Kd.R_after (ok := (fun k_ => k_ ≠ gb524)) (RU (Kd.R_mono O537.out (fun _ hk => ⟨hk.1.2, hk.2⟩))) hg hat)
   replace HB := As0 (hb)
   have O534 := As0 (ho)
   clear O527 ho hb hg hat
   refine hK.out _ _ ⟨bc K524 0, bc K524 1, bc K524 2, bc K524 3, bc K524 4, bc K524 5, bc K524 6⟩ (fun hHeld => ?_)
   clear hK K
   refine Qb1 (a' := ?_) ?_ ?_
   rotate_left
   ·show Act.put _ (some 18) _ = _
    simp only [Act.put, sL1, sL2, sL3, Qbu, Qbv]
    rfl
   exact Qb1 (by simp only [Qc4, Act.put, sL1, sL2, sL3]) (hCont (v526, v533, v536) _ ⟨hHeld, (RU O534.out), (RU (Kd.R_mono O537.out (fun _ hk => ⟨hk.2, hk.1⟩))), (bU K524.out), (BU HB.out)⟩)
 rintro ⟨v526, v533, v536⟩ w21 ⟨hS_, h0_, h1_, h2_, h3_⟩
 have O534 : Qbk (Kd.R k59 59 w21 w.heap.size (fun k_ => some k_ ≠ (v536 : Value).ownBlock ∧ k_ ≠ gb524) v533 y532) := ⟨h0_⟩
 have O537 : Qbk (Kd.R k59 59 w21 w.heap.size (fun k_ => some k_ ≠ (v533 : Value).ownBlock ∧ k_ ≠ gb524) v536 y535) := ⟨h1_⟩
 replace K524 : Qbk (w21.heap[gb524]? = some (.cells #[.int .i64 a2_0, .int .i64 a2_1, .int .i64 a2_2, .int .i64 a2_3, .int .i64 a2_4, .int .i64 a2_5, .int .i64 a2_6] 59 (0, 0))) := ⟨h2_⟩
 replace HB : Qbk (Below w.heap.size w w21) := ⟨h3_⟩
 clear h0_ h1_ h2_ h3_
 have hHeld : w21.cell? ⟨gb524, 0, none⟩ = some (.int .i64 a2_0) ∧ w21.cell? ⟨gb524, 1, none⟩ = some (.int .i64 a2_1) ∧ w21.cell? ⟨gb524, 2, none⟩ = some (.int .i64 a2_2) ∧ w21.cell? ⟨gb524, 3, none⟩ = some (.int .i64 a2_3) ∧ w21.cell? ⟨gb524, 4, none⟩ = some (.int .i64 a2_4) ∧ w21.cell? ⟨gb524, 5, none⟩ = some (.int .i64 a2_5) ∧ w21.cell? ⟨gb524, 6, none⟩ = some (.int .i64 a2_6) := hS_
 obtain ⟨Ao23, co23, eo23⟩ := Kd.R_slice O537.out
 (first | subst eo23 | (injection eo23 with f1_ f2_ f3_; have f4_ := f1_.symm; have f5_ := f3_.symm; clear f1_ f2_ f3_; subst f4_; subst f5_))
 refine Qb1 (a' := ?_) ?_ ?_
 rotate_left
 ·simp only [Qc4, Act.put, sL1, sL2, sL3]
  rfl
 refine one_ (i := 7) (N := some 21) (bb 9 255) rfl rfl (Qcd HT_.out (by kernel_rfl)) (by decide) (fun K hK => ?_)
 refine Kd.R_append_rows_step k59 (w0 := w) w.heap.size (by rfl) (.tmp 18) (.tmp 20) 54 59 (.agg #[(.int .i64 0), (.int .i64 0), (.int .i64 0), (.int .i64 0), (.int .i64 0), (.int .i64 0), (.int .i64 0)]) 56 rfl Tryz.underlying54 info59 rfl (by decide) (by omega) v533 y532 y535 _ _ _ (fun k_ => some k_ ≠ (.slice Ao23 y535.length co23 : Value).ownBlock ∧ k_ ≠ gb524) (fun _ => False) rfl rfl ?aO ?aR (fun _ _ h => h) (fun _ h => h.elim) ?aF ?aB ?aS ?aL ?_
 (case aR => exact CU (Kd.R_reads' O537.out).2.2)
 (case aB => exact (BU HB.out))
 (case aF => exact (fun k_ hk => ⟨Kd.fresh' (Kd.R_lt (RU O537.out)) k_ hk, Kd.freshB (bU K524.out) k_ hk⟩))
 (case aO => exact (RU O534.out))
 (case aS => exact (Qbm (BU HB.out)))
 (case aL => have := LMc9.out; omega)
 intro v539 w22 ho hb hg hat
 rw [← Ny538.out] at ho
 replace K524 := As0 (Qbx (bU K524.out) hg (Kd.R_away O534.out (fun _ hk => hk.2)))
 replace O537 := As0 (Kd.R_after (ok := (fun k_ => k_ ≠ gb524)) (RU (Kd.R_mono O537.out (fun _ hk => ⟨hk.2, hk.1⟩))) hg hat)
 replace HB := As0 (hb)
 have O540 := As0 (ho)
 clear O534 ho hb hg hat
 refine hK.out _ _ ⟨bc K524 0, bc K524 1, bc K524 2, bc K524 3, bc K524 4, bc K524 5, bc K524 6⟩ (fun hHeld => ?_)
 clear hK K
 refine Qb1 (a' := ?_) ?_ ?_
 rotate_left
 ·show Act.put _ (some 21) _ = _
  simp only [Act.put, sL1, sL2, sL3, Qbu, Qbv]
  rfl
 refine pv HT_.out 8 8 (bb 9 511) ?_
 refine Qcy (Qco HT_.out (by kernel_rfl)) ?_
 have q24 : ((ji5) : Int) ≤ ((l0.length : Int) : Int) := qR
 obtain ⟨i024, hi024, _, hsz24, _⟩ := info_parts info59
 have hroom24 : l0.length ≤ c0 := C0.out
 have hC24 : Kd.C k59 _ A0 l0.length l0 := R0.out
 have q024 : (0 : Int) ≤ ((ji5) : Int) := qR
 have hcut24 := cut_from (P := Tryz.prog) 54 59 .i64 Tryz.underlying54 hi024 7 hsz24 A0 l0.length c0 (ji5) q024 q24
 have hr24 := Kd.C_drop (m := ((ji5) : Int).toNat) (c := c0) hC24 (by omega) hroom24
 obtain ⟨A24, hA24⟩ : ∃ Aq_, Aq_ = (if c0 = ((ji5) : Int).toNat then A0 else (A0 : Option Addr).map (·.add (((ji5) : Int).toNat * 7))) := ⟨_, rfl⟩
 obtain ⟨c24, hc24⟩ : ∃ cq_, cq_ = c0 - ((ji5) : Int).toNat := ⟨_, rfl⟩
 have hy24 : y541.length = l0.length - ((ji5) : Int).toNat := (by rw [Ny541.out, List.length_drop] <;> omega)
 rw [show (l0).drop ((ji5) : Int).toNat = y541 from Ny541.out.symm] at hr24
 replace hr24 : Kd.C k59 _ A24 y541.length y541 := (by rw [hA24]; exact hr24)
 rw [← hy24, ← hA24, ← hc24] at hcut24
 have R544 := As0 hr24
 have C544 := As0 (show y541.length ≤ c24 from by rw [hy24, hc24]; exact Nat.sub_le_sub_right hroom24 _)
 clear hr24 hC24 hroom24 hi024 hsz24 hc24
 have KY24 := As0 hy24
 have KA24 := As0 hA24
 clear hy24 hA24
 replace q24 := eq_true q24
 try go_wp2_with (first | ((with_reducible refine Qce (b := .append) (xs := #[.tmp 22, .tmp 25]) rfl ?_); at_builtin; refine Kd.R_append_rows k59 (w0 := w) w.heap.size rfl (.tmp 22) (.tmp 25) 54 59 (.agg #[(.int .i64 0), (.int .i64 0), (.int .i64 0), (.int .i64 0), (.int .i64 0), (.int .i64 0), (.int .i64 0)]) 56 rfl Tryz.underlying54 info59 rfl (by decide) (by omega) v539 y538 y541 _ _ _ (fun k_ => some k_ ≠ (.slice Ao23 y535.length co23 : Value).ownBlock ∧ k_ ≠ gb524) (fun _ => False) rfl rfl ?aO ?aR (fun _ _ h => h) (fun _ h => h.elim) ?aF ?aB ?aS ?aL ?_; (case aR => exact CU (Kd.C_below R544.out HB.out)); (case aB => exact (BU HB.out)); (case aF => exact (fun k_ hk => ⟨Kd.fresh' (Kd.R_lt (RU O537.out)) k_ hk, Kd.freshB (bU K524.out) k_ hk⟩)); (case aO => exact (RU O540.out)); (case aS => exact (Qbm (BU HB.out))); (case aL => have := LMc12.out; omega); intro v546 w25 ho hb hg hat; rw [← Ny545.out] at ho; replace K524 := As0 (Qbx (bU K524.out) hg (Kd.R_away O540.out (fun _ hk => hk.2))); replace O537 := As0 (Kd.R_after (ok := (fun k_ => k_ ≠ gb524)) (RU O537.out) hg hat); replace HB := As0 (hb); have O547 := As0 (ho); clear O540 ho hb hg hat))
 go_ret
 exact ⟨_, by first | rfl | (simp [Qbe, Qbd] <;> rfl) | (simp only [← hji5]; first | rfl | (simp [Qbe, Qbd] <;> rfl)) | (simp [*, Qbe, Qbd] <;> rfl), RU (Kd.R_mono O547.out (fun _ hk => trivial)), BU HB.out⟩
def Qac.j0 : Nat → Int → Int → Int → Bool → Int → Int → List (S39) → Int → Int → Int → List (S57) → List (List (S47)) → Option (Bool)
 | 0, _, _, _, _, _, _, _, _, _, _, _, _ => none
 | k + 1, x1, x2, x3, x36, x550000, x550001, x550002, x550003, x550004, x550005, x550006, x550007 => if x36 = true then ((Qbi.f k).bind fun t559 => (some t559)) else ((Qai.f k x550000 x550001 x550002 x550003 x550004 x550005 x550006 x550007).bind fun bt560 => (if (bt560.2.2.2.2.2.2.1.length : Int) = 0 then (none) else (if 0 ≤ (Int.tmod (wrap64 (x1)) (bt560.2.2.2.2.2.2.1.length : Int)) then (if (Int.tmod (wrap64 (x1)) (bt560.2.2.2.2.2.2.1.length : Int)) < (bt560.2.2.2.2.2.2.1.length : Int) then (if x550004 = 0 then (none) else ((Qa2.f ((Qad bt560.2.2.2.2.2.2.1 (Int.tmod (wrap64 (x1)) (bt560.2.2.2.2.2.2.1.length : Int))).f0) (wrap64 (x2)) 18 0 0 0 0 (wrap64 ((wrap64 (2 * x550005)) + 1)) (wrap64 (2 * (Int.tmod (wrap64 (x3)) x550004)))).bind fun t576 => ((some (bt560.2.2.2.2.2.2.1.set ((Int.tmod (wrap64 (x1)) (bt560.2.2.2.2.2.2.1.length : Int)) : Int).toNat (⟨t576, (⟨(Qad bt560.2.2.2.2.2.2.1 (Int.tmod (wrap64 (x1)) (bt560.2.2.2.2.2.2.1.length : Int))).f1.f0, (Qad bt560.2.2.2.2.2.2.1 (Int.tmod (wrap64 (x1)) (bt560.2.2.2.2.2.2.1.length : Int))).f1.f1, (Qad bt560.2.2.2.2.2.2.1 (Int.tmod (wrap64 (x1)) (bt560.2.2.2.2.2.2.1.length : Int))).f1.f2, (Qad bt560.2.2.2.2.2.2.1 (Int.tmod (wrap64 (x1)) (bt560.2.2.2.2.2.2.1.length : Int))).f1.f3⟩ : S37)⟩ : S57) : List (S57))).bind fun y579 => ((checker_Check.f k bt560.1 bt560.2.1 bt560.2.2.1 bt560.2.2.2.1 bt560.2.2.2.2.1 (wrap64 (bt560.2.2.2.2.2.1 + 1)) y579 bt560.2.2.2.2.2.2.2).bind fun bt580 => ((Qaf.f k ((Qad y579 (Int.tmod (wrap64 (x1)) (bt560.2.2.2.2.2.2.1.length : Int))).f0)).bind fun t589 => (if t589 > 64 then (some (bt580.1 == 15)) else (some (bt580.1 == 0)))))))) else (none)) else (none))))
def Qac.f (k : Nat) (a0_0 a0_1 : Int) (l0_2 : List (S39)) (a0_3 a0_4 a0_5 : Int) (l0_6 : List (S57)) (l0_7 : List (List (S47))) (a1 a2 a3 : Int) : Option (Bool) := (Qbi.f k).bind fun t550 => (if t550 = true then ((regcertref16_Few.f k a0_0 a0_1 l0_2 a0_3 a0_4 a0_5 l0_6 l0_7).bind fun t551 => (if t551 = true then (if a0_4 ≤ 0 then (Qac.j0 k a1 a2 a3 true a0_0 a0_1 l0_2 a0_3 a0_4 a0_5 l0_6 l0_7) else (if a0_5 ≥ 50 then (Qac.j0 k a1 a2 a3 true a0_0 a0_1 l0_2 a0_3 a0_4 a0_5 l0_6 l0_7) else ((checker_Check.f k a0_0 a0_1 l0_2 a0_3 a0_4 a0_5 l0_6 l0_7).bind fun bt552 => (Qac.j0 k a1 a2 a3 (bt552.1 != 0) a0_0 a0_1 l0_2 a0_3 a0_4 a0_5 l0_6 l0_7)))) else (Qac.j0 k a1 a2 a3 true a0_0 a0_1 l0_2 a0_3 a0_4 a0_5 l0_6 l0_7))) else (Qac.j0 k a1 a2 a3 true a0_0 a0_1 l0_2 a0_3 a0_4 a0_5 l0_6 l0_7))
end Go.Proofs.YtchpkjgibloleaaGreat.Z
namespace Go.Proofs.YtchpkjgibloleaaGreat.Z
set_option maxRecDepth 100000
set_option maxHeartbeats 8000000
open Go.RowKit Go.Proofs.YtchpkjgibloleaaGreatW.PrintWords Go.Proofs.YtchpkjgibloleaaGreatW.PrintLast Go.Proofs.YtchpkjgibloleaaGreatW.PrintMore
attribute [local go_sem] Qb3 Qb8
attribute [local go_sem high] eqA47
theorem fld51_0 (v0 v1 v2 v3 v4 v5 v6 : Value) (w : World) : (Instr.field 51 (.agg #[v0, v1, v2, v3, v4, v5, v6]) 0).run Tryz.prog w = .ok v0 w := by kernel_rfl
attribute [local go_sem ↓ high] fld51_0
def Qac.T6 : Bool × List (List Nat × List Nat) := (true, [([], []), ([0], [0]), ([1], [1]), ([], []), ([], []), ([4], [4]), ([5], [5]), ([], []), ([6, 7], [6, 7]), ([8], [8]), ([9], [9]), ([], []), ([11], [11]), ([], []), ([13], [13]), ([14], [14]), ([15], [15]), ([16], [16]), ([], []), ([18], [18]), ([], []), ([20], [20]), ([21], [21]), ([19, 22], [19, 22]), ([23], [23]), ([17, 24], [17, 24]), ([10, 12, 25], [10, 12, 25]), ([2, 3, 0, 1, 2, 3, 4, 5, 6, 7, 8, 9, 10, 11, 12, 13, 14, 15, 16, 17, 18, 19, 20, 21, 22, 23, 24, 25, 26], [2, 3]), ([27, 0, 1, 2, 3, 4, 5, 6, 7, 8, 9, 10, 11, 12, 13, 14, 15, 16, 17, 18, 19, 20, 21, 22, 23, 24, 25, 26], [27]), ([28, 26, 26, 0, 1, 2, 3, 4, 5, 6, 7, 8, 9, 10, 11, 12, 13, 14, 15, 16, 17, 18, 19, 20, 21, 22, 23, 24, 25, 26], [26, 28])])
def Qac.B6 : List Nat := [0, 1, 3, 0, 0, 16, 48, 0, 240, 496, 1008, 0, 2048, 0, 8192, 24576, 57344, 122880, 0, 262144, 0, 1048576, 3145728, 8126464, 16515072, 33546240, 67108848, 134217727, 268435455, 536870911]
theorem Qac.tab6 : rtab .any (opsOf Tryz.f5 6) = Qac.T6 := by kernel_rfl
theorem Qac.bits6 : Qcr Qac.T6.2 Qac.B6 = true := by kernel_rfl
theorem Qac.calls (k : Nat) (a0_0 a0_1 : Int) (A0_2 : Option Addr) (c0_2 : Nat) (l0_2 : List (S39)) (a0_3 a0_4 a0_5 : Int) (A0_6 : Option Addr) (c0_6 : Nat) (l0_6 : List (S57)) (A0_7 : Option Addr) (c0_7 : Nat) (l0_7 : List (List (S47))) (a1 a2 a3 : Int) (r : Bool) (w : World) (hr0_2 : Kd.C k39 w A0_2 l0_2.length l0_2) (hc0_2 : l0_2.length ≤ c0_2) (hr0_6 : Kd.C k57 w A0_6 l0_6.length l0_6) (hc0_6 : l0_6.length ≤ c0_6) (hr0_7 : Kd.C (Kd.slice 47 k47) w A0_7 l0_7.length l0_7) (hc0_7 : l0_7.length ≤ c0_7) (h : Qac.f k a0_0 a0_1 l0_2 a0_3 a0_4 a0_5 l0_6 l0_7 a1 a2 a3 = some r) :
 Calls Tryz.prog 5 #[.agg #[.int .i64 a0_0, .int .i64 a0_1, .slice A0_2 l0_2.length c0_2, .int .i64 a0_3, .int .i64 a0_4, .int .i64 a0_5, .slice A0_6 l0_6.length c0_6, .slice A0_7 l0_7.length c0_7], .int .u8 a1, .int .u8 a2, .int .u8 a3] w fun e w' => e = .returned (.bool r) ∧ Below w.heap.size w w' := by
 have hu30 := Tryz.underlying30
 have hu59 := Tryz.underlying59
 have hu49 := Tryz.underlying49
 have hu51 := Tryz.underlying51
 have R0_2 := As0 hr0_2
 have C0_2 := As0 hc0_2
 clear hr0_2 hc0_2
 have R0_6 := As0 hr0_6
 have C0_6 := As0 hc0_6
 clear hr0_6 hc0_6
 have R0_7 := As0 hr0_7
 have C0_7 := As0 hc0_7
 clear hr0_7 hc0_7
 have HB := As0 (Below.refl w.heap.size w)
 have H : ((Qbi.f k).bind fun t550 => (if t550 = true then ((regcertref16_Few.f k a0_0 a0_1 l0_2 a0_3 a0_4 a0_5 l0_6 l0_7).bind fun t551 => (if t551 = true then (if a0_4 ≤ 0 then (Qac.j0 k a1 a2 a3 true a0_0 a0_1 l0_2 a0_3 a0_4 a0_5 l0_6 l0_7) else (if a0_5 ≥ 50 then (Qac.j0 k a1 a2 a3 true a0_0 a0_1 l0_2 a0_3 a0_4 a0_5 l0_6 l0_7) else ((checker_Check.f k a0_0 a0_1 l0_2 a0_3 a0_4 a0_5 l0_6 l0_7).bind fun bt552 => (Qac.j0 k a1 a2 a3 (bt552.1 != 0) a0_0 a0_1 l0_2 a0_3 a0_4 a0_5 l0_6 l0_7)))) else (Qac.j0 k a1 a2 a3 true a0_0 a0_1 l0_2 a0_3 a0_4 a0_5 l0_6 l0_7))) else (Qac.j0 k a1 a2 a3 true a0_0 a0_1 l0_2 a0_3 a0_4 a0_5 l0_6 l0_7))) = some r := h
 clear h
 have C5 := As0 H
 clear H
 go_enter Tryz.func5, Tryz.ntmps5
 go_upto_region 1 with (first | ((with_reducible refine gD 4 ?_); refine bY HB.out ?_; intro gb549 w6 hg hb K549 GW549 HB; clear hb hg))
 (try simp only [Act.put, sL1, sL2, sL3])
 go_cut [36] (fun v36 wc => ∃ (kq : Nat) (x36_4 : Bool), v36 = .bool x36_4 ∧ Qbk (Qac.j0 kq a1 a2 a3 x36_4 a0_0 a0_1 l0_2 a0_3 a0_4 a0_5 l0_6 l0_7 = some r) ∧ Qbk (kq ≤ k) ∧ Qbk (wc.heap[gb549]? = some (.cells #[.int .i64 a0_0, .int .i64 a0_1, (.slice A0_2 l0_2.length c0_2), .int .i64 a0_3, .int .i64 a0_4, .int .i64 a0_5, (.slice A0_6 l0_6.length c0_6), (.slice A0_7 l0_7.length c0_7)] 30 (0, 0))) ∧ Qbk (Below w.heap.size w wc))
 case first =>
  have H := C5.out
  clear C5
  replace H := Option.bind_eq_some_iff.mp H
  obtain ⟨t550, A70, H⟩ := H
  have A7 := As0 A70
  clear A70
  by_cases c8 : t550 = true
  rotate_left
  ·replace c8 := Bool.eq_false_iff.mpr c8
   subst c8
   rw [if_neg bF] at H
   have H' := As0 H
   clear H
   go_wp2_with (first | ((with_reducible refine Qbo (f := 7) rfl ?_); refine gL (some 12) Tryz.func7 #[] ?_; (with_reducible refine (Qbi.calls k  false _ A7.out).mono ?_); rintro e w30 ⟨rfl, hb⟩; refine ⟨_, rfl, ?_⟩; replace K549 := kB K549 hb; replace HB := sB HB hb; (try clear hb)))
   go_meet
   case rel => exact ⟨_, (true), eR, H', ⟨by first | omega | exact Nat.le_refl _⟩, ⟨bU K549.out⟩, ⟨BU HB.out⟩⟩
  subst c8
  rw [if_pos rfl] at H
  replace H := Option.bind_eq_some_iff.mp H
  obtain ⟨t551, A90, H⟩ := H
  have A9 := As0 A90
  clear A90
  by_cases c10 : t551 = true
  rotate_left
  ·replace c10 := Bool.eq_false_iff.mpr c10
   subst c10
   rw [if_neg bF] at H
   have H' := As0 H
   clear H
   go_wp2_with (first | ((with_reducible refine Qbo (f := 7) rfl ?_); refine gL (some 12) Tryz.func7 #[] ?_; (with_reducible refine (Qbi.calls k  true _ A7.out).mono ?_); rintro e w27 ⟨rfl, hb⟩; refine ⟨_, rfl, ?_⟩; replace K549 := kB K549 hb; replace HB := sB HB hb; (try clear hb); have q28_ := cN8 K549.out) | (go_at_call 8; (with_reducible refine (regcertref16_Few.calls k a0_0 a0_1 _ _ l0_2 a0_3 a0_4 a0_5 _ _ l0_6 _ _ l0_7 false _ ?side1 ?side2 ?side3 ?side4 ?side5 ?side6 A9.out).mono ?_); (case side1 => exact CU (Kd.C_below R0_2.out HB.out)); (case side2 => exact C0_2.out); (case side3 => exact CU (Kd.C_below R0_6.out HB.out)); (case side4 => exact C0_6.out); (case side5 => exact CU (Kd.C_below R0_7.out HB.out)); (case side6 => exact C0_7.out); rintro e w29 ⟨rfl, hb⟩; replace K549 := kB K549 hb; replace HB := sB HB hb; (try clear hb)))
   go_meet
   case rel => exact ⟨_, (true), eR, H', ⟨by first | omega | exact Nat.le_refl _⟩, ⟨bU K549.out⟩, ⟨BU HB.out⟩⟩
  subst c10
  rw [if_pos rfl] at H
  by_cases c11 : a0_4 ≤ 0
  ·rw [if_pos c11] at H
   have c11b0 := decide_eq_true c11
   clear c11
   (first | rw [c11b0] | (simp only [Qbu, Qbv]; rw [c11b0]) | skip)
   have H' := As0 H
   clear H
   go_wp2_with (first | ((with_reducible refine Qbo (f := 7) rfl ?_); refine gL (some 12) Tryz.func7 #[] ?_; (with_reducible refine (Qbi.calls k  true _ A7.out).mono ?_); rintro e w12 ⟨rfl, hb⟩; refine ⟨_, rfl, ?_⟩; replace K549 := kB K549 hb; replace HB := sB HB hb; (try clear hb); have q13_ := cN8 K549.out) | (go_at_call 8; (with_reducible refine (regcertref16_Few.calls k a0_0 a0_1 _ _ l0_2 a0_3 a0_4 a0_5 _ _ l0_6 _ _ l0_7 true _ ?side1 ?side2 ?side3 ?side4 ?side5 ?side6 A9.out).mono ?_); (case side1 => exact CU (Kd.C_below R0_2.out HB.out)); (case side2 => exact C0_2.out); (case side3 => exact CU (Kd.C_below R0_6.out HB.out)); (case side4 => exact C0_6.out); (case side5 => exact CU (Kd.C_below R0_7.out HB.out)); (case side6 => exact C0_7.out); rintro e w14 ⟨rfl, hb⟩; replace K549 := kB K549 hb; replace HB := sB HB hb; (try clear hb); have q15_ := cN8 K549.out))
   go_meet
   case rel => exact ⟨_, (true), eR, H', ⟨by first | omega | exact Nat.le_refl _⟩, ⟨bU K549.out⟩, ⟨BU HB.out⟩⟩
  rw [if_neg c11] at H
  have c11b0 := decide_eq_false c11
  clear c11
  (first | rw [c11b0] | (simp only [Qbu, Qbv]; rw [c11b0]) | skip)
  by_cases c16 : a0_5 ≥ 50
  ·rw [if_pos c16] at H
   have c16b0 := decide_eq_true c16
   clear c16
   have H' := As0 H
   clear H
   go_wp2_with (first | ((with_reducible refine Qbo (f := 7) rfl ?_); refine gL (some 12) Tryz.func7 #[] ?_; (with_reducible refine (Qbi.calls k  true _ A7.out).mono ?_); rintro e w17 ⟨rfl, hb⟩; refine ⟨_, rfl, ?_⟩; replace K549 := kB K549 hb; replace HB := sB HB hb; (try clear hb); have q18_ := cN8 K549.out) | (go_at_call 8; (with_reducible refine (regcertref16_Few.calls k a0_0 a0_1 _ _ l0_2 a0_3 a0_4 a0_5 _ _ l0_6 _ _ l0_7 true _ ?side1 ?side2 ?side3 ?side4 ?side5 ?side6 A9.out).mono ?_); (case side1 => exact CU (Kd.C_below R0_2.out HB.out)); (case side2 => exact C0_2.out); (case side3 => exact CU (Kd.C_below R0_6.out HB.out)); (case side4 => exact C0_6.out); (case side5 => exact CU (Kd.C_below R0_7.out HB.out)); (case side6 => exact C0_7.out); rintro e w19 ⟨rfl, hb⟩; replace K549 := kB K549 hb; replace HB := sB HB hb; (try clear hb); have q20_ := cN8 K549.out))
   go_meet
   case rel => exact ⟨_, (true), eR, H', ⟨by first | omega | exact Nat.le_refl _⟩, ⟨bU K549.out⟩, ⟨BU HB.out⟩⟩
  rw [if_neg c16] at H
  have c16b0 := decide_eq_false c16
  clear c16
  replace H := Option.bind_eq_some_iff.mp H
  obtain ⟨⟨t552, t553, t554, t555, t556, t557, t558⟩, A210, H⟩ := H
  have A21 := As0 A210
  clear A210
  have H' := As0 H
  clear H
  go_wp2_with (first | ((with_reducible refine Qbo (f := 7) rfl ?_); refine gL (some 12) Tryz.func7 #[] ?_; (with_reducible refine (Qbi.calls k  true _ A7.out).mono ?_); rintro e w22 ⟨rfl, hb⟩; refine ⟨_, rfl, ?_⟩; replace K549 := kB K549 hb; replace HB := sB HB hb; (try clear hb); have q23_ := cN8 K549.out) | (go_at_call 8; (with_reducible refine (regcertref16_Few.calls k a0_0 a0_1 _ _ l0_2 a0_3 a0_4 a0_5 _ _ l0_6 _ _ l0_7 true _ ?side1 ?side2 ?side3 ?side4 ?side5 ?side6 A9.out).mono ?_); (case side1 => exact CU (Kd.C_below R0_2.out HB.out)); (case side2 => exact C0_2.out); (case side3 => exact CU (Kd.C_below R0_6.out HB.out)); (case side4 => exact C0_6.out); (case side5 => exact CU (Kd.C_below R0_7.out HB.out)); (case side6 => exact C0_7.out); rintro e w24 ⟨rfl, hb⟩; replace K549 := kB K549 hb; replace HB := sB HB hb; (try clear hb); have q25_ := cN8 K549.out) | (go_at_call 14; (with_reducible refine (checker_Check.calls k a0_0 a0_1 _ _ l0_2 a0_3 a0_4 a0_5 _ _ l0_6 _ _ l0_7 t552 t553 t554 t555 t556 t557 t558 _ ?side1 ?side2 ?side3 ?side4 ?side5 ?side6 A21.out).mono ?_); (case side1 => exact CU (Kd.C_below R0_2.out HB.out)); (case side2 => exact C0_2.out); (case side3 => exact CU (Kd.C_below R0_6.out HB.out)); (case side4 => exact C0_6.out); (case side5 => exact CU (Kd.C_below R0_7.out HB.out)); (case side6 => exact C0_7.out); rintro e w26 ⟨rfl, hb⟩; replace K549 := kB K549 hb; replace HB := sB HB hb; (try clear hb)))
  go_meet
  case rel => exact ⟨_, ((t552 != 0)), eR, H', ⟨by first | omega | exact Nat.le_refl _⟩, ⟨bU K549.out⟩, ⟨BU HB.out⟩⟩
 case rest =>
  clear C5
  obtain ⟨kq, x36_4, rfl, HA, HJ4, K549, HB⟩ := hcut
  cases kq with
  | zero => exact absurd HA.out (by simp [Qac.j0])
  | succ kj4 =>
   have H := HA.out
   clear HA
   simp only [Qac.j0] at H
   by_cases c31 : x36_4 = true
   ·subst c31
    rw [if_pos rfl] at H
    replace H := Option.bind_eq_some_iff.mp H
    obtain ⟨t559, A320, H⟩ := H
    have A32 := As0 A320
    clear A320
    obtain rfl := Option.some.inj H
    go_wp2_with (first | ((with_reducible refine Qbo (f := 7) rfl ?_); refine gL (some 37) Tryz.func7 #[] ?_; (with_reducible refine (Qbi.calls kj4  t559 _ A32.out).mono ?_); rintro e w33 ⟨rfl, hb⟩; refine ⟨_, rfl, ?_⟩; replace K549 := kB K549 hb; replace HB := sB HB hb; (try clear hb)))
    go_ret
    exact ⟨oR, BU HB.out⟩
   replace c31 := Bool.eq_false_iff.mpr c31
   subst c31
   rw [if_neg bF] at H
   replace H := Option.bind_eq_some_iff.mp H
   obtain ⟨⟨t560, t561, t562, t565, t566, t567, t568, t571⟩, A340, H⟩ := H
   have A34 := As0 A340
   clear A340
   by_cases c35 : (t568.length : Int) = 0
   ·rw [if_pos c35] at H
    exact absurd H (by simp)
   rw [if_neg c35] at H
   have c35b0 : ((t568.length : Int) == 0) = false := beq_eq_false_iff_ne.mpr c35
   have c35b1 : ((t568.length : Int) != 0) = true := bne_iff_ne.mpr c35
   have c35b2 : ¬ (t568 = []) := fun h_ => c35 (by rw [h_]; rfl)
   obtain ⟨ji36, hji36⟩ : ∃ j_ : Int, (Int.tmod (wrap64 (a1)) (t568.length : Int)) = j_ := ⟨_, rfl⟩
   replace H : (if 0 ≤ (ji36) then (if (ji36) < (t568.length : Int) then (if a0_4 = 0 then (none) else ((Qa2.f ((Qad t568 (ji36)).f0) (wrap64 (a2)) 18 0 0 0 0 (wrap64 ((wrap64 (2 * a0_5)) + 1)) (wrap64 (2 * (Int.tmod (wrap64 (a3)) a0_4)))).bind fun t576 => ((some (t568.set ((ji36) : Int).toNat (⟨t576, (⟨(Qad t568 (ji36)).f1.f0, (Qad t568 (ji36)).f1.f1, (Qad t568 (ji36)).f1.f2, (Qad t568 (ji36)).f1.f3⟩ : S37)⟩ : S57) : List (S57))).bind fun y579 => ((checker_Check.f kj4 t560 t561 t562 t565 t566 (wrap64 (t567 + 1)) y579 t571).bind fun bt580 => ((Qaf.f kj4 ((Qad y579 (ji36)).f0)).bind fun t589 => (if t589 > 64 then (some (bt580.1 == 15)) else (some (bt580.1 == 0)))))))) else (none)) else (none)) = some r := by first | (rw [hji36] at H; exact H) | (simp only [hji36] at H ⊢; exact H)
   (try rw [hji36] at A34)
   by_cases c37 : 0 ≤ (ji36)
   rotate_left
   ·rw [if_neg c37] at H
    exact absurd H (by simp)
   rw [if_pos c37] at H
   have c37b0 := decide_eq_true c37
   clear c37
   by_cases c38 : (ji36) < (t568.length : Int)
   rotate_left
   ·rw [if_neg c38] at H
    exact absurd H (by simp)
   rw [if_pos c38] at H
   have c38b0 := decide_eq_true c38
   clear c38
   by_cases c39 : a0_4 = 0
   ·rw [if_pos c39] at H
    exact absurd H (by simp)
   rw [if_neg c39] at H
   have c39b0 : (a0_4 == 0) = false := beq_eq_false_iff_ne.mpr c39
   have c39b1 : (a0_4 != 0) = true := bne_iff_ne.mpr c39
   replace H := Option.bind_eq_some_iff.mp H
   obtain ⟨t576, A400, H⟩ := H
   have A40 := As0 A400
   clear A400
   obtain ⟨y579, hy579⟩ : ∃ y_ : List (S57), y_ = (t568.set ((ji36) : Int).toNat (⟨t576, (⟨(Qad t568 (ji36)).f1.f0, (Qad t568 (ji36)).f1.f1, (Qad t568 (ji36)).f1.f2, (Qad t568 (ji36)).f1.f3⟩ : S37)⟩ : S57)) := ⟨_, rfl⟩
   replace H : ((checker_Check.f kj4 t560 t561 t562 t565 t566 (wrap64 (t567 + 1)) y579 t571).bind fun bt580 => ((Qaf.f kj4 ((Qad y579 (ji36)).f0)).bind fun t589 => (if t589 > 64 then (some (bt580.1 == 15)) else (some (bt580.1 == 0))))) = some r := by first | (rw [hy579]; exact H) | exact H
   have Ny579 := As0 hy579
   clear hy579
   replace H := Option.bind_eq_some_iff.mp H
   obtain ⟨⟨t580, t581, t582, t583, t584, t585, t586⟩, A420, H⟩ := H
   have A42 := As0 A420
   clear A420
   replace H := Option.bind_eq_some_iff.mp H
   obtain ⟨t589, A430, H⟩ := H
   have A43 := As0 A430
   clear A430
   have H2_ := As0 H
   clear H
   have q45_ := cN8 K549.out
   try go_wp2_with (first | ((with_reducible refine Qbo (f := 10) rfl ?_); refine gL (some 39) Tryz.func10 #[.agg #[.int .i64 a0_0, .int .i64 a0_1, .slice A0_2 l0_2.length c0_2, .int .i64 a0_3, .int .i64 a0_4, .int .i64 a0_5, .slice A0_6 l0_6.length c0_6, .slice A0_7 l0_7.length c0_7]] ?_; (with_reducible refine (Qai.calls kj4 a0_0 a0_1 _ _ l0_2 a0_3 a0_4 a0_5 _ _ l0_6 _ _ l0_7 t560 t561 t562 t565 t566 t567 t568 t571 _ ?side1 ?side2 ?side3 ?side4 ?side5 ?side6 A34.out).mono ?_); (case side1 => exact CU (Kd.C_below R0_2.out HB.out)); (case side2 => exact C0_2.out); (case side3 => exact CU (Kd.C_below R0_6.out HB.out)); (case side4 => exact C0_6.out); (case side5 => exact CU (Kd.C_below R0_7.out HB.out)); (case side6 => exact C0_7.out); rintro e w46 ⟨v563, v569, v572, rfl, ho0, ho1, ho2, hb⟩; refine ⟨_, rfl, ?_⟩; have O564 := As0 (Kd.N_lower (Kd.N_mono (ok' := fun k_ => some k_ ≠ (v569 : Value).ownBlock ∧ some k_ ≠ (v572 : Value).ownBlock ∧ k_ ≠ gb549) (Kd.S_N (Kd.S_bound (Kd.S_apart' (Kd.S_apart' ho0 (Kd.S_typed ho1) (by decide)) (Kd.S_typed ho2) (by decide)))) (fun k_ hk_ => ⟨hk_.1.1.2, hk_.1.2, (Kd.freshB (bU K549.out) k_ hk_.2.1)⟩)) (Qbm (BU HB.out))); have O570 := As0 (Kd.N_lower (Kd.N_mono (ok' := fun k_ => some k_ ≠ (v563 : Value).ownBlock ∧ some k_ ≠ (v572 : Value).ownBlock ∧ k_ ≠ gb549) (Kd.S_N (Kd.S_bound (Kd.S_apart' (Kd.S_apart' ho1 (Kd.S_typed ho0) (by decide)) (Kd.S_typed ho2) (by decide)))) (fun k_ hk_ => ⟨hk_.1.1.2, hk_.1.2, (Kd.freshB (bU K549.out) k_ hk_.2.1)⟩)) (Qbm (BU HB.out))); have O573 := As0 (Kd.N_lower (Kd.N_mono (ok' := fun k_ => some k_ ≠ (v563 : Value).ownBlock ∧ some k_ ≠ (v569 : Value).ownBlock ∧ k_ ≠ gb549) (Kd.S_N (Kd.S_bound (Kd.S_apart' (Kd.S_apart' ho2 (Kd.S_typed ho0) (by decide)) (Kd.S_typed ho1) (by decide)))) (fun k_ hk_ => ⟨hk_.1.1.2, hk_.1.2, (Kd.freshB (bU K549.out) k_ hk_.2.1)⟩)) (Qbm (BU HB.out))); replace K549 := kB K549 hb; replace HB := sB HB hb; (try clear hb); (try clear ho0); (try clear ho1); (try clear ho2)) | ((with_reducible refine gD 9 ?_); refine bX ?_; intro gb574 hg w47 hbox hb; replace O564 := As0 (Kd.N_below (Kd.N_elderB (by (with_reducible repeat (first | apply Kd.N_alloc | apply Kd.N_drewN | apply Kd.N_drew)); exact O564.out) gb574 (Nat.le_of_eq hg.symm)) hb); replace O570 := As0 (Kd.N_below (Kd.N_elderB (by (with_reducible repeat (first | apply Kd.N_alloc | apply Kd.N_drewN | apply Kd.N_drew)); exact O570.out) gb574 (Nat.le_of_eq hg.symm)) hb); replace O573 := As0 (Kd.N_below (Kd.N_elderB (by (with_reducible repeat (first | apply Kd.N_alloc | apply Kd.N_drewN | apply Kd.N_drew)); exact O573.out) gb574 (Nat.le_of_eq hg.symm)) hb); have K574 := As0 (hbox); have GW574 := gW hg HB.out; replace HB := sB HB hb; have N549_574 := pL hg K549; have N574_549 := pR hg K549; replace K549 := kB K549 hb; clear hb hbox hg; have q49_ := cN8 K574.out; obtain ⟨Ao50, co50, eo50⟩ := Kd.N_slice O564.out; subst eo50; obtain ⟨Ao51, co51, eo51⟩ := Kd.N_slice O570.out; subst eo51; obtain ⟨Ao52, co52, eo52⟩ := Kd.N_slice O573.out; subst eo52))
   have n0_ : Qbk (Kd.N k39 39 (((((((((w47.setCell ⟨gb574, 0, none⟩ (.int .i64 t560)).setCell ⟨gb574, 1, none⟩ (.int .i64 t561)).setCell ⟨gb574, 2, none⟩ (.slice Ao50 t562.length co50)).setCell ⟨gb574, 3, none⟩ (.int .i64 t565)).setCell ⟨gb574, 4, none⟩ (.int .i64 t566)).setCell ⟨gb574, 5, none⟩ (.int .i64 t567)).setCell ⟨gb574, 6, none⟩ (.slice Ao51 t568.length co51)).setCell ⟨gb574, 7, none⟩ (.slice Ao52 t571.length co52)).setCell ⟨gb574, 5, none⟩ (.int .i64 (wrap64 (t567 + 1)))) w.heap.size (fun k_ => some k_ ≠ (.slice Ao51 t568.length co51 : Value).ownBlock ∧ some k_ ≠ (.slice Ao52 t571.length co52 : Value).ownBlock ∧ k_ ≠ gb549 ∧ k_ ≠ gb574) (.slice Ao50 t562.length co50) t562) := ⟨by (with_reducible repeat (first | apply Kd.N_alloc | apply Kd.N_drewN | apply Kd.N_drew)); exact Kd.N_mono (Kd.N_far (p := ⟨gb574, 5, none⟩) (Kd.N_far (p := ⟨gb574, 7, none⟩) (Kd.N_far (p := ⟨gb574, 6, none⟩) (Kd.N_far (p := ⟨gb574, 5, none⟩) (Kd.N_far (p := ⟨gb574, 4, none⟩) (Kd.N_far (p := ⟨gb574, 3, none⟩) (Kd.N_far (p := ⟨gb574, 2, none⟩) (Kd.N_far (p := ⟨gb574, 1, none⟩) (Kd.N_far (p := ⟨gb574, 0, none⟩) (Kd.N_mono O564.out (fun k_ hk => (⟨hk, hk.2⟩ : _ ∧ k_ ≠ gb574))) (fun _ hk => hk.2) (.int .i64 t560)) (fun _ hk => hk.2) (.int .i64 t561)) (fun _ hk => hk.2) (.slice Ao50 t562.length co50)) (fun _ hk => hk.2) (.int .i64 t565)) (fun _ hk => hk.2) (.int .i64 t566)) (fun _ hk => hk.2) (.int .i64 t567)) (fun _ hk => hk.2) (.slice Ao51 t568.length co51)) (fun _ hk => hk.2) (.slice Ao52 t571.length co52)) (fun _ hk => hk.2) (.int .i64 (wrap64 (t567 + 1)))) (fun _ hk => ⟨hk.1.1.1, ⟨hk.1.1.2.1, ⟨hk.1.1.2.2, hk.1.2⟩⟩⟩)⟩
   have n1_ : Qbk (Kd.N k57 57 (((((((((w47.setCell ⟨gb574, 0, none⟩ (.int .i64 t560)).setCell ⟨gb574, 1, none⟩ (.int .i64 t561)).setCell ⟨gb574, 2, none⟩ (.slice Ao50 t562.length co50)).setCell ⟨gb574, 3, none⟩ (.int .i64 t565)).setCell ⟨gb574, 4, none⟩ (.int .i64 t566)).setCell ⟨gb574, 5, none⟩ (.int .i64 t567)).setCell ⟨gb574, 6, none⟩ (.slice Ao51 t568.length co51)).setCell ⟨gb574, 7, none⟩ (.slice Ao52 t571.length co52)).setCell ⟨gb574, 5, none⟩ (.int .i64 (wrap64 (t567 + 1)))) w.heap.size (fun k_ => some k_ ≠ (.slice Ao50 t562.length co50 : Value).ownBlock ∧ some k_ ≠ (.slice Ao52 t571.length co52 : Value).ownBlock ∧ k_ ≠ gb549 ∧ k_ ≠ gb574) (.slice Ao51 t568.length co51) t568) := ⟨by (with_reducible repeat (first | apply Kd.N_alloc | apply Kd.N_drewN | apply Kd.N_drew)); exact Kd.N_mono (Kd.N_far (p := ⟨gb574, 5, none⟩) (Kd.N_far (p := ⟨gb574, 7, none⟩) (Kd.N_far (p := ⟨gb574, 6, none⟩) (Kd.N_far (p := ⟨gb574, 5, none⟩) (Kd.N_far (p := ⟨gb574, 4, none⟩) (Kd.N_far (p := ⟨gb574, 3, none⟩) (Kd.N_far (p := ⟨gb574, 2, none⟩) (Kd.N_far (p := ⟨gb574, 1, none⟩) (Kd.N_far (p := ⟨gb574, 0, none⟩) (Kd.N_mono O570.out (fun k_ hk => (⟨hk, hk.2⟩ : _ ∧ k_ ≠ gb574))) (fun _ hk => hk.2) (.int .i64 t560)) (fun _ hk => hk.2) (.int .i64 t561)) (fun _ hk => hk.2) (.slice Ao50 t562.length co50)) (fun _ hk => hk.2) (.int .i64 t565)) (fun _ hk => hk.2) (.int .i64 t566)) (fun _ hk => hk.2) (.int .i64 t567)) (fun _ hk => hk.2) (.slice Ao51 t568.length co51)) (fun _ hk => hk.2) (.slice Ao52 t571.length co52)) (fun _ hk => hk.2) (.int .i64 (wrap64 (t567 + 1)))) (fun _ hk => ⟨hk.1.1.1, ⟨hk.1.1.2.1, ⟨hk.1.1.2.2, hk.1.2⟩⟩⟩)⟩
   have n2_ : Qbk (Kd.N (Kd.slice 47 k47) 44 (((((((((w47.setCell ⟨gb574, 0, none⟩ (.int .i64 t560)).setCell ⟨gb574, 1, none⟩ (.int .i64 t561)).setCell ⟨gb574, 2, none⟩ (.slice Ao50 t562.length co50)).setCell ⟨gb574, 3, none⟩ (.int .i64 t565)).setCell ⟨gb574, 4, none⟩ (.int .i64 t566)).setCell ⟨gb574, 5, none⟩ (.int .i64 t567)).setCell ⟨gb574, 6, none⟩ (.slice Ao51 t568.length co51)).setCell ⟨gb574, 7, none⟩ (.slice Ao52 t571.length co52)).setCell ⟨gb574, 5, none⟩ (.int .i64 (wrap64 (t567 + 1)))) w.heap.size (fun k_ => some k_ ≠ (.slice Ao50 t562.length co50 : Value).ownBlock ∧ some k_ ≠ (.slice Ao51 t568.length co51 : Value).ownBlock ∧ k_ ≠ gb549 ∧ k_ ≠ gb574) (.slice Ao52 t571.length co52) t571) := ⟨by (with_reducible repeat (first | apply Kd.N_alloc | apply Kd.N_drewN | apply Kd.N_drew)); exact Kd.N_mono (Kd.N_far (p := ⟨gb574, 5, none⟩) (Kd.N_far (p := ⟨gb574, 7, none⟩) (Kd.N_far (p := ⟨gb574, 6, none⟩) (Kd.N_far (p := ⟨gb574, 5, none⟩) (Kd.N_far (p := ⟨gb574, 4, none⟩) (Kd.N_far (p := ⟨gb574, 3, none⟩) (Kd.N_far (p := ⟨gb574, 2, none⟩) (Kd.N_far (p := ⟨gb574, 1, none⟩) (Kd.N_far (p := ⟨gb574, 0, none⟩) (Kd.N_mono O573.out (fun k_ hk => (⟨hk, hk.2⟩ : _ ∧ k_ ≠ gb574))) (fun _ hk => hk.2) (.int .i64 t560)) (fun _ hk => hk.2) (.int .i64 t561)) (fun _ hk => hk.2) (.slice Ao50 t562.length co50)) (fun _ hk => hk.2) (.int .i64 t565)) (fun _ hk => hk.2) (.int .i64 t566)) (fun _ hk => hk.2) (.int .i64 t567)) (fun _ hk => hk.2) (.slice Ao51 t568.length co51)) (fun _ hk => hk.2) (.slice Ao52 t571.length co52)) (fun _ hk => hk.2) (.int .i64 (wrap64 (t567 + 1)))) (fun _ hk => ⟨hk.1.1.1, ⟨hk.1.1.2.1, ⟨hk.1.1.2.2, hk.1.2⟩⟩⟩)⟩
   have n3_ : Qbk ((((((((((w47.setCell ⟨gb574, 0, none⟩ (.int .i64 t560)).setCell ⟨gb574, 1, none⟩ (.int .i64 t561)).setCell ⟨gb574, 2, none⟩ (.slice Ao50 t562.length co50)).setCell ⟨gb574, 3, none⟩ (.int .i64 t565)).setCell ⟨gb574, 4, none⟩ (.int .i64 t566)).setCell ⟨gb574, 5, none⟩ (.int .i64 t567)).setCell ⟨gb574, 6, none⟩ (.slice Ao51 t568.length co51)).setCell ⟨gb574, 7, none⟩ (.slice Ao52 t571.length co52)).setCell ⟨gb574, 5, none⟩ (.int .i64 (wrap64 (t567 + 1)))).heap[gb549]? = some (.cells #[.int .i64 a0_0, .int .i64 a0_1, .slice A0_2 l0_2.length c0_2, .int .i64 a0_3, .int .i64 a0_4, .int .i64 a0_5, .slice A0_6 l0_6.length c0_6, .slice A0_7 l0_7.length c0_7] 30 (0, 0))) := ⟨kV K549⟩
   have n4_ : Qbk ((((((((((w47.setCell ⟨gb574, 0, none⟩ (.int .i64 t560)).setCell ⟨gb574, 1, none⟩ (.int .i64 t561)).setCell ⟨gb574, 2, none⟩ (.slice Ao50 t562.length co50)).setCell ⟨gb574, 3, none⟩ (.int .i64 t565)).setCell ⟨gb574, 4, none⟩ (.int .i64 t566)).setCell ⟨gb574, 5, none⟩ (.int .i64 t567)).setCell ⟨gb574, 6, none⟩ (.slice Ao51 t568.length co51)).setCell ⟨gb574, 7, none⟩ (.slice Ao52 t571.length co52)).setCell ⟨gb574, 5, none⟩ (.int .i64 (wrap64 (t567 + 1)))).heap[gb574]? = some (.cells #[.int .i64 t560, .int .i64 t561, .slice Ao50 t562.length co50, .int .i64 t565, .int .i64 t566, .int .i64 (wrap64 (t567 + 1)), .slice Ao51 t568.length co51, .slice Ao52 t571.length co52] 30 (0, 0))) := ⟨kV K574⟩
   have n5_ : Qbk (Below w.heap.size w (((((((((w47.setCell ⟨gb574, 0, none⟩ (.int .i64 t560)).setCell ⟨gb574, 1, none⟩ (.int .i64 t561)).setCell ⟨gb574, 2, none⟩ (.slice Ao50 t562.length co50)).setCell ⟨gb574, 3, none⟩ (.int .i64 t565)).setCell ⟨gb574, 4, none⟩ (.int .i64 t566)).setCell ⟨gb574, 5, none⟩ (.int .i64 t567)).setCell ⟨gb574, 6, none⟩ (.slice Ao51 t568.length co51)).setCell ⟨gb574, 7, none⟩ (.slice Ao52 t571.length co52)).setCell ⟨gb574, 5, none⟩ (.int .i64 (wrap64 (t567 + 1))))) := ⟨BU HB.out⟩
   (try clear O564)
   (try clear O570)
   (try clear O573)
   (try clear K549)
   (try clear K574)
   (try clear HB)
   generalize (((((((((w47.setCell ⟨gb574, 0, none⟩ (.int .i64 t560)).setCell ⟨gb574, 1, none⟩ (.int .i64 t561)).setCell ⟨gb574, 2, none⟩ (.slice Ao50 t562.length co50)).setCell ⟨gb574, 3, none⟩ (.int .i64 t565)).setCell ⟨gb574, 4, none⟩ (.int .i64 t566)).setCell ⟨gb574, 5, none⟩ (.int .i64 t567)).setCell ⟨gb574, 6, none⟩ (.slice Ao51 t568.length co51)).setCell ⟨gb574, 7, none⟩ (.slice Ao52 t571.length co52)).setCell ⟨gb574, 5, none⟩ (.int .i64 (wrap64 (t567 + 1)))) = w53 at n0_ n1_ n2_ n3_ n4_ n5_ ⊢
   have O564 := n0_
   have O570 := n1_
   have O573 := n2_
   have K549 := n3_
   have K574 := n4_
   have HB := n5_
   clear n0_ n1_ n2_ n3_ n4_ n5_
   replace O564 := As0 (Kd.N_drew O564.out)
   replace O570 := As0 (Kd.N_drew O570.out)
   replace O573 := As0 (Kd.N_drew O573.out)
   replace K549 := As0 (Qbr K549.out)
   replace K574 := As0 (Qbr K574.out)
   replace HB := As0 (bd1 HB.out)
   have p575 : 0 ≤ ((ji36) : Int) := qR
   have q575 : (ji36) < (t568.length : Int) := qR
   obtain ⟨ad575, A575_0, c575_0, e575, hx575_0, hx575_1, hx575_2, hx575_3, hx575_4, hl575_0, hi575_0⟩ := Qej (Kd.N_reads' O570.out).2.2 (ji36) p575 q575
   cases e575
   obtain ⟨ce575, hce575, hMe575, hcc575⟩ := Kd.N_get O570.out z57 (ji36) p575 (by first | exact q575 | exact qR | (have e_ := (Kd.N_reads' O570.out).1; omega))
   obtain ⟨ua575_0, uc575_0, rfl, ul575_0, ge575_0⟩ := k57_openF hMe575
   have hv575_0 := hcc575 0 _ rfl
   rw [Nat.add_zero] at hv575_0
   replace hv575_0 := Option.some.inj (hv575_0.symm.trans hx575_0)
   injection hv575_0 with hva_ hvn_ hvc_
   rw [hva_] at ge575_0
   rw [hvc_] at ul575_0
   have HL575_0 := As0 (show Kd.V k59 59 _ w.heap.size _ _ ((Qad t568 (ji36)).f0) from Kd.V_mk ul575_0 ge575_0)
   clear hva_ hvn_ hvc_ ge575_0 ul575_0 hcc575 hce575
   have R575_0 := As0 hi575_0
   have C575_0 := As0 hl575_0
   clear hi575_0 hl575_0
   replace p575 := eq_true p575
   replace q575 := eq_true q575
   refine Qcb (n := 30) (S := fun w' => w'.cell? ⟨gb574, 0, none⟩ = some (.int .i64 t560) ∧ w'.cell? ⟨gb574, 1, none⟩ = some (.int .i64 t561) ∧ w'.cell? ⟨gb574, 2, none⟩ = some (.slice Ao50 t562.length co50) ∧ w'.cell? ⟨gb574, 3, none⟩ = some (.int .i64 t565) ∧ w'.cell? ⟨gb574, 4, none⟩ = some (.int .i64 t566) ∧ w'.cell? ⟨gb574, 5, none⟩ = some (.int .i64 (wrap64 (t567 + 1))) ∧ w'.cell? ⟨gb574, 6, none⟩ = some (.slice (some ad575) t568.length co51) ∧ w'.cell? ⟨gb574, 7, none⟩ = some (.slice Ao52 t571.length co52) ∧ w'.cell? ⟨gb549, 0, none⟩ = some (.int .i64 a0_0) ∧ w'.cell? ⟨gb549, 1, none⟩ = some (.int .i64 a0_1) ∧ w'.cell? ⟨gb549, 2, none⟩ = some (.slice A0_2 l0_2.length c0_2) ∧ w'.cell? ⟨gb549, 3, none⟩ = some (.int .i64 a0_3) ∧ w'.cell? ⟨gb549, 4, none⟩ = some (.int .i64 a0_4) ∧ w'.cell? ⟨gb549, 5, none⟩ = some (.int .i64 a0_5) ∧ w'.cell? ⟨gb549, 6, none⟩ = some (.slice A0_6 l0_6.length c0_6) ∧ w'.cell? ⟨gb549, 7, none⟩ = some (.slice A0_7 l0_7.length c0_7) ∧ w'.cell? (ad575.add (((ji36)).toNat * 5)) = some (.slice A575_0 ((Qad t568 (ji36)).f0).length c575_0) ∧ w'.cell? ⟨(ad575.add (((ji36)).toNat * 5)).block, (ad575.add (((ji36)).toNat * 5)).off + 1, none⟩ = some (.int .i64 ((Qad t568 (ji36)).f1.f0)) ∧ w'.cell? ⟨(ad575.add (((ji36)).toNat * 5)).block, (ad575.add (((ji36)).toNat * 5)).off + 2, none⟩ = some (.int .i64 ((Qad t568 (ji36)).f1.f1)) ∧ w'.cell? ⟨(ad575.add (((ji36)).toNat * 5)).block, (ad575.add (((ji36)).toNat * 5)).off + 3, none⟩ = some (.int .i64 ((Qad t568 (ji36)).f1.f2)) ∧ w'.cell? ⟨(ad575.add (((ji36)).toNat * 5)).block, (ad575.add (((ji36)).toNat * 5)).off + 4, none⟩ = some (.int .i64 ((Qad t568 (ji36)).f1.f3))) (ds := [29]) (bb 30 0) (by kernel_rfl) rfl rfl ⟨bc K574 0, bc K574 1, bc K574 2, bc K574 3, bc K574 4, bc K574 5, bc K574 6, bc K574 7, bc K549 0, bc K549 1, bc K549 2, bc K549 3, bc K549 4, bc K549 5, bc K549 6, bc K549 7, hx575_0, hx575_1, hx575_2, hx575_3, hx575_4⟩ (fun hHeld => ?_); refine Qca Qac.tab6 Qac.bits6 (fun HT_ HW_ => ?_)
   generalize w53.drew = w54 at O564 O570 O573 K549 K574 HB HL575_0 R575_0 hx575_0 hx575_1 hx575_2 hx575_3 hx575_4 hHeld ⊢
   refine pv HT_.out 0 53 (bb 30 1) ?_
   refine pv HT_.out 1 54 (bb 30 3) ?_
   refine pv HT_.out 3 56 (bb 30 11) ?_
   refine pv HT_.out 4 57 (bb 30 27) ?_
   refine pv HT_.out 5 58 (bb 30 59) ?_
   refine pv HT_.out 7 60 (bb 30 187) ?_
   refine pv HT_.out 11 64 (bb 30 2235) ?_
   refine pv HT_.out 12 65 (bb 30 6331) ?_
   refine pv HT_.out 13 66 (bb 30 14523) ?_
   refine pv HT_.out 14 67 (bb 30 30907) ?_
   refine pv HT_.out 18 71 (bb 30 293051) ?_
   refine pv HT_.out 19 72 (bb 30 817339) ?_
   refine pv HT_.out 20 73 (bb 30 1865915) ?_
   refine pv HT_.out 21 74 (bb 30 3963067) ?_
   refine tv hHeld HT_.out HW_.out 2 55 (bb 30 3963071) ?_
   refine tv hHeld HT_.out HW_.out 6 59 (bb 30 3963135) ?_
   refine pv HT_.out 8 61 (bb 30 3963391) ?_
   refine pv HT_.out 9 62 (bb 30 3963903) ?_
   refine tv hHeld HT_.out HW_.out 10 63 (bb 30 3964927) ?_
   refine tv hHeld HT_.out HW_.out 15 68 (bb 30 3997695) ?_
   refine pv HT_.out 16 69 (bb 30 4063231) ?_
   refine pv HT_.out 17 70 (bb 30 4194303) ?_
   refine tv hHeld HT_.out HW_.out 22 75 (bb 30 8388607) ?_
   refine pv HT_.out 23 76 (bb 30 16777215) ?_
   refine pv HT_.out 24 77 (bb 30 33554431) ?_
   refine pv HT_.out 25 78 (bb 30 67108863) ?_
   refine one_ (i := 26) (N := some 79) (bb 30 134217727) rfl rfl (Qcd HT_.out (by kernel_rfl)) (by decide) (fun K hK => ?_)
   refine goes_ Tryz.func15 (by kernel_rfl) rfl #[.slice A575_0 ((Qad t568 (ji36)).f0).length c575_0, .int .i64 (wrap64 (a2)), .agg #[.int .i64 18, .int .i64 0, .int .i64 0, .int .i64 0, .int .i64 0, .int .i64 (wrap64 ((wrap64 (2 * a0_5)) + 1)), .int .i64 (wrap64 (2 * (Int.tmod (wrap64 (a3)) a0_4)))]] (by rfl) rfl rfl (by (try simp only [List.map_toArray, List.map_cons, List.map_nil]); first | done | (simp only [hji36]; rfl) | rfl | (simp only [List.length_drop, List.length_take]; rfl)) ?_
   with_reducible refine (Qa2.calls _ _ ((Qad t568 (ji36)).f0) (wrap64 (a2)) 18 0 0 0 0 (wrap64 ((wrap64 (2 * a0_5)) + 1)) (wrap64 (2 * (Int.tmod (wrap64 (a3)) a0_4))) t576 _ ?side1 ?side2 A40.out).mono ?_
   (case side1 => exact CU (by repeat (first | (with_reducible exact R575_0.out) | (with_reducible refine Kd.C_alloc ?_ _) | (with_reducible refine Kd.C_drewN ?_ _) | (with_reducible refine Kd.C_drew ?_) | exact R575_0.out)))
   (case side2 => exact C575_0.out)
   rintro e w55 ⟨v577, rfl, ho0, hb⟩
   have HS16_ := (hb.cell (World.block_lt_of_cell? _ _ (hHeld.2.2.2.2.2.2.2.2.2.2.2.2.2.2.2.2.1))).trans (hHeld.2.2.2.2.2.2.2.2.2.2.2.2.2.2.2.2.1)
   have HS17_ := (hb.cell (World.block_lt_of_cell? _ _ (hHeld.2.2.2.2.2.2.2.2.2.2.2.2.2.2.2.2.2.1))).trans (hHeld.2.2.2.2.2.2.2.2.2.2.2.2.2.2.2.2.2.1)
   have HS18_ := (hb.cell (World.block_lt_of_cell? _ _ (hHeld.2.2.2.2.2.2.2.2.2.2.2.2.2.2.2.2.2.2.1))).trans (hHeld.2.2.2.2.2.2.2.2.2.2.2.2.2.2.2.2.2.2.1)
   have HS19_ := (hb.cell (World.block_lt_of_cell? _ _ (hHeld.2.2.2.2.2.2.2.2.2.2.2.2.2.2.2.2.2.2.2.1))).trans (hHeld.2.2.2.2.2.2.2.2.2.2.2.2.2.2.2.2.2.2.2.1)
   have HS20_ := (hb.cell (World.block_lt_of_cell? _ _ (hHeld.2.2.2.2.2.2.2.2.2.2.2.2.2.2.2.2.2.2.2.2))).trans (hHeld.2.2.2.2.2.2.2.2.2.2.2.2.2.2.2.2.2.2.2.2)
   refine ⟨_, rfl, ?_⟩
   replace O564 := As0 (Kd.N_elder' (by (with_reducible repeat (first | apply Kd.N_alloc | apply Kd.N_drewN | apply Kd.N_drew)); exact O564.out) (Kd.R_base ho0) hb)
   replace O570 := As0 (Kd.N_elder' (by (with_reducible repeat (first | apply Kd.N_alloc | apply Kd.N_drewN | apply Kd.N_drew)); exact O570.out) (Kd.R_base ho0) hb)
   replace O573 := As0 (Kd.N_elder' (by (with_reducible repeat (first | apply Kd.N_alloc | apply Kd.N_drewN | apply Kd.N_drew)); exact O573.out) (Kd.R_base ho0) hb)
   replace HL575_0 := As0 (Kd.V_elder' (by (with_reducible repeat (first | apply Kd.V_alloc | apply Kd.V_drewN | apply Kd.V_drew)); exact HL575_0.out) (Kd.R_base ho0) hb)
   have O578 := As0 (Kd.R_lower ho0 (Qbm (BU HB.out)))
   replace K549 := kB K549 hb
   replace K574 := kB K574 hb
   replace R575_0 := As0 (Kd.C_below (by repeat (first | (with_reducible exact R575_0.out) | (with_reducible refine Kd.C_alloc ?_ _) | (with_reducible refine Kd.C_drewN ?_ _) | (with_reducible refine Kd.C_drew ?_) | exact R575_0.out)) hb)
   replace HB := sB HB hb
   (try clear hb)
   (try clear hb2)
   (try clear hk)
   (try clear hi)
   (try clear ho0)
   obtain ⟨Ao577, co577, eo577⟩ := Kd.R_slice O578.out
   subst eo577
   have p41 : 0 ≤ ((ji36) : Int) := qR
   have q41 : ((ji36) : Int) < ((t568.length : Int) : Int) := qR
   obtain ⟨go41, co41, eo41, gb41, gl41, cl41, HG41⟩ := Kd.N_form O570.out (by omega)
   (first | cases eo41 | (injection eo41 with ea_ en_ ec_; (first | subst ea_ | (injection ea_ with ea_; subst ea_)); subst ec_; clear en_))
   have GB41 := As0 gb41
   have GG41 := As0 HG41
   clear gb41 gl41 HG41
   (first | simp only [Qcv] at hx575_0 | skip)
   (first | simp only [Qcv] at hx575_1 | skip)
   (first | simp only [Qcv] at hx575_2 | skip)
   (first | simp only [Qcv] at hx575_3 | skip)
   (first | simp only [Qcv] at hx575_4 | skip)
   obtain ⟨ce41, hcl41, hM41, hcc41, hfr41⟩ := Kd.N_elem O570.out z57 ((ji36) : Int) p41 q41
   obtain ⟨ua41_0, uc41_0, rfl, ul41_0, ge41_0⟩ := k57_openF hM41
   have hx41_0 : World.cell? _ ⟨go41, ((ji36) : Int).toNat * 5, none⟩ = some (.slice ua41_0 ((Qad t568 (ji36)).f0).length uc41_0) := hcc41 0 _ rfl
   have hx41_1 : World.cell? _ ⟨go41, ((ji36) : Int).toNat * 5 + 1, none⟩ = some (.int .i64 ((Qad t568 (ji36)).f1.f0)) := hcc41 1 _ rfl
   have hx41_2 : World.cell? _ ⟨go41, ((ji36) : Int).toNat * 5 + 2, none⟩ = some (.int .i64 ((Qad t568 (ji36)).f1.f1)) := hcc41 2 _ rfl
   have hx41_3 : World.cell? _ ⟨go41, ((ji36) : Int).toNat * 5 + 3, none⟩ = some (.int .i64 ((Qad t568 (ji36)).f1.f2)) := hcc41 3 _ rfl
   have hx41_4 : World.cell? _ ⟨go41, ((ji36) : Int).toNat * 5 + 4, none⟩ = some (.int .i64 ((Qad t568 (ji36)).f1.f3)) := hcc41 4 _ rfl
   have hf41_0 : World.frozen? _ ⟨go41, ((ji36) : Int).toNat * 5, none⟩ = false := hfr41 0
   have hf41_1 : World.frozen? _ ⟨go41, ((ji36) : Int).toNat * 5 + 1, none⟩ = false := hfr41 1
   have hf41_2 : World.frozen? _ ⟨go41, ((ji36) : Int).toNat * 5 + 2, none⟩ = false := hfr41 2
   have hf41_3 : World.frozen? _ ⟨go41, ((ji36) : Int).toNat * 5 + 3, none⟩ = false := hfr41 3
   have hf41_4 : World.frozen? _ ⟨go41, ((ji36) : Int).toNat * 5 + 4, none⟩ = false := hfr41 4
   clear hcl41 hcc41 hfr41 hM41
   replace p41 := eq_true p41
   replace q41 := eq_true q41
   have HX56 := As0 (show Kd.N k57 57 _ w.heap.size (fun k_ => some k_ ≠ (.slice Ao50 t562.length co50 : Value).ownBlock ∧ some k_ ≠ (.slice Ao52 t571.length co52 : Value).ownBlock ∧ some k_ ≠ (.slice Ao577 t576.length co577 : Value).ownBlock ∧ k_ ≠ gb549 ∧ k_ ≠ gb574) (.slice (some ⟨go41, 0, none⟩) t568.length co51) t568 from (Kd.N_mono (O570.out) (fun k_ hk => ⟨hk.1.1, ⟨hk.1.2.1, ⟨hk.2, ⟨hk.1.2.2.1, hk.1.2.2.2⟩⟩⟩⟩)))
   replace HX56 := As0 (show Kd.N k57 57 _ w.heap.size (fun k_ => some k_ ≠ (.slice Ao50 t562.length co50 : Value).ownBlock ∧ some k_ ≠ (.slice Ao52 t571.length co52 : Value).ownBlock ∧ k_ ≠ gb549 ∧ k_ ≠ gb574) (.slice (some ⟨go41, 0, none⟩) t568.length co51) t568 from Kd.N_mono HX56.out (fun k_ hk => ⟨hk.1, ⟨hk.2.1, ⟨hk.2.2.2.1, hk.2.2.2.2⟩⟩⟩))
   obtain ⟨ce56, hcl56, hM56, hcc56, hfr56⟩ := Kd.N_elem HX56.out z57 ((ji36) : Int) (qR) (by have h_ : ((ji36) : Int) < ((t568.length : Int) : Int) := qR; first | exact h_ | (have e_ := (Kd.N_reads' O570.out).1; omega) | simpa using h_)
   obtain ⟨ua56_0, uc56_0, rfl, ul56_0, ge56_0⟩ := k57_openF hM56
   have HP56 := (Kd.N_seg HX56.out ((ji36) : Int) (qR) (by have h_ : ((ji36) : Int) < ((t568.length : Int) : Int) := qR; first | exact h_ | (have e_ := (Kd.N_reads' O570.out).1; omega) | simpa using h_) (seg := [(.slice Ao577 t576.length co577)]) (j := 0) hcl56 hcc56 (show 1 ≤ 5 from by decide) (x' := (⟨t576, (⟨(Qad t568 (ji36)).f1.f0, (Qad t568 (ji36)).f1.f1, (Qad t568 (ji36)).f1.f2, (Qad t568 (ji36)).f1.f3⟩ : S37)⟩ : S57)) (k57_mkF _ _ (⟨t576, (⟨(Qad t568 (ji36)).f1.f0, (Qad t568 (ji36)).f1.f1, (Qad t568 (ji36)).f1.f2, (Qad t568 (ji36)).f1.f3⟩ : S37)⟩ : S57) (Kd.R_reads' (Kd.R_mono (ok' := (fun k_ => ((fun k_ => some k_ ≠ (.slice Ao50 t562.length co50 : Value).ownBlock ∧ some k_ ≠ (.slice Ao52 t571.length co52 : Value).ownBlock ∧ k_ ≠ gb549 ∧ k_ ≠ gb574)) k_ ∧ k_ ≠ go41)) (Kd.R_types (Kd.R_types (Kd.R_apart' (Kd.R_apart' (Kd.R_apart' (O578.out) (Kd.N_typed O564.out) (by decide)) (Kd.N_typed O573.out) (by decide)) (Kd.N_typed O570.out) (by decide)) K549.out (by decide)) K574.out (by decide)) (by intro k_ hk; exact ⟨⟨hk.1.1.1.1.2, ⟨hk.1.1.1.2, ⟨hk.1.2, hk.2⟩⟩⟩, fun e_ => (hk.1.1.2) (by rw [e_]; rfl)⟩))).2.1 (Kd.R_F (Kd.R_mono (ok' := (fun k_ => ((fun k_ => some k_ ≠ (.slice Ao50 t562.length co50 : Value).ownBlock ∧ some k_ ≠ (.slice Ao52 t571.length co52 : Value).ownBlock ∧ k_ ≠ gb549 ∧ k_ ≠ gb574)) k_ ∧ k_ ≠ go41)) (Kd.R_types (Kd.R_types (Kd.R_apart' (Kd.R_apart' (Kd.R_apart' (O578.out) (Kd.N_typed O564.out) (by decide)) (Kd.N_typed O573.out) (by decide)) (Kd.N_typed O570.out) (by decide)) K549.out (by decide)) K574.out (by decide)) (by intro k_ hk; exact ⟨⟨hk.1.1.1.1.2, ⟨hk.1.1.1.2, ⟨hk.1.2, hk.2⟩⟩⟩, fun e_ => (hk.1.1.2) (by rw [e_]; rfl)⟩)))) (fun _ hk => hk)).1
   rw [← Ny579.out] at HP56
   have HQ56 := As0 HP56
   clear hcl56 hcc56 hfr56 hM56 HP56
   refine hK.out _ _ ⟨bc K574 0, bc K574 1, bc K574 2, bc K574 3, bc K574 4, bc K574 5, bc K574 6, bc K574 7, bc K549 0, bc K549 1, bc K549 2, bc K549 3, bc K549 4, bc K549 5, bc K549 6, bc K549 7, HS16_, HS17_, HS18_, HS19_, HS20_⟩ (fun hHeld => ?_)
   clear hK K
   refine Qb1 (a' := ?_) ?_ ?_
   rotate_left
   ·show Act.put _ (some 79) _ = _
    simp only [Act.put, sL1, sL2, sL3, Qbu, Qbv]
    rfl
   refine pv HT_.out 27 80 (bb 30 268435455) ?_
   refine pv HT_.out 28 81 (bb 30 536870911) ?_
   refine Qdu (i := 29) (N := none) (bb 30 1073741823) rfl rfl (Qcd HT_.out (by kernel_rfl)) (by decide) (fun K hK => ?_)
   refine skip_ (w1 := ?_) (by rfl) rfl ?_ ?_
   rotate_left
   ·go_simp
    rfl
   refine hK.out _ _ ?_
   clear hK K
   refine Qcy (Qco HT_.out (by kernel_rfl)) ?_
   have n0_ : Qbk (Kd.N k39 39 (w55.setCell ⟨go41, ((ji36) : Int).toNat * 5, none⟩ (.slice Ao577 t576.length co577)) w.heap.size (fun k_ => some k_ ≠ (.slice (some ⟨go41, 0, none⟩) t568.length co51 : Value).ownBlock ∧ some k_ ≠ (.slice Ao52 t571.length co52 : Value).ownBlock ∧ k_ ≠ gb549 ∧ k_ ≠ gb574) (.slice Ao50 t562.length co50) t562) := ⟨by (with_reducible repeat (first | apply Kd.N_alloc | apply Kd.N_drewN | apply Kd.N_drew)); exact Kd.N_mono (Kd.N_far (p := ⟨go41, ((ji36) : Int).toNat * 5, none⟩) (Kd.N_mono O564.out (fun k_ hk => (⟨hk, fun e_ => hk.1.1 (by rw [e_]; rfl)⟩ : _ ∧ k_ ≠ go41))) (fun _ hk => hk.2) (.slice Ao577 t576.length co577)) (fun _ hk => ⟨hk.1.1.1, ⟨hk.1.1.2.1, ⟨hk.1.1.2.2.1, hk.1.1.2.2.2⟩⟩⟩)⟩
   have n1_ : Qbk (Kd.N k57 57 (w55.setCell ⟨go41, ((ji36) : Int).toNat * 5, none⟩ (.slice Ao577 t576.length co577)) w.heap.size (fun k_ => some k_ ≠ (.slice Ao50 t562.length co50 : Value).ownBlock ∧ some k_ ≠ (.slice Ao52 t571.length co52 : Value).ownBlock ∧ k_ ≠ gb549 ∧ k_ ≠ gb574) (.slice (some ⟨go41, 0, none⟩) t568.length co51) y579) := ⟨by (with_reducible repeat (first | apply Kd.N_alloc | apply Kd.N_drewN | apply Kd.N_drew)); exact HQ56.out⟩
   have n2_ : Qbk (Kd.N (Kd.slice 47 k47) 44 (w55.setCell ⟨go41, ((ji36) : Int).toNat * 5, none⟩ (.slice Ao577 t576.length co577)) w.heap.size (fun k_ => some k_ ≠ (.slice Ao50 t562.length co50 : Value).ownBlock ∧ some k_ ≠ (.slice (some ⟨go41, 0, none⟩) t568.length co51 : Value).ownBlock ∧ k_ ≠ gb549 ∧ k_ ≠ gb574) (.slice Ao52 t571.length co52) t571) := ⟨by (with_reducible repeat (first | apply Kd.N_alloc | apply Kd.N_drewN | apply Kd.N_drew)); exact Kd.N_mono (Kd.N_far (p := ⟨go41, ((ji36) : Int).toNat * 5, none⟩) (Kd.N_mono O573.out (fun k_ hk => (⟨hk, fun e_ => hk.1.2.1 (by rw [e_]; rfl)⟩ : _ ∧ k_ ≠ go41))) (fun _ hk => hk.2) (.slice Ao577 t576.length co577)) (fun _ hk => ⟨hk.1.1.1, ⟨hk.1.1.2.1, ⟨hk.1.1.2.2.1, hk.1.1.2.2.2⟩⟩⟩)⟩
   have n3_ : Qbk (Kd.V k59 59 (w55.setCell ⟨go41, ((ji36) : Int).toNat * 5, none⟩ (.slice Ao577 t576.length co577)) w.heap.size (fun k_ => some k_ ≠ (.slice Ao50 t562.length co50 : Value).ownBlock ∧ some k_ ≠ (.slice (some ⟨go41, 0, none⟩) t568.length co51 : Value).ownBlock ∧ some k_ ≠ (.slice Ao52 t571.length co52 : Value).ownBlock ∧ k_ ≠ gb549 ∧ k_ ≠ gb574) (.slice A575_0 ((Qad t568 (ji36)).f0).length c575_0) ((Qad t568 (ji36)).f0)) := ⟨by (with_reducible repeat (first | apply Kd.V_alloc | apply Kd.V_drewN | apply Kd.V_drew)); exact Kd.V_mono (Kd.V_far (p := ⟨go41, ((ji36) : Int).toNat * 5, none⟩) (Kd.V_mono HL575_0.out (fun k_ hk => (⟨hk, fun e_ => hk.1.2 (by rw [e_]; rfl)⟩ : _ ∧ k_ ≠ go41))) (fun _ hk => hk.2) (.slice Ao577 t576.length co577)) (fun _ hk => ⟨hk.1.1.1.1, ⟨hk.1.1.2, ⟨hk.1.1.1.2.1, ⟨hk.1.1.1.2.2.1, hk.1.1.1.2.2.2⟩⟩⟩⟩)⟩
   have n4_ : Qbk ((w55.setCell ⟨go41, ((ji36) : Int).toNat * 5, none⟩ (.slice Ao577 t576.length co577)).heap[gb549]? = some (.cells #[.int .i64 a0_0, .int .i64 a0_1, .slice A0_2 l0_2.length c0_2, .int .i64 a0_3, .int .i64 a0_4, .int .i64 a0_5, .slice A0_6 l0_6.length c0_6, .slice A0_7 l0_7.length c0_7] 30 (0, 0))) := ⟨by (with_reducible repeat (first | refine bN ?_ _ | refine bD ?_ | refine bA ?_ _)); refine Qd5 ?_ (by have h_ := Kd.N_away O570.out (fun _ hk => hk.1.2.2.1); intro e_; exact h_ (by rw [e_]; rfl)) _; (with_reducible repeat (first | refine bN ?_ _ | refine bD ?_ | refine bA ?_ _)); exact K549.out⟩
   have n5_ : Qbk ((w55.setCell ⟨go41, ((ji36) : Int).toNat * 5, none⟩ (.slice Ao577 t576.length co577)).heap[gb574]? = some (.cells #[.int .i64 t560, .int .i64 t561, .slice Ao50 t562.length co50, .int .i64 t565, .int .i64 t566, .int .i64 (wrap64 (t567 + 1)), .slice (some ⟨go41, 0, none⟩) t568.length co51, .slice Ao52 t571.length co52] 30 (0, 0))) := ⟨by (with_reducible repeat (first | refine bN ?_ _ | refine bD ?_ | refine bA ?_ _)); refine Qd5 ?_ (by have h_ := Kd.N_away O570.out (fun _ hk => hk.1.2.2.2); intro e_; exact h_ (by rw [e_]; rfl)) _; (with_reducible repeat (first | refine bN ?_ _ | refine bD ?_ | refine bA ?_ _)); exact K574.out⟩
   have n6_ : Qbk (Below w.heap.size w (w55.setCell ⟨go41, ((ji36) : Int).toNat * 5, none⟩ (.slice Ao577 t576.length co577))) := ⟨BU HB.out⟩
   (try clear O564)
   (try clear O570)
   (try clear O573)
   (try clear HL575_0)
   (try clear K549)
   (try clear K574)
   (try clear HB)
   generalize (w55.setCell ⟨go41, ((ji36) : Int).toNat * 5, none⟩ (.slice Ao577 t576.length co577)) = w57 at n0_ n1_ n2_ n3_ n4_ n5_ n6_ ⊢
   have O564 := n0_
   have O570 := n1_
   have O573 := n2_
   have HL575_0 := n3_
   have K549 := n4_
   have K574 := n5_
   have HB := n6_
   clear n0_ n1_ n2_ n3_ n4_ n5_ n6_
   have q58_ := cN8 K574.out
   go_wp2_with (first | ((with_reducible refine Qbo (f := 14) rfl ?_); refine goesL_ (some 83) rfl rfl Tryz.func14 (by kernel_rfl) rfl #[.agg #[.int .i64 t560, .int .i64 t561, .slice Ao50 t562.length co50, .int .i64 t565, .int .i64 t566, .int .i64 (wrap64 (t567 + 1)), .slice (some ⟨go41, 0, none⟩) y579.length co51, .slice Ao52 t571.length co52]] rfl (by (try simp only [List.map_toArray, List.map_cons, List.map_nil]); first | done | (rw [show y579.length = t568.length from (Kd.N_reads' O570.out).1.symm] <;> rfl) | rfl | (simp only [List.length_drop, List.length_take]; rfl)) ?_; (with_reducible refine (checker_Check.calls kj4 t560 t561 _ _ t562 t565 t566 (wrap64 (t567 + 1)) _ _ y579 _ _ t571 t580 t581 t582 t583 t584 t585 t586 _ ?side1 ?side2 ?side3 ?side4 ?side5 ?side6 A42.out).mono ?_); (case side1 => exact CU (Kd.N_reads' O564.out).2.2); (case side2 => exact (Kd.N_reads' O564.out).2.1); (case side3 => exact CU (Kd.N_reads' O570.out).2.2); (case side4 => rw [show y579.length = t568.length from (Kd.N_reads' O570.out).1.symm]; exact (Kd.N_reads' O570.out).2.1); (case side5 => exact CU (Kd.N_reads' O573.out).2.2); (case side6 => exact (Kd.N_reads' O573.out).2.1); rintro e w59 ⟨rfl, hb⟩; refine ⟨_, rfl, ?_⟩; replace O564 := As0 (Kd.N_below (by (with_reducible repeat (first | apply Kd.N_alloc | apply Kd.N_drewN | apply Kd.N_drew)); exact O564.out) hb); replace O570 := As0 (Kd.N_below (by (with_reducible repeat (first | apply Kd.N_alloc | apply Kd.N_drewN | apply Kd.N_drew)); exact O570.out) hb); replace O573 := As0 (Kd.N_below (by (with_reducible repeat (first | apply Kd.N_alloc | apply Kd.N_drewN | apply Kd.N_drew)); exact O573.out) hb); replace HL575_0 := As0 (Kd.V_below (by (with_reducible repeat (first | apply Kd.V_alloc | apply Kd.V_drewN | apply Kd.V_drew)); exact HL575_0.out) hb); replace K549 := kB K549 hb; replace K574 := kB K574 hb; replace HB := sB HB hb; (try clear hb)) | ((with_reducible refine gD 11 ?_); refine bX ?_; intro gb587 hg w60 hbox hb; replace O564 := As0 (Kd.N_below (Kd.N_elderB (by (with_reducible repeat (first | apply Kd.N_alloc | apply Kd.N_drewN | apply Kd.N_drew)); exact O564.out) gb587 (Nat.le_of_eq hg.symm)) hb); replace O570 := As0 (Kd.N_below (Kd.N_elderB (by (with_reducible repeat (first | apply Kd.N_alloc | apply Kd.N_drewN | apply Kd.N_drew)); exact O570.out) gb587 (Nat.le_of_eq hg.symm)) hb); replace O573 := As0 (Kd.N_below (Kd.N_elderB (by (with_reducible repeat (first | apply Kd.N_alloc | apply Kd.N_drewN | apply Kd.N_drew)); exact O573.out) gb587 (Nat.le_of_eq hg.symm)) hb); replace HL575_0 := As0 (Kd.V_below (Kd.V_elderB (by (with_reducible repeat (first | apply Kd.V_alloc | apply Kd.V_drewN | apply Kd.V_drew)); exact HL575_0.out) gb587 (Nat.le_of_eq hg.symm)) hb); have K587 := As0 (hbox); have GW587 := gW hg HB.out; replace HB := sB HB hb; have N549_587 := pL hg K549; have N587_549 := pR hg K549; replace K549 := kB K549 hb; have N574_587 := pL hg K574; have N587_574 := pR hg K574; replace K574 := kB K574 hb; clear hb hbox hg; have q63_ := cN7 K587.out) | ((with_reducible refine gate_store (t := 51) (p := 11) rfl ?_); refine store_event (t := 51) (p := 11) (v := ?vo_w64) (w1 := (((((((w60.setCell ⟨gb587, 0, none⟩ (.int .i64 t580)).setCell ⟨gb587, 1, none⟩ (.int .i64 t581)).setCell ⟨gb587, 2, none⟩ (.int .i64 t582)).setCell ⟨gb587, 3, none⟩ (.int .i64 t583)).setCell ⟨gb587, 4, none⟩ (.int .i64 t584)).setCell ⟨gb587, 5, none⟩ (.int .i64 t585)).setCell ⟨gb587, 6, none⟩ (.int .i64 t586))) ?hg ?ho ?hn ?hr ?_; (case ho => rfl); (case hg => rfl); (case hn => rfl); (case hr => first | (go_simp; done) | (go_simp; rfl)); intro w64 hw; replace O564 : Qbk (Kd.N k39 39 w64 w.heap.size (fun k_ => some k_ ≠ (.slice (some ⟨go41, 0, none⟩) t568.length co51 : Value).ownBlock ∧ some k_ ≠ (.slice Ao52 t571.length co52 : Value).ownBlock ∧ k_ ≠ gb549 ∧ k_ ≠ gb574 ∧ k_ ≠ gb587) (.slice Ao50 t562.length co50) t562) := ⟨(by rw [hw]; exact (by (with_reducible repeat (first | apply Kd.N_alloc | apply Kd.N_drewN | apply Kd.N_drew)); exact Kd.N_mono (Kd.N_far (p := ⟨gb587, 6, none⟩) (Kd.N_far (p := ⟨gb587, 5, none⟩) (Kd.N_far (p := ⟨gb587, 4, none⟩) (Kd.N_far (p := ⟨gb587, 3, none⟩) (Kd.N_far (p := ⟨gb587, 2, none⟩) (Kd.N_far (p := ⟨gb587, 1, none⟩) (Kd.N_far (p := ⟨gb587, 0, none⟩) (Kd.N_mono O564.out (fun k_ hk => (⟨hk, hk.2⟩ : _ ∧ k_ ≠ gb587))) (fun _ hk => hk.2) (.int .i64 t580)) (fun _ hk => hk.2) (.int .i64 t581)) (fun _ hk => hk.2) (.int .i64 t582)) (fun _ hk => hk.2) (.int .i64 t583)) (fun _ hk => hk.2) (.int .i64 t584)) (fun _ hk => hk.2) (.int .i64 t585)) (fun _ hk => hk.2) (.int .i64 t586)) (fun _ hk => ⟨hk.1.1.1, ⟨hk.1.1.2.1, ⟨hk.1.1.2.2.1, ⟨hk.1.1.2.2.2, hk.1.2⟩⟩⟩⟩)))⟩; replace O570 : Qbk (Kd.N k57 57 w64 w.heap.size (fun k_ => some k_ ≠ (.slice Ao50 t562.length co50 : Value).ownBlock ∧ some k_ ≠ (.slice Ao52 t571.length co52 : Value).ownBlock ∧ k_ ≠ gb549 ∧ k_ ≠ gb574 ∧ k_ ≠ gb587) (.slice (some ⟨go41, 0, none⟩) t568.length co51) y579) := ⟨(by rw [hw]; exact (by (with_reducible repeat (first | apply Kd.N_alloc | apply Kd.N_drewN | apply Kd.N_drew)); exact Kd.N_mono (Kd.N_far (p := ⟨gb587, 6, none⟩) (Kd.N_far (p := ⟨gb587, 5, none⟩) (Kd.N_far (p := ⟨gb587, 4, none⟩) (Kd.N_far (p := ⟨gb587, 3, none⟩) (Kd.N_far (p := ⟨gb587, 2, none⟩) (Kd.N_far (p := ⟨gb587, 1, none⟩) (Kd.N_far (p := ⟨gb587, 0, none⟩) (Kd.N_mono O570.out (fun k_ hk => (⟨hk, hk.2⟩ : _ ∧ k_ ≠ gb587))) (fun _ hk => hk.2) (.int .i64 t580)) (fun _ hk => hk.2) (.int .i64 t581)) (fun _ hk => hk.2) (.int .i64 t582)) (fun _ hk => hk.2) (.int .i64 t583)) (fun _ hk => hk.2) (.int .i64 t584)) (fun _ hk => hk.2) (.int .i64 t585)) (fun _ hk => hk.2) (.int .i64 t586)) (fun _ hk => ⟨hk.1.1.1, ⟨hk.1.1.2.1, ⟨hk.1.1.2.2.1, ⟨hk.1.1.2.2.2, hk.1.2⟩⟩⟩⟩)))⟩; replace O573 : Qbk (Kd.N (Kd.slice 47 k47) 44 w64 w.heap.size (fun k_ => some k_ ≠ (.slice Ao50 t562.length co50 : Value).ownBlock ∧ some k_ ≠ (.slice (some ⟨go41, 0, none⟩) t568.length co51 : Value).ownBlock ∧ k_ ≠ gb549 ∧ k_ ≠ gb574 ∧ k_ ≠ gb587) (.slice Ao52 t571.length co52) t571) := ⟨(by rw [hw]; exact (by (with_reducible repeat (first | apply Kd.N_alloc | apply Kd.N_drewN | apply Kd.N_drew)); exact Kd.N_mono (Kd.N_far (p := ⟨gb587, 6, none⟩) (Kd.N_far (p := ⟨gb587, 5, none⟩) (Kd.N_far (p := ⟨gb587, 4, none⟩) (Kd.N_far (p := ⟨gb587, 3, none⟩) (Kd.N_far (p := ⟨gb587, 2, none⟩) (Kd.N_far (p := ⟨gb587, 1, none⟩) (Kd.N_far (p := ⟨gb587, 0, none⟩) (Kd.N_mono O573.out (fun k_ hk => (⟨hk, hk.2⟩ : _ ∧ k_ ≠ gb587))) (fun _ hk => hk.2) (.int .i64 t580)) (fun _ hk => hk.2) (.int .i64 t581)) (fun _ hk => hk.2) (.int .i64 t582)) (fun _ hk => hk.2) (.int .i64 t583)) (fun _ hk => hk.2) (.int .i64 t584)) (fun _ hk => hk.2) (.int .i64 t585)) (fun _ hk => hk.2) (.int .i64 t586)) (fun _ hk => ⟨hk.1.1.1, ⟨hk.1.1.2.1, ⟨hk.1.1.2.2.1, ⟨hk.1.1.2.2.2, hk.1.2⟩⟩⟩⟩)))⟩; replace HL575_0 : Qbk (Kd.V k59 59 w64 w.heap.size (fun k_ => some k_ ≠ (.slice Ao50 t562.length co50 : Value).ownBlock ∧ some k_ ≠ (.slice (some ⟨go41, 0, none⟩) t568.length co51 : Value).ownBlock ∧ some k_ ≠ (.slice Ao52 t571.length co52 : Value).ownBlock ∧ k_ ≠ gb549 ∧ k_ ≠ gb574 ∧ k_ ≠ gb587) (.slice A575_0 ((Qad t568 (ji36)).f0).length c575_0) ((Qad t568 (ji36)).f0)) := ⟨(by rw [hw]; exact (by (with_reducible repeat (first | apply Kd.V_alloc | apply Kd.V_drewN | apply Kd.V_drew)); exact Kd.V_mono (Kd.V_far (p := ⟨gb587, 6, none⟩) (Kd.V_far (p := ⟨gb587, 5, none⟩) (Kd.V_far (p := ⟨gb587, 4, none⟩) (Kd.V_far (p := ⟨gb587, 3, none⟩) (Kd.V_far (p := ⟨gb587, 2, none⟩) (Kd.V_far (p := ⟨gb587, 1, none⟩) (Kd.V_far (p := ⟨gb587, 0, none⟩) (Kd.V_mono HL575_0.out (fun k_ hk => (⟨hk, hk.2⟩ : _ ∧ k_ ≠ gb587))) (fun _ hk => hk.2) (.int .i64 t580)) (fun _ hk => hk.2) (.int .i64 t581)) (fun _ hk => hk.2) (.int .i64 t582)) (fun _ hk => hk.2) (.int .i64 t583)) (fun _ hk => hk.2) (.int .i64 t584)) (fun _ hk => hk.2) (.int .i64 t585)) (fun _ hk => hk.2) (.int .i64 t586)) (fun _ hk => ⟨hk.1.1.1, ⟨hk.1.1.2.1, ⟨hk.1.1.2.2.1, ⟨hk.1.1.2.2.2.1, ⟨hk.1.1.2.2.2.2, hk.1.2⟩⟩⟩⟩⟩)))⟩; replace K549 : Qbk (w64.heap[gb549]? = some (.cells #[.int .i64 a0_0, .int .i64 a0_1, .slice A0_2 l0_2.length c0_2, .int .i64 a0_3, .int .i64 a0_4, .int .i64 a0_5, .slice A0_6 l0_6.length c0_6, .slice A0_7 l0_7.length c0_7] 30 (0, 0))) := ⟨(by rw [hw]; exact (kV K549))⟩; replace K574 : Qbk (w64.heap[gb574]? = some (.cells #[.int .i64 t560, .int .i64 t561, .slice Ao50 t562.length co50, .int .i64 t565, .int .i64 t566, .int .i64 (wrap64 (t567 + 1)), .slice (some ⟨go41, 0, none⟩) t568.length co51, .slice Ao52 t571.length co52] 30 (0, 0))) := ⟨(by rw [hw]; exact (kV K574))⟩; replace K587 : Qbk (w64.heap[gb587]? = some (.cells #[.int .i64 t580, .int .i64 t581, .int .i64 t582, .int .i64 t583, .int .i64 t584, .int .i64 t585, .int .i64 t586] 51 (0, 0))) := ⟨(by rw [hw]; exact (kV K587))⟩; replace HB : Qbk (Below w.heap.size w w64) := ⟨(by rw [hw]; exact (BU HB.out))⟩; clear hw; have q65_ := cN8 K574.out; have p588 : 0 ≤ ((ji36) : Int) := qR; have q588 : (ji36) < (y579.length : Int) := (by have h_ : ((ji36) : Int) < ((t568.length : Int) : Int) := qR; first | (have e_ := (Kd.N_reads' O570.out).1; omega) | simpa only [Ny579.out, List.length_set] using h_); have ql588 : (((ji36) : Int) < ((t568.length : Int) : Int)) = True := eq_true (qR); obtain ⟨ad588, A588_0, c588_0, e588, hx588_0, hx588_1, hx588_2, hx588_3, hx588_4, hl588_0, hi588_0⟩ := Qej (Kd.N_reads' O570.out).2.2 (ji36) p588 q588; obtain rfl : (⟨go41, 0, none⟩ : Addr) = ad588 := (by injection e588); obtain ⟨ce588, hce588, hMe588, hcc588⟩ := Kd.N_get O570.out z57 (ji36) p588 (by first | exact q588 | exact qR | (have e_ := (Kd.N_reads' O570.out).1; omega)); obtain ⟨ua588_0, uc588_0, rfl, ul588_0, ge588_0⟩ := k57_openF hMe588; have hv588_0 := hcc588 0 _ rfl; rw [Nat.add_zero] at hv588_0; replace hv588_0 := Option.some.inj (hv588_0.symm.trans hx588_0); injection hv588_0 with hva_ hvn_ hvc_; rw [hva_] at ge588_0; rw [hvc_] at ul588_0; have HL588_0 := As0 (show Kd.V k59 59 _ w.heap.size _ _ ((Qad y579 (ji36)).f0) from Kd.V_mk ul588_0 ge588_0); clear hva_ hvn_ hvc_ ge588_0 ul588_0 hcc588 hce588; (first | simp only [Qcv] at hx588_0 | simp only [add_at] at hx588_0 | simp only [Addr.add, Nat.zero_add] at hx588_0 | skip); (first | simp only [Qcv] at hx588_1 | simp only [add_at] at hx588_1 | simp only [Addr.add, Nat.zero_add] at hx588_1 | skip); (first | simp only [Qcv] at hx588_2 | simp only [add_at] at hx588_2 | simp only [Addr.add, Nat.zero_add] at hx588_2 | skip); (first | simp only [Qcv] at hx588_3 | simp only [add_at] at hx588_3 | simp only [Addr.add, Nat.zero_add] at hx588_3 | skip); (first | simp only [Qcv] at hx588_4 | simp only [add_at] at hx588_4 | simp only [Addr.add, Nat.zero_add] at hx588_4 | skip); have R588_0 := As0 hi588_0; have C588_0 := As0 hl588_0; clear hi588_0 hl588_0; replace p588 := eq_true p588; replace q588 := eq_true q588) | ((with_reducible refine Qbo (f := 16) rfl ?_); refine goesL_ (some 91) rfl rfl Tryz.func16 (by kernel_rfl) rfl #[.slice A588_0 ((Qad y579 (ji36)).f0).length c588_0] rfl (by (try simp only [List.map_toArray, List.map_cons, List.map_nil]); first | done | (simp only [hji36]; rfl) | rfl | (simp only [List.length_drop, List.length_take]; rfl)) ?_; (with_reducible refine (Qaf.calls kj4 _ _ ((Qad y579 (ji36)).f0) t589 _ ?side1 ?side2 A43.out).mono ?_); (case side1 => exact CU (by repeat (first | (with_reducible exact R588_0.out) | (with_reducible refine Kd.C_alloc ?_ _) | (with_reducible refine Kd.C_drewN ?_ _) | (with_reducible refine Kd.C_drew ?_) | exact R588_0.out))); (case side2 => exact C588_0.out); rintro e w' ⟨rfl, ⟨nd, rfl⟩⟩; refine ⟨_, rfl, ?_⟩; have q66_ := cN7 K587.out))
   all_goals (have H := H2_.out; (first | rw [if_pos (by assumption)] at H | rw [if_neg (by omega)] at H); obtain rfl := Option.some.inj H; go_ret; exact ⟨by first | rfl | (simp [Qbe, Qbd] <;> rfl) | (simp only [← hji36]; first | rfl | (simp [Qbe, Qbd] <;> rfl)) | (simp [*, Qbe, Qbd] <;> rfl), BU HB.out⟩)
end Go.Proofs.YtchpkjgibloleaaGreat.Z
namespace Go.Proofs.YtchpkjgibloleaaGreat.Open
set_option maxRecDepth 100000
set_option maxHeartbeats 8000000
open Go.RowKit Go.ChangeShapes Go.WideShapes Go.Proofs.YtchpkjgibloleaaGreatW.PrintWords
def Qet (P : Program) (t : TypeId) {α : Type} (d : Kd α) (good : α → Prop) : Prop :=
 ∀ {H : Type} (enc : TypeId × Value → H) (w : World) (fuel : Nat) (cs : List Value) (x : DataW H × List MemPlace),
  DataW.trod enc P w 0 (fun _ => true) true fuel t cs = some x → ∃ a : α, d.K w a cs ∧ good a
theorem Qb6 {P : Program} {t : TypeId} {k : IntKind} (ht : P.underlying t = some (.int k)) : Qet P t (Kd.int k) (fun n => (Lit.int k n).wf = true) := by
 intro H enc w fuel cs x h
 obtain ⟨n, rfl, _, hw⟩ := DataW.trod_int ht h
 exact ⟨n, rfl, hw⟩
theorem cells_read {w : World} {a : Addr} {n : Nat} {cs : List Value} (h : w.cells? 0 a n = some cs) : cs.length = n ∧ ∀ i u, cs[i]? = some u → w.cell? (a.add i) = some u := by
 obtain ⟨h1, h2, h3⟩ := World.cells?_some h
 refine ⟨h2, fun i u hu => ?_⟩
 have hi : i < cs.length := (List.getElem?_eq_some_iff.1 hu).1
 have := h3 i (by omega)
 rw [hu] at this
 exact this
theorem list_of_index {α : Type} {len : Nat} {p : Nat → α → Prop} (h : ∀ i, i < len → ∃ x, p i x) : ∃ xs : List α, xs.length = len ∧ ∀ i x, xs[i]? = some x → p i x := by
 induction len with
 | zero => exact ⟨[], rfl, fun i p hp => by simp at hp⟩
 | succ q ih =>
  obtain ⟨xs, hxs, hr⟩ := ih (fun i hi => h i (by omega))
  obtain ⟨p, hp⟩ := h q (by omega)
  refine ⟨xs ++ [p], by simp [hxs], fun i p' hi => ?_⟩
  rcases Nat.lt_or_ge i xs.length with hlt | hge
  ·rw [List.getElem?_append_left hlt] at hi
   exact hr i p' hi
  ·have hiq : i = q := by
     have := (List.getElem?_eq_some_iff.1 hi).1
     simp at this
     omega
   subst hiq
   rw [List.getElem?_append_right hge] at hi
   simp [hxs] at hi
   subst hi
   exact hp
theorem Qdd {P : Program} {t e : TypeId} {α : Type} {d : Kd α} {good : α → Prop} (ht : P.underlying t = some (.slice e)) (hc : P.cellsOf e = d.sz) (he : Qet P e d good) :
    Qet P t (Kd.slice e d) (fun xs => xs.length ≤ maxLen ∧ ∀ x ∈ xs, good x) := by
 intro H enc w fuel cs x h
 rcases Go.Deep.open_slice ht h with ⟨rfl, _⟩ | ⟨a, len, cap, m, n, D, Pl, rfl, _, hl, hm, hmm, _, hx⟩
 ·exact ⟨[], ⟨none, 0, rfl, Nat.le_refl _, rfl, by simp, fun hp => absurd hp (by simp)⟩, by simp⟩
 ·have hlm : len ≤ m := by rw [hmm]; simp only [if_true]; exact hl
  have hall : ∀ i, i < len → ∃ p : α, good p ∧ ∃ c, c.length = d.sz ∧ d.K w p c ∧ ∀ j u, c[j]? = some u → w.cell? (a.add (i * d.sz + j)) = some u := by
   intro i hi
   obtain ⟨cs', h1, h2⟩ := hx i (by omega)
   obtain ⟨p, hp, hg⟩ := he enc w n cs' _ h2
   obtain ⟨h3, h4⟩ := cells_read h1
   refine ⟨p, hg, cs', by rw [h3, hc], hp, fun j u hu => ?_⟩
   have := h4 j u hu
   rw [Go.Deep.add_add, hc] at this
   exact this
  have key := list_of_index hall
  obtain ⟨xs, rfl, hr⟩ := key
  refine ⟨xs, ⟨some a, cap, rfl, hl, rfl, by have := hm; unfold maxLen at this; omega, fun _ => ⟨a, rfl, fun j p hj => (hr j p hj).2⟩⟩, by omega, fun x hx => ?_⟩
  obtain ⟨i, hi, rfl⟩ := List.getElem_of_mem hx
  exact (hr i _ (List.getElem?_eq_getElem hi)).1
def OpensFs (P : Program) (fs : List Field) (off : Nat) {α : Type} (d : Kd α) (good : α → Prop) : Prop :=
 ∀ {H : Type} (enc : TypeId × Value → H) (w : World) (fuel : Nat) (cs : List Value) (xs : List (DataW H × List MemPlace)),
  fs.mapM (fun f => DataW.trod enc P w 0 (fun _ => true) true fuel f.type ((cs.drop f.offset).take (P.cellsOf f.type))) = some xs → cs.length = off + d.sz → ∃ a : α, d.K w a (cs.drop off) ∧ good a
theorem Qcx {P : Program} {f : Field} {off : Nat} {α : Type} {d : Kd α} {good : α → Prop} (ho : f.offset = off) (hc : P.cellsOf f.type = d.sz) (h : Qet P f.type d good) : OpensFs P [f] off d good := by
 intro H enc w fuel cs xs hx hl
 simp only [List.mapM_cons, List.mapM_nil, Option.bind_eq_bind, Option.pure_def, Option.bind_eq_some_iff] at hx
 obtain ⟨y, hy, _⟩ := hx
 rw [ho, hc, List.take_of_length_le (by rw [List.length_drop]; omega)] at hy
 exact h enc w fuel _ _ hy
theorem Qb0 {P : Program} {f : Field} {fs : List Field} {off : Nat} {α β : Type} {d : Kd α} {e : Kd β} {good : α → Prop} {goods : β → Prop} (ho : f.offset = off) (hc : P.cellsOf f.type = d.sz) (h : Qet P f.type d good) (hs : OpensFs P fs (off + d.sz) e goods) :
    OpensFs P (f :: fs) off (Kd.pair d e) (fun x => good x.1 ∧ goods x.2) := by
 intro H enc w fuel cs xs hx hl
 simp only [List.mapM_cons, Option.bind_eq_bind, Option.pure_def, Option.bind_eq_some_iff] at hx
 obtain ⟨y, hy, ys, hys, _⟩ := hx
 rw [ho, hc] at hy
 have hl' : cs.length = off + d.sz + e.sz := by rw [hl]; show off + (d.sz + e.sz) = _; omega
 obtain ⟨a, ha, ga⟩ := h enc w fuel _ _ hy
 obtain ⟨b, hb, gb⟩ := hs enc w fuel cs ys hys hl'
 refine ⟨(a, b), ⟨(cs.drop off).take d.sz, cs.drop (off + d.sz), ?_, ha, hb⟩, ga, gb⟩
 rw [← List.drop_drop, List.take_append_drop]
theorem Qcj {P : Program} {t : TypeId} {fs : Array Field} {α β : Type} {d : Kd α} {good : α → Prop} (ht : P.underlying t = some (.struct fs)) (hc : P.cellsOf t = d.sz) (h : OpensFs P fs.toList 0 d good) (f : β → α) (g : α → β) (hfg : ∀ a, f (g a) = a) :
    Qet P t (Kd.iso d f) (fun x => good (f x)) := by
 intro H enc w fuel cs x hx
 cases fuel with
 | zero => exact absurd hx (by simp [DataW.trod])
 | succ n =>
  rw [DataW.trod_step] at hx
  unfold DataW.trodStep at hx
  simp only [ht] at hx
  split at hx
  ·rename_i hl
   obtain ⟨xs, hxs, _⟩ := Option.map_eq_some_iff.1 hx
   obtain ⟨a, ha, ga⟩ := h enc w n cs xs hxs (by rw [hl, hc]; omega)
   refine ⟨g a, ?_, by show good (f (g a)); rw [hfg]; exact ga⟩
   show d.K w (f (g a)) cs
   rw [hfg]
   simpa using ha
  ·exact absurd hx (by simp)
section
variable {H : Type} {enc : TypeId × Value → H} {P : Program} {W : World} {b0 : Nat}
theorem arg_struct {t : TypeId} {fs : Array Field} {α : Type} {d : Kd α} {good : α → Prop} {v : Value} {dd : DataW H} {p : List MemPlace} (ht : P.underlying t = some (.struct fs)) (ho : Qet P t d good) (hv : Value.okWide P W .any b0 t v) (h : DataW.Trod enc P W 0 (fun _ => true) true t v dd p) :
    ∃ (cs : List Value) (x : α), v = .agg cs.toArray ∧ d.K W x cs ∧ good x := by
 obtain ⟨cs, rfl, hsz⟩ := okWide_struct ht hv
 obtain ⟨fuel, hf⟩ := h
 obtain ⟨x, hk, hg⟩ := ho enc W fuel _ _ hf
 exact ⟨cs.toList, x, by simp, hk, hg⟩
end
end Go.Proofs.YtchpkjgibloleaaGreat.Open
namespace Go.Proofs.YtchpkjgibloleaaGreat.Z
set_option maxRecDepth 100000
set_option maxHeartbeats 8000000
open Go.RowKit Go.Proofs.YtchpkjgibloleaaGreatW.PrintWords Go.Proofs.YtchpkjgibloleaaGreatW.PrintLast Go.Proofs.YtchpkjgibloleaaGreatW.PrintMore
attribute [local go_sem] Qb3 Qb8
open Go.Proofs.YtchpkjgibloleaaGreat.Open Go.ChangeShapes
def good41 (x : S41) : Prop := (fun n_ : Int => (Lit.int .i64 n_).wf = true) x.f0 ∧ (fun n_ : Int => (Lit.int .i64 n_).wf = true) x.f1 ∧ (fun n_ : Int => (Lit.int .i64 n_).wf = true) x.f2 ∧ (fun n_ : Int => (Lit.int .i64 n_).wf = true) x.f3 ∧ (fun n_ : Int => (Lit.int .i64 n_).wf = true) x.f4
theorem opens41 : Qet Tryz.prog 41 k41 good41 := Qcj Tryz.underlying41 (by kernel_rfl) (Qb0 rfl (by kernel_rfl) (Qb6 Tryz.underlying3) (Qb0 rfl (by kernel_rfl) (Qb6 Tryz.underlying3) (Qb0 rfl (by kernel_rfl) (Qb6 Tryz.underlying3) (Qb0 rfl (by kernel_rfl) (Qb6 Tryz.underlying3) (Qcx rfl (by kernel_rfl) (Qb6 Tryz.underlying2)))))) (fun x : S41 => (x.f0, x.f1, x.f2, x.f3, x.f4)) (fun a => ⟨a.1, a.2.1, a.2.2.1, a.2.2.2.1, a.2.2.2.2⟩) (fun _ => rfl)
def good37 (x : S37) : Prop := (fun n_ : Int => (Lit.int .i64 n_).wf = true) x.f0 ∧ (fun n_ : Int => (Lit.int .i64 n_).wf = true) x.f1 ∧ (fun n_ : Int => (Lit.int .i64 n_).wf = true) x.f2 ∧ (fun n_ : Int => (Lit.int .i64 n_).wf = true) x.f3
theorem opens37 : Qet Tryz.prog 37 k37 good37 := Qcj Tryz.underlying37 (by kernel_rfl) (Qb0 rfl (by kernel_rfl) (Qb6 Tryz.underlying3) (Qb0 rfl (by kernel_rfl) (Qb6 Tryz.underlying3) (Qb0 rfl (by kernel_rfl) (Qb6 Tryz.underlying3) (Qcx rfl (by kernel_rfl) (Qb6 Tryz.underlying3))))) (fun x : S37 => (x.f0, x.f1, x.f2, x.f3)) (fun a => ⟨a.1, a.2.1, a.2.2.1, a.2.2.2⟩) (fun _ => rfl)
def good39 (x : S39) : Prop := (fun xs_ : List S41 => xs_.length ≤ maxLen ∧ ∀ x_ ∈ xs_, good41 x_) x.f0 ∧ good37 x.f1
theorem opens39 : Qet Tryz.prog 39 k39 good39 := Qcj Tryz.underlying39 (by kernel_rfl) (Qb0 rfl (by kernel_rfl) (Qdd Tryz.underlying35 (by kernel_rfl) opens41) (Qcx rfl (by kernel_rfl) opens37)) (fun x : S39 => (x.f0, x.f1)) (fun a => ⟨a.1, a.2⟩) (fun _ => rfl)
def good24 (x : S24) : Prop := (fun n_ : Int => (Lit.int .i64 n_).wf = true) x.f0 ∧ (fun n_ : Int => (Lit.int .i64 n_).wf = true) x.f1 ∧ (fun xs_ : List S39 => xs_.length ≤ maxLen ∧ ∀ x_ ∈ xs_, good39 x_) x.f2
theorem opens24 : Qet Tryz.prog 24 k24 good24 := Qcj Tryz.underlying24 (by kernel_rfl) (Qb0 rfl (by kernel_rfl) (Qb6 Tryz.underlying3) (Qb0 rfl (by kernel_rfl) (Qb6 Tryz.underlying3) (Qcx rfl (by kernel_rfl) (Qdd Tryz.underlying22 (by kernel_rfl) opens39)))) (fun x : S24 => (x.f0, x.f1, x.f2)) (fun a => ⟨a.1, a.2.1, a.2.2⟩) (fun _ => rfl)
def good59 (x : S59) : Prop := (fun n_ : Int => (Lit.int .i64 n_).wf = true) x.f0 ∧ (fun n_ : Int => (Lit.int .i64 n_).wf = true) x.f1 ∧ (fun n_ : Int => (Lit.int .i64 n_).wf = true) x.f2 ∧ (fun n_ : Int => (Lit.int .i64 n_).wf = true) x.f3 ∧ (fun n_ : Int => (Lit.int .i64 n_).wf = true) x.f4 ∧ (fun n_ : Int => (Lit.int .i64 n_).wf = true) x.f5 ∧ (fun n_ : Int => (Lit.int .i64 n_).wf = true) x.f6
theorem opens59 : Qet Tryz.prog 59 k59 good59 := Qcj Tryz.underlying59 (by kernel_rfl) (Qb0 rfl (by kernel_rfl) (Qb6 Tryz.underlying3) (Qb0 rfl (by kernel_rfl) (Qb6 Tryz.underlying3) (Qb0 rfl (by kernel_rfl) (Qb6 Tryz.underlying3) (Qb0 rfl (by kernel_rfl) (Qb6 Tryz.underlying3) (Qb0 rfl (by kernel_rfl) (Qb6 Tryz.underlying2) (Qb0 rfl (by kernel_rfl) (Qb6 Tryz.underlying45) (Qcx rfl (by kernel_rfl) (Qb6 Tryz.underlying45)))))))) (fun x : S59 => (x.f0, x.f1, x.f2, x.f3, x.f4, x.f5, x.f6)) (fun a => ⟨a.1, a.2.1, a.2.2.1, a.2.2.2.1, a.2.2.2.2.1, a.2.2.2.2.2.1, a.2.2.2.2.2.2⟩) (fun _ => rfl)
def good57 (x : S57) : Prop := (fun xs_ : List S59 => xs_.length ≤ maxLen ∧ ∀ x_ ∈ xs_, good59 x_) x.f0 ∧ good37 x.f1
theorem opens57 : Qet Tryz.prog 57 k57 good57 := Qcj Tryz.underlying57 (by kernel_rfl) (Qb0 rfl (by kernel_rfl) (Qdd Tryz.underlying54 (by kernel_rfl) opens59) (Qcx rfl (by kernel_rfl) opens37)) (fun x : S57 => (x.f0, x.f1)) (fun a => ⟨a.1, a.2⟩) (fun _ => rfl)
def good27 (x : S27) : Prop := (fun n_ : Int => (Lit.int .i64 n_).wf = true) x.f0 ∧ (fun n_ : Int => (Lit.int .i64 n_).wf = true) x.f1 ∧ (fun n_ : Int => (Lit.int .i64 n_).wf = true) x.f2 ∧ (fun xs_ : List S57 => xs_.length ≤ maxLen ∧ ∀ x_ ∈ xs_, good57 x_) x.f3
theorem opens27 : Qet Tryz.prog 27 k27 good27 := Qcj Tryz.underlying27 (by kernel_rfl) (Qb0 rfl (by kernel_rfl) (Qb6 Tryz.underlying3) (Qb0 rfl (by kernel_rfl) (Qb6 Tryz.underlying3) (Qb0 rfl (by kernel_rfl) (Qb6 Tryz.underlying3) (Qcx rfl (by kernel_rfl) (Qdd Tryz.underlying25 (by kernel_rfl) opens57))))) (fun x : S27 => (x.f0, x.f1, x.f2, x.f3)) (fun a => ⟨a.1, a.2.1, a.2.2.1, a.2.2.2⟩) (fun _ => rfl)
def good47 (x : S47) : Prop := (fun n_ : Int => (Lit.int .i64 n_).wf = true) x.f0 ∧ (fun n_ : Int => (Lit.int .i64 n_).wf = true) x.f1
theorem opens47 : Qet Tryz.prog 47 k47 good47 := Qcj Tryz.underlying47 (by kernel_rfl) (Qb0 rfl (by kernel_rfl) (Qb6 Tryz.underlying3) (Qcx rfl (by kernel_rfl) (Qb6 Tryz.underlying45))) (fun x : S47 => (x.f0, x.f1)) (fun a => ⟨a.1, a.2⟩) (fun _ => rfl)
def good30 (x : S30) : Prop := good24 x.f0 ∧ good27 x.f1 ∧ (fun xs_ : List (List (S47)) => xs_.length ≤ maxLen ∧ ∀ x_ ∈ xs_, (fun xs_ : List S47 => xs_.length ≤ maxLen ∧ ∀ x_ ∈ xs_, good47 x_) x_) x.f2
theorem opens30 : Qet Tryz.prog 30 k30 good30 := Qcj Tryz.underlying30 (by kernel_rfl) (Qb0 rfl (by kernel_rfl) opens24 (Qb0 rfl (by kernel_rfl) opens27 (Qcx rfl (by kernel_rfl) (Qdd Tryz.underlying28 (by kernel_rfl) (Qdd Tryz.underlying44 (by kernel_rfl) opens47))))) (fun x : S30 => (x.f0, x.f1, x.f2)) (fun a => ⟨a.1, a.2.1, a.2.2⟩) (fun _ => rfl)
end Go.Proofs.YtchpkjgibloleaaGreat.Z
namespace Go.Proofs.YtchpkjgibloleaaGreat.wholeSpareSlot
set_option maxRecDepth 100000
set_option maxHeartbeats 8000000
open Go.ChangeShapes Go.WideShapes Go.ChangeAt Go.RowKit Go.Proofs.YtchpkjgibloleaaGreat.Open Go.Proofs.YtchpkjgibloleaaGreat.Z Go.Proofs.YtchpkjgibloleaaGreatW.PrintWords
theorem own : ownKnob Tryz.prog.godebug = none := by kernel_rfl
theorem laidOut : laidOutB Tryz.prog = true := by kernel_rfl
theorem lifted (PURE : ∀ (x0 : S30) (a1 : Int) (a2 : Int) (a3 : Int), good30 x0 → (fun n_ : Int => (Lit.int .u8 n_).wf = true) a1 → (fun n_ : Int => (Lit.int .u8 n_).wf = true) a2 → (fun n_ : Int => (Lit.int .u8 n_).wf = true) a3 → ∃ k, Qac.f k x0.f0.f0 x0.f0.f1 x0.f0.f2 x0.f1.f0 x0.f1.f1 x0.f1.f2 x0.f1.f3 x0.f2 a1 a2 a3 = some true) (os : Os) (started : os.Started) (H : Type) (enc : TypeId × Value → H) :
    ReturnsInHanded {} Tryz.checked os 5 .any (Rows.wholeSpareSlotSpec.pre6 enc Tryz.prog Tryz.f5 Rows.wholeSpareSlotRow.domain false) (Rows.wholeSpareSlotSpec.post enc Tryz.prog Tryz.f5 false true false false) := by
 refine returnsInHanded_of_change_sized (C := Tryz.checked) own started (by kernel_rfl) Tryz.func5
  (ChangeSpec.witness6 (enc := enc) (C := Tryz.checked) false ⟨#[], #[(.agg #[(.int .i64 0), (.int .i64 0), (.slice none 0 0), (.int .i64 0), (.int .i64 0), (.int .i64 0), (.slice none 0 0), (.slice none 0 0)]), (.int .u8 0), (.int .u8 0), (.int .u8 0)], []⟩ 8 (by kernel_rfl) (by kernel_rfl) (by kernel_rfl) (by kernel_rfl)) ?_
 intro W base args ds gs before hval0 hW hcnd hsz0 _
 have hval : ∀ (j : Nat) t v, Tryz.f5.params[j]? = some t → args[j]? = some v → Value.okWide Tryz.prog W .any base t v := hval0
 have hW' := hW
 obtain ⟨p, q, hA0, hV, rfl, hfz, hnd⟩ := hW
 have hA : DataW.TrodAll enc Tryz.prog W 0 (fun _ => true) true Tryz.f5.params.toList args.toList ds p := hA0
 rw [Tryz.params5] at hA hval
 obtain ⟨v0, vs0, d0, ds0, p0, q0, hargs, rfl, rfl, h0, r0⟩ := trodAll_cons hA
 obtain ⟨v1, vs1, d1, ds1, p1, q1, rfl, rfl, rfl, h1, r1⟩ := trodAll_cons r0
 obtain ⟨v2, vs2, d2, ds2, p2, q2, rfl, rfl, rfl, h2, r2⟩ := trodAll_cons r1
 obtain ⟨v3, vs3, d3, ds3, p3, q3, rfl, rfl, rfl, h3, r3⟩ := trodAll_cons r2
 obtain ⟨rfl, rfl, rfl⟩ := trodAll_nil r3
 obtain rfl : args = #[v0, v1, v2, v3] := by cases args; simp_all
 obtain ⟨rfl, rfl⟩ := trodVars_none hV
 have k0 := h0
 have lt0 : ∀ x ∈ p0, x.block < W.heap.size := by obtain ⟨m, hm⟩ := k0; exact DataW.trod_lt m _ _ _ hm
 obtain ⟨cs0, x0, rfl, hk0, g0⟩ := arg_struct Tryz.underlying30 opens30 (hval 0 30 v0 rfl rfl) h0
 obtain ⟨A0_2, c0_2, A0_6, c0_6, A0_7, c0_7, rfl, hl0_2, hC0_2, hl0_6, hC0_6, hl0_7, hC0_7⟩ := k30_open hk0
 have k1 := h1
 have lt1 : ∀ x ∈ p1, x.block < W.heap.size := by obtain ⟨m, hm⟩ := k1; exact DataW.trod_lt m _ _ _ hm
 obtain ⟨a1, rfl, rfl, rfl, g1⟩ := open_int Tryz.underlying5 (hval 1 5 v1 rfl rfl) h1
 have k2 := h2
 have lt2 : ∀ x ∈ p2, x.block < W.heap.size := by obtain ⟨m, hm⟩ := k2; exact DataW.trod_lt m _ _ _ hm
 obtain ⟨a2, rfl, rfl, rfl, g2⟩ := open_int Tryz.underlying5 (hval 2 5 v2 rfl rfl) h2
 have k3 := h3
 have lt3 : ∀ x ∈ p3, x.block < W.heap.size := by obtain ⟨m, hm⟩ := k3; exact DataW.trod_lt m _ _ _ hm
 obtain ⟨a3, rfl, rfl, rfl, g3⟩ := open_int Tryz.underlying5 (hval 3 5 v3 rfl rfl) h3
 clear hA0 hval0 hsz0
 obtain ⟨k, hf⟩ := PURE x0 a1 a2 a3 g0 g1 g2 g3
 refine (Qac.calls k (x0.f0.f0) (x0.f0.f1) A0_2 c0_2 (x0.f0.f2) (x0.f1.f0) (x0.f1.f1) (x0.f1.f2) A0_6 c0_6 (x0.f1.f3) A0_7 c0_7 (x0.f2) a1 a2 a3 true W hC0_2 hl0_2 hC0_6 hl0_6 hC0_7 hl0_7 hf).mono fun e W' ⟨he, bel0⟩ => ?_
 have bel := bel0
 subst he
 exact ⟨_, rfl, _, _, _, [], _, [], hW', trodAll_mk1 (shut_bool Tryz.underlying4 _), (trodAll_cons_mk (Below.trod laidOut (by kernel_rfl) (of_decide_eq_true (by kernel_rfl)) k0 bel lt0) (trodAll_cons_mk (Below.trod laidOut (by kernel_rfl) (of_decide_eq_true (by kernel_rfl)) k1 bel lt1) (trodAll_cons_mk (Below.trod laidOut (by kernel_rfl) (of_decide_eq_true (by kernel_rfl)) k2 bel lt2) (trodAll_cons_mk (Below.trod laidOut (by kernel_rfl) (of_decide_eq_true (by kernel_rfl)) k3 bel lt3) trodAll_mk0)))), rfl, bel.frame _, fun h => by cases h⟩
theorem over (PURE : ∀ (x0 : S30) (a1 : Int) (a2 : Int) (a3 : Int), good30 x0 → (fun n_ : Int => (Lit.int .u8 n_).wf = true) a1 → (fun n_ : Int => (Lit.int .u8 n_).wf = true) a2 → (fun n_ : Int => (Lit.int .u8 n_).wf = true) a3 → ∃ k, Qac.f k x0.f0.f0 x0.f0.f1 x0.f0.f2 x0.f1.f0 x0.f1.f1 x0.f1.f2 x0.f1.f3 x0.f2 a1 a2 a3 = some true) : Rows.wholeSpareSlotRow.holds Tryz.pinned (OpenSpec.ofChange Rows.wholeSpareSlotSpec) :=
 OpenClaim.holds_of_wide 5 Tryz.f5 rfl rfl rfl rfl rfl rfl rfl ⟨rfl, rfl, rfl, rfl, rfl⟩ rfl rfl rfl rfl rfl (by kernel_rfl) Tryz.func5 (by kernel_rfl)
  (of_decide_eq_true (by kernel_rfl)) (by unfold Func.isWrapper; first | (rw [if_pos (by decide +kernel)]; kernel_rfl) | (rw [if_neg (by decide +kernel)]; exact ⟨rfl, rfl⟩))
  (fun os started H enc _ => lifted PURE os started H enc)
end Go.Proofs.YtchpkjgibloleaaGreat.wholeSpareSlot
namespace Go.Proofs.YtchpkjgibloleaaGreat.Z
set_option maxRecDepth 100000
set_option maxHeartbeats 8000000
open Go.RowKit Go.Proofs.YtchpkjgibloleaaGreatW.PrintWords Go.Proofs.YtchpkjgibloleaaGreatW.PrintLast Go.Proofs.YtchpkjgibloleaaGreatW.PrintMore
attribute [local go_sem] Qb3 Qb8
theorem w64i {n : Int} (h1 : -9223372036854775808 ≤ n) (h2 : n ≤ 9223372036854775807) : wrap64 n = n := by unfold wrap64; omega
theorem Ev.pos {α : Type} {c : Prop} [Decidable c] {f g : Nat → Option α} {r : α} (h : c) (k : Ev f r) : Ev (fun n => if c then f n else g n) r := by
 obtain ⟨K, k⟩ := k
 exact ⟨K, fun n hn => by simp only [if_pos h]; exact k n hn⟩
theorem Ev.neg {α : Type} {c : Prop} [Decidable c] {f g : Nat → Option α} {r : α} (h : ¬ c) (k : Ev g r) : Ev (fun n => if c then f n else g n) r := by
 obtain ⟨K, k⟩ := k
 exact ⟨K, fun n hn => by simp only [if_neg h]; exact k n hn⟩
theorem Ev.val {α : Type} {v r : α} (h : v = r) : Ev (fun _ => some v) r := ⟨0, fun _ _ => by rw [h]⟩
theorem Ev.then {α β : Type} {g : Nat → Option α} {f : Nat → α → Option β} {a : α} {r : β} (h : Ev g a) (k : Ev (fun n => f n a) r) : Ev (fun n => (g n).bind (f n)) r := by
 obtain ⟨K, h⟩ := h
 obtain ⟨L, k⟩ := k
 exact ⟨K + L, fun n hn => by show (g n).bind (f n) = some r; rw [h n (by omega)]; exact k n (by omega)⟩
theorem Ev.up {α : Type} {f g : Nat → Option α} {r : α} (h : ∀ k, f (k + 1) = g k) (k : Ev g r) : Ev f r := by
 obtain ⟨K, k⟩ := k
 exact ⟨K + 1, fun n hn => by obtain ⟨m, rfl⟩ : ∃ m, n = m + 1 := ⟨n - 1, by omega⟩; rw [h]; exact k m (by omega)⟩
theorem code07_ev (a r : Int) (l : List S39) (hl : l.length ≤ 9223372036854775807) : ∀ (n i : Nat) (x : Int), l.length - i = n → i ≤ l.length → ∃ v, Ev (fun k => Qbh.l0 k x (i : Int) a r l) v := by
 intro n
 induction n with
 | zero =>
  intro i x hn hi
  refine ⟨x, Ev.up (g := fun k => _) (fun k => rfl) ?_⟩
  exact Ev.neg (by omega) (Ev.val rfl)
 | succ n ih =>
  intro i x hn hi
  have hw : wrap64 ((i : Int) + 1) = ((i + 1 : Nat) : Int) := by rw [w64i (by omega) (by omega)]; omega
  obtain ⟨v, hv⟩ := ih (i + 1) (wrap64 (x + (((Qam l i).f0).length : Int))) (by omega) (by omega)
  refine ⟨v, Ev.up (g := fun k => _) (fun k => rfl) (Ev.pos (by omega) (Ev.pos (by omega) ?_))⟩
  rw [hw]; exact hv
theorem code08_ev (a r s : Int) (l : List S57) (hl : l.length ≤ 9223372036854775807) : ∀ (n i : Nat) (x : Int), l.length - i = n → i ≤ l.length → ∃ v, Ev (fun k => Qbg.l0 k x (i : Int) a r s l) v := by
 intro n
 induction n with
 | zero =>
  intro i x hn hi
  refine ⟨x, Ev.up (g := fun k => _) (fun k => rfl) ?_⟩
  exact Ev.neg (by omega) (Ev.val rfl)
 | succ n ih =>
  intro i x hn hi
  have hw : wrap64 ((i : Int) + 1) = ((i + 1 : Nat) : Int) := by rw [w64i (by omega) (by omega)]; omega
  obtain ⟨v, hv⟩ := ih (i + 1) (wrap64 (x + (((Qad l i).f0).length : Int))) (by omega) (by omega)
  refine ⟨v, Ev.up (g := fun k => _) (fun k => rfl) (Ev.pos (by omega) (Ev.pos (by omega) ?_))⟩
  rw [hw]; exact hv
theorem j07_true (a r : Int) (l : List S39) : Ev (fun k => Qaw.j0 k true a r l) false := ⟨1, fun n hn => by obtain ⟨m, rfl⟩ : ∃ m, n = m + 1 := ⟨n - 1, by omega⟩; rfl⟩
theorem j08_true (a r s : Int) (l : List S57) : Ev (fun k => Qat.j0 k true a r s l) false := ⟨1, fun n hn => by obtain ⟨m, rfl⟩ : ∃ m, n = m + 1 := ⟨n - 1, by omega⟩; rfl⟩
theorem j15_false (l : List (List S47)) (i : Int) : Ev (fun k => Qa4.j1 k l i false) (decide ((l.length : Int) ≤ 40)) := ⟨1, fun n hn => by obtain ⟨m, rfl⟩ : ∃ m, n = m + 1 := ⟨n - 1, by omega⟩; rfl⟩
theorem few07_ev (a r : Int) (l : List S39) (hl : l.length ≤ 9223372036854775807) : ∀ (n i : Nat), l.length - i = n → i ≤ l.length →
    ∃ b, Ev (fun k => Qaw.l0 k (i : Int) a r l) b ∧ (b = true → ∀ j : Nat, i ≤ j → j < l.length → (Qam l (j : Int)).f0.length ≤ 100) := by
 intro n
 induction n with
 | zero =>
  intro i hn hi
  obtain ⟨v, hv⟩ := code07_ev a r l hl _ 0 0 rfl (by omega)
  refine ⟨decide (v ≤ 300), Ev.up (g := fun k => _) (fun k => rfl) (Ev.neg (by omega) (Ev.then (a := v) hv (Ev.val rfl))), fun _ j h1 h2 => by omega⟩
 | succ n ih =>
  intro i hn hi
  have hw : wrap64 ((i : Int) + 1) = ((i + 1 : Nat) : Int) := by rw [w64i (by omega) (by omega)]; omega
  by_cases hb : (((Qam l (i : Int)).f0).length : Int) > 100
  ·exact ⟨false, Ev.up (g := fun k => _) (fun k => rfl) (Ev.pos (by omega) (Ev.pos (by omega) (Ev.pos hb (Ev.val rfl)))), by simp⟩
  ·obtain ⟨b, hv, hh⟩ := ih (i + 1) (by omega) (by omega)
   refine ⟨b, Ev.up (g := fun k => _) (fun k => rfl) (Ev.pos (by omega) (Ev.pos (by omega) (Ev.neg hb ?_))), fun hbt j h1 h2 => ?_⟩
   ·rw [hw]; exact hv
   ·rcases Nat.eq_or_lt_of_le h1 with rfl | h3
    ·omega
    ·exact hh hbt j h3 h2
theorem few07 (a r : Int) (l : List S39) (hl : l.length ≤ 9223372036854775807) :
    ∃ b, Ev (fun k => Qaw.f k a r l) b ∧ (b = true → l.length ≤ 40 ∧ r ≤ 60 ∧ ∀ j : Nat, j < l.length → (Qam l (j : Int)).f0.length ≤ 100) := by
 unfold Qaw.f
 by_cases h1 : (l.length : Int) > 40
 ·exact ⟨false, Ev.pos h1 (j07_true _ _ _), by simp⟩
 ·by_cases h2 : r > 60
  ·exact ⟨false, Ev.neg h1 (Ev.up (g := fun k => _) (fun k => rfl) (Ev.pos (by simpa using h2) (Ev.val rfl))), by simp⟩
  ·obtain ⟨b, hv, hh⟩ := few07_ev a r l hl _ 0 rfl (by omega)
   exact ⟨b, Ev.neg h1 (Ev.up (g := fun k => _) (fun k => rfl) (Ev.neg (by simpa using h2) hv)), fun hb => ⟨by omega, by omega, fun j hj => hh hb j (by omega) hj⟩⟩
theorem few08_ev (a r s : Int) (l : List S57) (hl : l.length ≤ 9223372036854775807) : ∀ (n i : Nat), l.length - i = n → i ≤ l.length →
    ∃ b, Ev (fun k => Qat.l0 k (i : Int) a r s l) b ∧ (b = true → ∀ j : Nat, i ≤ j → j < l.length → (Qad l (j : Int)).f0.length ≤ 300) := by
 intro n
 induction n with
 | zero =>
  intro i hn hi
  obtain ⟨v, hv⟩ := code08_ev a r s l hl _ 0 0 rfl (by omega)
  refine ⟨decide (v ≤ 900), Ev.up (g := fun k => _) (fun k => rfl) (Ev.neg (by omega) (Ev.then (a := v) hv (Ev.val rfl))), fun _ j h1 h2 => by omega⟩
 | succ n ih =>
  intro i hn hi
  have hw : wrap64 ((i : Int) + 1) = ((i + 1 : Nat) : Int) := by rw [w64i (by omega) (by omega)]; omega
  by_cases hb : (((Qad l (i : Int)).f0).length : Int) > 300
  ·exact ⟨false, Ev.up (g := fun k => _) (fun k => rfl) (Ev.pos (by omega) (Ev.pos (by omega) (Ev.pos hb (Ev.val rfl)))), by simp⟩
  ·obtain ⟨b, hv, hh⟩ := ih (i + 1) (by omega) (by omega)
   refine ⟨b, Ev.up (g := fun k => _) (fun k => rfl) (Ev.pos (by omega) (Ev.pos (by omega) (Ev.neg hb ?_))), fun hbt j h1 h2 => ?_⟩
   ·rw [hw]; exact hv
   ·rcases Nat.eq_or_lt_of_le h1 with rfl | h3
    ·omega
    ·exact hh hbt j h3 h2
theorem few08 (a r s : Int) (l : List S57) (hl : l.length ≤ 9223372036854775807) :
    ∃ b, Ev (fun k => Qat.f k a r s l) b ∧ (b = true → l.length ≤ 40 ∧ r ≤ 60 ∧ s ≤ 60 ∧ ∀ j : Nat, j < l.length → (Qad l (j : Int)).f0.length ≤ 300) := by
 unfold Qat.f
 by_cases h1 : (l.length : Int) > 40
 ·exact ⟨false, Ev.pos h1 (j08_true _ _ _ _), by simp⟩
 ·by_cases h2 : r > 60
  ·exact ⟨false, Ev.neg h1 (Ev.pos h2 (j08_true _ _ _ _)), by simp⟩
  ·by_cases h3 : s > 60
   ·exact ⟨false, Ev.neg h1 (Ev.neg h2 (Ev.up (g := fun k => _) (fun k => rfl) (Ev.pos (by simpa using h3) (Ev.val rfl)))), by simp⟩
   ·obtain ⟨b, hv, hh⟩ := few08_ev a r s l hl _ 0 rfl (by omega)
    exact ⟨b, Ev.neg h1 (Ev.neg h2 (Ev.up (g := fun k => _) (fun k => rfl) (Ev.neg (by simpa using h3) hv))), fun hb => ⟨by omega, by omega, by omega, fun j hj => hh hb j (by omega) hj⟩⟩
theorem few15_ev (l : List (List S47)) (hl : l.length ≤ 9223372036854775807) : ∀ (n i : Nat), l.length - i = n → i ≤ l.length → i ≤ 41 →
    ∃ b, Ev (fun k => Qa4.l0 k l (i : Int)) b ∧ (b = true → l.length ≤ 40 ∧ ∀ j : Nat, i ≤ j → j < l.length → (Qax l (j : Int)).length ≤ 400) := by
 intro n
 induction n with
 | zero =>
  intro i hn hi h41
  refine ⟨decide ((l.length : Int) ≤ 40), Ev.up (g := fun k => _) (fun k => rfl) (Ev.neg (by omega) (j15_false _ _)), fun h => ⟨by simp at h; omega, fun j h1 h2 => by omega⟩⟩
 | succ n ih =>
  intro i hn hi h41
  have hw : wrap64 ((i : Int) + 1) = ((i + 1 : Nat) : Int) := by rw [w64i (by omega) (by omega)]; omega
  by_cases h40 : (i : Int) ≤ 40
  ·by_cases hb : ((Qax l (i : Int)).length : Int) > 400
   ·exact ⟨false, Ev.up (g := fun k => _) (fun k => rfl) (Ev.pos (by omega) (Ev.up (g := fun k => _) (fun k => rfl) (Ev.pos (by simpa using h40) (Ev.pos (by omega) (Ev.pos (by omega) (Ev.pos hb (Ev.val rfl))))))), by simp⟩
   ·obtain ⟨b, hv, hh⟩ := ih (i + 1) (by omega) (by omega) (by omega)
    refine ⟨b, Ev.up (g := fun k => _) (fun k => rfl) (Ev.pos (by omega) (Ev.up (g := fun k => _) (fun k => rfl) (Ev.pos (by simpa using h40) (Ev.pos (by omega) (Ev.pos (by omega) (Ev.neg hb ?_)))))), fun hbt => ⟨(hh hbt).1, fun j h1 h2 => ?_⟩⟩
    ·rw [hw]; exact hv
    ·rcases Nat.eq_or_lt_of_le h1 with rfl | h3
     ·omega
     ·exact (hh hbt).2 j h3 h2
  ·exact ⟨false, Ev.up (g := fun k => _) (fun k => rfl) (Ev.pos (by omega) (Ev.up (g := fun k => _) (fun k => rfl) (Ev.neg (by simpa using h40) (Ev.val (by simp; omega))))), by simp⟩
theorem few16 (a0 a1 : Int) (l2 : List S39) (a3 a4 a5 : Int) (l6 : List S57) (l7 : List (List S47)) (h2 : l2.length ≤ 9223372036854775807) (h6 : l6.length ≤ 9223372036854775807) (h7 : l7.length ≤ 9223372036854775807) :
    ∃ b, Ev (fun k => regcertref16_Few.f k a0 a1 l2 a3 a4 a5 l6 l7) b ∧ (b = true → (l2.length ≤ 40 ∧ a1 ≤ 60 ∧ ∀ j : Nat, j < l2.length → (Qam l2 (j : Int)).f0.length ≤ 100) ∧
     (l6.length ≤ 40 ∧ a4 ≤ 60 ∧ a5 ≤ 60 ∧ ∀ j : Nat, j < l6.length → (Qad l6 (j : Int)).f0.length ≤ 300) ∧ (l7.length ≤ 40 ∧ ∀ j : Nat, j < l7.length → (Qax l7 (j : Int)).length ≤ 400)) := by
 unfold regcertref16_Few.f
 obtain ⟨b1, e1, q1⟩ := few07 a0 a1 l2 h2
 obtain ⟨b2, e2, q2⟩ := few08 a3 a4 a5 l6 h6
 obtain ⟨b3, e3, q3⟩ := few15_ev l7 h7 _ 0 rfl (by omega) (by omega)
 cases b1 with
 | false => exact ⟨false, Ev.then e1 (Ev.neg (by simp) (Ev.val rfl)), by simp⟩
 | true => cases b2 with
  | false => exact ⟨false, Ev.then e1 (Ev.pos rfl (Ev.then e2 (Ev.neg (by simp) (Ev.val rfl)))), by simp⟩
  | true => exact ⟨b3, Ev.then e1 (Ev.pos rfl (Ev.then e2 (Ev.pos rfl (Ev.then e3 (Ev.val rfl))))), fun hb => ⟨q1 rfl, q2 rfl, (q3 hb).1, fun j hj => (q3 hb).2 j (by omega) hj⟩⟩
def An (f : Nat → Option Int) (P : Prop) : Prop := ∃ r, Ev f r ∧ (r = 0 ↔ P)
def Ab (f : Nat → Option Bool) (P : Prop) : Prop := ∃ r, Ev f r ∧ (r = true ↔ P)
theorem w64s {n i : Nat} (hn : n ≤ 4611686018427387904) (h : i < n) : wrap64 ((i : Int) + 1) = ((i + 1 : Nat) : Int) := by rw [w64i (by omega) (by omega)]; omega
theorem An.loop {L G : Nat → Int → Option Int} {D : Nat → Option Int} {n : Nat} {P : Nat → Prop} {Q : Prop} (hn : n ≤ 4611686018427387904)
    (hs : ∀ k i, L (k + 1) i = if i < (n : Int) then (if 0 ≤ i then (if i < (n : Int) then (G k i).bind (fun t => if t = 0 then L k (wrap64 (i + 1)) else some t) else none) else none) else D k)
    (hg : ∀ i : Nat, i < n → An (fun k => G k (i : Int)) (P i)) (hd : An D Q) : An (fun k => L k 0) ((∀ i, i < n → P i) ∧ Q) := by
 have go : ∀ m i, n - i = m → i ≤ n → An (fun k => L k (i : Int)) ((∀ j, i ≤ j → j < n → P j) ∧ Q) := by
  intro m
  induction m with
  | zero =>
   intro i hm hi
   obtain ⟨r, hr, he⟩ := hd
   exact ⟨r, Ev.up (fun k => hs k _) (Ev.neg (by omega) hr), he.trans ⟨fun h => ⟨fun j h1 h2 => by omega, h⟩, fun h => h.2⟩⟩
  | succ m ih =>
   intro i hm hi
   obtain ⟨t, ht, he⟩ := hg i (by omega)
   by_cases h0 : t = 0
   ·obtain ⟨r, hr, hq⟩ := ih (i + 1) (by omega) (by omega)
    refine ⟨r, Ev.up (fun k => hs k _) (Ev.pos (by omega) (Ev.pos (by omega) (Ev.pos (by omega) (Ev.then ht (Ev.pos h0 (by rw [w64s hn (by omega)]; exact hr)))))), hq.trans ⟨fun h => ⟨fun j h1 h2 => ?_, h.2⟩, fun h => ⟨fun j h1 h2 => h.1 j (by omega) h2, h.2⟩⟩⟩
    rcases Nat.eq_or_lt_of_le h1 with rfl | h3
    ·exact he.1 h0
    ·exact h.1 j h3 h2
   ·exact ⟨t, Ev.up (fun k => hs k _) (Ev.pos (by omega) (Ev.pos (by omega) (Ev.pos (by omega) (Ev.then ht (Ev.neg h0 (Ev.val rfl)))))), ⟨fun h => absurd h h0, fun h => absurd (he.2 (h.1 i (by omega) (by omega))) h0⟩⟩
 obtain ⟨r, hr, hq⟩ := go n 0 (by omega) (by omega)
 exact ⟨r, hr, hq.trans ⟨fun h => ⟨fun j hj => h.1 j (by omega) hj, h.2⟩, fun h => ⟨fun j _ hj => h.1 j hj, h.2⟩⟩⟩
theorem Ab.loop {L : Nat → Int → Option Bool} {J : Nat → Int → Bool → Option Bool} {n : Nat} {x : Nat → Bool} (hn : n ≤ 4611686018427387904)
    (hs : ∀ (i : Nat), i < n → ∀ r, Ev (fun k => J k (i : Int) (x i)) r → Ev (fun k => L k (i : Int)) r) (he : ∀ k, L (k + 1) (n : Int) = some true)
    (hj : ∀ k i b, J (k + 1) i b = if b = true then some false else L k (wrap64 (i + 1))) : Ab (fun k => L k 0) (∀ i, i < n → x i = false) := by
 have go : ∀ m i, n - i = m → i ≤ n → Ab (fun k => L k (i : Int)) (∀ j, i ≤ j → j < n → x j = false) := by
  intro m
  induction m with
  | zero =>
   intro i hm hi
   obtain rfl : i = n := by omega
   exact ⟨true, Ev.up he (Ev.val rfl), ⟨fun _ j h1 h2 => by omega, fun _ => rfl⟩⟩
  | succ m ih =>
   intro i hm hi
   cases hx : x i with
   | true => exact ⟨false, hs i (by omega) _ (Ev.up (fun k => hj k _ _) (Ev.pos hx (Ev.val rfl))), ⟨fun h => (by cases h), fun h => (by have := h i (by omega) (by omega); rw [hx] at this; cases this)⟩⟩
   | false =>
    obtain ⟨r, hr, hq⟩ := ih (i + 1) (by omega) (by omega)
    refine ⟨r, hs i (by omega) _ (Ev.up (fun k => hj k _ _) (Ev.neg (by simp [hx]) (by rw [w64s hn (by omega)]; exact hr))), hq.trans ⟨fun h j h1 h2 => ?_, fun h j h1 h2 => h j (by omega) h2⟩⟩
    rcases Nat.eq_or_lt_of_le h1 with rfl | h3
    ·exact hx
    ·exact h j h3 h2
 obtain ⟨r, hr, hq⟩ := go n 0 (by omega) (by omega)
 exact ⟨r, hr, hq.trans ⟨fun h j hj => h j (by omega) hj, fun h j _ hj => h j hj⟩⟩
theorem sum_loop {L : Nat → Int → Int → Option Int} {n : Nat} {x : Nat → Nat} (hn : n ≤ 1000) (hx : ∀ i, i < n → x i ≤ 1000)
    (hs : ∀ k (i : Nat) (s : Int), L (k + 1) s (i : Int) = if (i : Int) < (n : Int) then (if 0 ≤ (i : Int) then (if (i : Int) < (n : Int) then L k (wrap64 (s + (x i : Int))) (wrap64 ((i : Int) + 1)) else none) else none) else some s) :
    ∃ v, Ev (fun k => L k 0 0) v ∧ 0 ≤ v ∧ v ≤ 1000 * n := by
 have go : ∀ m (i : Nat) (s : Int), n - i = m → i ≤ n → 0 ≤ s → s ≤ 1000 * i → ∃ v, Ev (fun k => L k s (i : Int)) v ∧ 0 ≤ v ∧ v ≤ 1000 * n := by
  intro m
  induction m with
  | zero =>
   intro i s hm hi h0 h1
   exact ⟨s, Ev.up (fun k => hs k _ _) (Ev.neg (by omega) (Ev.val rfl)), h0, by omega⟩
  | succ m ih =>
   intro i s hm hi h0 h1
   have hxi := hx i (by omega)
   have hw : wrap64 (s + (x i : Int)) = s + (x i : Int) := w64i (by omega) (by omega)
   obtain ⟨v, hv, hb⟩ := ih (i + 1) (s + (x i : Int)) (by omega) (by omega) (by omega) (by omega)
   refine ⟨v, Ev.up (fun k => hs k _ _) (Ev.pos (by omega) (Ev.pos (by omega) (Ev.pos (by omega) ?_))), hb⟩
   rw [hw, w64s (n := n) (by omega) (by omega)]; exact hv
 exact go n 0 0 (by omega) (by omega) (by omega) (by omega)
theorem within_ab (l : List S235) (h : l.length ≤ 1000) : Ab (fun k => Qak.f k l) (∀ i : Nat, i < l.length → ((Qa6 l (i : Int)).f1 = true → 0 ≤ (Qa6 l (i : Int)).f0 ∧ (Qa6 l (i : Int)).f0 < (Qa6 l (i : Int)).f2)) := by
 obtain ⟨r, hr, hq⟩ := Ab.loop (L := fun k i => Qak.l0 k l (l.length : Int) i) (J := fun k i b => Qak.j1 k l (l.length : Int) i b) (n := l.length)
  (x := fun i => if (Qa6 l (i : Int)).f1 = true then (if (Qa6 l (i : Int)).f0 < 0 then true else decide ((Qa6 l (i : Int)).f0 ≥ (Qa6 l (i : Int)).f2)) else false) (by omega)
  (fun i hi r h => Ev.up (g := fun k => _) (fun k => rfl) (Ev.pos (by omega) (Ev.pos (by omega) (Ev.pos (by omega) (by
   split at h
   ·split at h
    ·exact Ev.pos (by assumption) (Ev.pos (by assumption) h)
    ·exact Ev.pos (by assumption) (Ev.neg (by assumption) h)
   ·exact Ev.neg (by assumption) h)))))
  (fun k => if_neg (by omega)) (fun k i b => rfl)
 refine ⟨r, hr, hq.trans ⟨fun h i hi hf => ?_, fun h i hi => ?_⟩⟩
 ·have := h i hi
  rw [if_pos hf] at this
  split at this
  ·cases this
  ·simp at this; omega
 ·have := h i hi
  split
  ·have := this (by assumption)
   rw [if_neg (by omega)]; simp; omega
  ·rfl
theorem blank_ab (l : List S235) (h : l.length ≤ 1000) : Ab (fun k => Qa0.f k l) (∀ i : Nat, i < l.length → ((Qa6 l (i : Int)).f1 = true ∨ (Qa6 l (i : Int)).f0 = 0)) := by
 obtain ⟨r, hr, hq⟩ := Ab.loop (L := fun k i => Qa0.l0 k l (l.length : Int) i) (J := fun k i b => Qa0.j1 k l (l.length : Int) i b) (n := l.length)
  (x := fun i => if (Qa6 l (i : Int)).f1 = true then false else (Qa6 l (i : Int)).f0 != 0) (by omega)
  (fun i hi r h => Ev.up (g := fun k => _) (fun k => rfl) (Ev.pos (by omega) (Ev.pos (by omega) (Ev.pos (by omega) (by
   split at h
   ·exact Ev.pos (by assumption) h
   ·exact Ev.neg (by assumption) h)))))
  (fun k => if_neg (by omega)) (fun k i b => rfl)
 refine ⟨r, hr, hq.trans ⟨fun h i hi => ?_, fun h i hi => ?_⟩⟩
 ·have := h i hi
  split at this
  ·exact Or.inl (by assumption)
  ·exact Or.inr (by simpa using this)
 ·rcases h i hi with h1 | h1
  ·rw [if_pos h1]
  ·rw [h1]; split <;> rfl
def Qew (u : Bool) (r m : Int) : Prop := u = true → 0 ≤ r ∧ r < m
def okNil (u : Bool) (r : Int) : Prop := u = true ∨ r = 0
theorem Ab.iff {f : Nat → Option Bool} {P Q : Prop} (h : Ab f P) (e : P ↔ Q) : Ab f Q := h.imp fun _ h => ⟨h.1, h.2.trans e⟩
theorem An.iff {f : Nat → Option Int} {P Q : Prop} (h : An f P) (e : P ↔ Q) : An f Q := h.imp fun _ h => ⟨h.1, h.2.trans e⟩
theorem An.up {f g : Nat → Option Int} {P : Prop} (h : ∀ k, f (k + 1) = g k) (a : An g P) : An f P := a.imp fun _ a => ⟨Ev.up h a.1, a.2⟩
theorem An.zero : An (fun _ => some 0) True := ⟨0, Ev.val rfl, by simp⟩
theorem An.fail {r : Int} (h : r ≠ 0) : An (fun _ => some r) False := ⟨r, Ev.val rfl, by simp [h]⟩
theorem An.ite {c : Prop} [Decidable c] {f g : Nat → Option Int} {P Q : Prop} (h1 : c → An f P) (h2 : ¬ c → An g Q) : An (fun k => if c then f k else g k) (if c then P else Q) := by
 by_cases h : c
 ·obtain ⟨r, hr, hq⟩ := h1 h; exact ⟨r, Ev.pos h hr, by rw [if_pos h]; exact hq⟩
 ·obtain ⟨r, hr, hq⟩ := h2 h; exact ⟨r, Ev.neg h hr, by rw [if_neg h]; exact hq⟩
theorem An.test {c : Nat → Option Bool} {f : Nat → Option Int} {e : Int} {P Q : Prop} (he : e ≠ 0) (h1 : Ab c P) (h2 : P → An f Q) : An (fun k => (c k).bind fun t => if t = true then f k else some e) (P ∧ Q) := by
 obtain ⟨b, hb, hp⟩ := h1
 cases b with
 | true => obtain ⟨r, hr, hq⟩ := h2 (hp.1 rfl); exact ⟨r, Ev.then hb (Ev.pos rfl hr), hq.trans ⟨fun h => ⟨hp.1 rfl, h⟩, fun h => h.2⟩⟩
 | false => exact ⟨e, Ev.then hb (Ev.neg (by simp) (Ev.val rfl)), ⟨fun h => absurd h he, fun h => absurd (hp.2 h.1) (by simp)⟩⟩
theorem lt3 {P : Nat → Prop} : (∀ i : Nat, i < 3 → P i) ↔ P 0 ∧ P 1 ∧ P 2 := ⟨fun h => ⟨h 0 (by omega), h 1 (by omega), h 2 (by omega)⟩, fun h i hi => by
 match i, hi with
 | 0, _ => exact h.1
 | 1, _ => exact h.2.1
 | 2, _ => exact h.2.2⟩
theorem lt2 {P : Nat → Prop} : (∀ i : Nat, i < 2 → P i) ↔ P 0 ∧ P 1 := ⟨fun h => ⟨h 0 (by omega), h 1 (by omega)⟩, fun h i hi => by
 match i, hi with
 | 0, _ => exact h.1
 | 1, _ => exact h.2⟩
theorem lt1 {P : Nat → Prop} : (∀ i : Nat, i < 1 → P i) ↔ P 0 := ⟨fun h => h 0 (by omega), fun h i hi => by
 match i, hi with
 | 0, _ => exact h⟩
theorem within3 (a b c m n o : Int) (u v x : Bool) : Ab (fun k => Qak.f k [⟨a, u, m⟩, ⟨b, v, n⟩, ⟨c, x, o⟩]) (Qew u a m ∧ Qew v b n ∧ Qew x c o) :=
 (within_ab _ (by simp)).iff (lt3 (P := fun i => (Qa6 _ (i : Int)).f1 = true → 0 ≤ (Qa6 _ (i : Int)).f0 ∧ (Qa6 _ (i : Int)).f0 < (Qa6 _ (i : Int)).f2))
theorem within2 (a b m n : Int) (u v : Bool) : Ab (fun k => Qak.f k [⟨a, u, m⟩, ⟨b, v, n⟩]) (Qew u a m ∧ Qew v b n) :=
 (within_ab _ (by simp)).iff (lt2 (P := fun i => (Qa6 _ (i : Int)).f1 = true → 0 ≤ (Qa6 _ (i : Int)).f0 ∧ (Qa6 _ (i : Int)).f0 < (Qa6 _ (i : Int)).f2))
theorem within1 (a m : Int) (u : Bool) : Ab (fun k => Qak.f k [⟨a, u, m⟩]) (Qew u a m) :=
 (within_ab _ (by simp)).iff (lt1 (P := fun i => (Qa6 _ (i : Int)).f1 = true → 0 ≤ (Qa6 _ (i : Int)).f0 ∧ (Qa6 _ (i : Int)).f0 < (Qa6 _ (i : Int)).f2))
theorem blank3 (a b c m n o : Int) (u v x : Bool) : Ab (fun k => Qa0.f k [⟨a, u, m⟩, ⟨b, v, n⟩, ⟨c, x, o⟩]) (okNil u a ∧ okNil v b ∧ okNil x c) :=
 (blank_ab _ (by simp)).iff (lt3 (P := fun i => (Qa6 _ (i : Int)).f1 = true ∨ (Qa6 _ (i : Int)).f0 = 0))
def OF (a : Int) : Bool × Bool × Bool × Bool × Bool := (opcode_Of.f a).getD (false, false, false, false, false)
theorem of_some (a : Int) : opcode_Of.f a = some (OF a) := by
 unfold OF
 unfold opcode_Of.f Qbf.f
 by_cases h1 : a ≥ 1
 ·rw [if_pos h1]; simp only [Option.bind_some]; split
  ·split; rfl; split; rfl; split <;> rfl
  ·rfl
 ·rw [if_neg h1]; rfl
def isSrc (a : Int) : Prop := opcode_Source.f a = some true
theorem src_ab (a : Int) : Ab (fun _ => opcode_Source.f a) (isSrc a) := by
 have : ∃ b, opcode_Source.f a = some b := by
  unfold opcode_Source.f Qbf.f
  by_cases h1 : a ≥ 1
  ·rw [if_pos h1]; simp only [Option.bind_some]; split <;> exact ⟨_, rfl⟩
  ·rw [if_neg h1]; exact ⟨_, rfl⟩
 obtain ⟨b, hb⟩ := this
 exact ⟨b, ⟨0, fun _ _ => hb⟩, by unfold isSrc; rw [hb]; simp⟩
def okIns (a0 a1 a2 a3 a4 m : Int) : Prop := isSrc a0 ∧ (Qew (OF a0).1 a1 m ∧ Qew (OF a0).2.1 a2 m ∧ Qew (OF a0).2.2.1 a3 m) ∧ (okNil (OF a0).1 a1 ∧ okNil (OF a0).2.1 a2 ∧ okNil (OF a0).2.2.1 a3) ∧ okNil (OF a0).2.2.2.1 a4
theorem ins_j0 (b : Bool) : An (fun k => Qba.j0 k b) (b = false) := An.up (g := fun _ => _) (fun k => rfl) (by cases b with
 | true => exact (An.fail (r := 12) (by decide)).iff (by simp)
 | false => exact An.zero.iff (by simp))
theorem srcInstr (a0 a1 a2 a3 a4 m : Int) : An (fun k => Qba.f k a0 a1 a2 a3 a4 m) (okIns a0 a1 a2 a3 a4 m) := by
 unfold Qba.f okIns
 simp only [of_some, Option.bind_some]
 refine An.test (by decide) (src_ab a0) fun _ => An.test (by decide) (within3 _ _ _ _ _ _ _ _ _) fun _ => ?_
 obtain ⟨b, hb, hp⟩ := blank3 a1 a2 a3 m m m (OF a0).1 (OF a0).2.1 (OF a0).2.2.1
 cases b with
 | false =>
  obtain ⟨r, hr, hq⟩ := ins_j0 true
  exact ⟨r, Ev.then hb (Ev.neg (by simp) hr), hq.trans ⟨fun h => by simp at h, fun h => absurd (hp.2 h.1) (by simp)⟩⟩
 | true =>
  by_cases h : (OF a0).2.2.2.1 = true
  ·obtain ⟨r, hr, hq⟩ := ins_j0 false
   exact ⟨r, Ev.then hb (Ev.pos rfl (Ev.pos h hr)), hq.trans ⟨fun _ => ⟨hp.1 rfl, Or.inl h⟩, fun _ => rfl⟩⟩
  ·obtain ⟨r, hr, hq⟩ := ins_j0 (a4 != 0)
   exact ⟨r, Ev.then hb (Ev.pos rfl (Ev.neg h hr)), hq.trans ⟨fun h0 => ⟨hp.1 rfl, Or.inr (by simpa using h0)⟩, fun h0 => by
    rcases h0.2 with h1 | h1
    ·exact absurd h1 h
    ·simp [h1]⟩⟩
def okTerm (a0 a1 a2 a3 m n : Int) : Prop := (1 ≤ a0 ∧ a0 ≤ 3) ∧ Qew (a0 != 1) a1 m ∧ (Qew (a0 != 3) a2 n ∧ Qew (a0 == 2) a3 n) ∧ okNil (a0 != 1) a1 ∧ okNil (a0 != 3) a2 ∧ okNil (a0 == 2) a3
theorem term_j0 (b : Bool) (a1 m a2 n a3 : Int) (u v w : Bool) : An (fun k => Qbj.j0 k b a1 u m a2 v n a3 w n) (b = false ∧ Qew u a1 m ∧ (Qew v a2 n ∧ Qew w a3 n) ∧ okNil u a1 ∧ okNil v a2 ∧ okNil w a3) := by
 refine An.up (g := fun k => _) (fun k => by rw [Qbj.j0]) ?_
 cases b with
 | true =>
  apply An.iff
  ·exact An.ite (P := False) (Q := True) (fun _ => An.fail (by decide)) (fun h => absurd rfl h)
  ·simp
 | false =>
  apply An.iff
  ·exact An.ite (P := True) (fun h => absurd h (by simp)) (fun _ => An.test (by decide) (within1 _ _ _) fun _ => An.test (by decide) (within2 _ _ _ _ _ _) fun _ => An.test (by decide) (blank3 _ _ _ _ _ _ _ _ _) fun _ => An.zero)
  ·simp
theorem srcTerm (a0 a1 a2 a3 m n : Int) : An (fun k => Qbj.f k a0 a1 a2 a3 m n) (okTerm a0 a1 a2 a3 m n) := by
 unfold Qbj.f okTerm
 apply An.iff
 ·exact An.ite (fun _ => term_j0 _ _ _ _ _ _ _ _ _) (fun _ => term_j0 _ _ _ _ _ _ _ _ _)
 split
 ·exact ⟨fun h => by simp at h, fun h => by omega⟩
 ·exact ⟨fun h => ⟨by have := h.1; simp at this; omega, h.2⟩, fun h => ⟨by have := h.1; simp; omega, h.2⟩⟩
def okSB (b : S39) (m n : Int) : Prop := (∀ i : Nat, i < b.f0.length → okIns (Qav b.f0 (i : Int)).f0 (Qav b.f0 (i : Int)).f1 (Qav b.f0 (i : Int)).f2 (Qav b.f0 (i : Int)).f3 (Qav b.f0 (i : Int)).f4 m) ∧ okTerm b.f1.f0 b.f1.f1 b.f1.f2 b.f1.f3 m n
theorem srcBlock (b : S39) (m n : Int) (h : b.f0.length ≤ 1000) : An (fun k => source_block.f k b.f0 b.f1.f0 b.f1.f1 b.f1.f2 b.f1.f3 m n) (okSB b m n) := by
 refine An.loop (L := fun k i => source_block.l0 k m n b.f0 (b.f0.length : Int) i b.f0 b.f1.f0 b.f1.f1 b.f1.f2 b.f1.f3) (n := b.f0.length) (by omega) (fun k i => rfl) (fun i hi => srcInstr _ _ _ _ _ _) ?_
 obtain ⟨r, hr, hq⟩ := srcTerm b.f1.f0 b.f1.f1 b.f1.f2 b.f1.f3 m n
 exact ⟨r, Ev.then hr (Ev.val rfl), hq⟩
theorem srcCode (a r : Int) (l : List S39) (hl : l.length ≤ 1000) (hc : ∀ i : Nat, i < l.length → (Qam l (i : Int)).f0.length ≤ 1000) : ∃ v, Ev (fun k => source_Code.f k a r l) v ∧ 0 ≤ v ∧ v ≤ 1000 * l.length :=
 sum_loop (L := fun k s i => source_Code.l0 k s l (l.length : Int) i) (n := l.length) (x := fun i => (Qam l (i : Int)).f0.length) hl hc (fun k i s => rfl)
def okSrc (a r : Int) (l : List S39) : Prop := (0 ≤ a ∧ a ≤ r) ∧ l.length ≠ 0 ∧ ∀ i : Nat, i < l.length → okSB (Qam l (i : Int)) r l.length
theorem srcCheck (a r : Int) (l : List S39) (hr : r ≤ 1000) (hl : l.length ≤ 1000) (hc : ∀ i : Nat, i < l.length → (Qam l (i : Int)).f0.length ≤ 1000) : An (fun k => Qa1.f k a r l) (okSrc a r l) := by
 have hl0 : An (fun k => Qa1.l0 k l (l.length : Int) 0 a r l) ((∀ i : Nat, i < l.length → okSB (Qam l (i : Int)) r l.length) ∧ True) :=
  An.loop (L := fun k i => Qa1.l0 k l (l.length : Int) i a r l) (n := l.length) (by omega) (fun k i => rfl) (fun i hi => srcBlock _ _ _ (hc i hi)) An.zero
 obtain ⟨v, hv, hv0, hv1⟩ := srcCode a r l hl hc
 have hj0 : ∀ b : Bool, An (fun k => Qa1.j0 k b a r l) (b = false ∧ l.length ≠ 0 ∧ ∀ i : Nat, i < l.length → okSB (Qam l (i : Int)) r l.length) := by
  intro b
  refine An.up (g := fun k => _) (fun k => by rw [Qa1.j0]) ?_
  cases b with
  | true =>
   apply An.iff
   ·exact An.ite (P := False) (Q := True) (fun _ => An.fail (by decide)) (fun h => absurd rfl h)
   ·simp
  | false =>
   by_cases h0 : l.length = 0
   ·exact ⟨14, Ev.neg (c := false = true) (by simp) (Ev.neg (c := r > 1048576) (by omega) (Ev.pos (c := (l.length : Int) = 0) (by omega) (Ev.val rfl))), by simp [h0]⟩
   ·obtain ⟨x, hx, hq⟩ := hl0
    refine ⟨x, Ev.neg (c := false = true) (by simp) (Ev.neg (c := r > 1048576) (by omega) (Ev.neg (c := (l.length : Int) = 0) (by omega) (Ev.neg (c := (l.length : Int) > 1048576) (by omega) (Ev.then hv (Ev.up (g := fun k => _) (fun k => rfl) (Ev.neg (c := decide (v > 1048576) = true) (by simp; omega) hx)))))), hq.trans ⟨fun h => ⟨rfl, h0, h.1⟩, fun h => ⟨h.2.2, trivial⟩⟩⟩
 unfold Qa1.f okSrc
 apply An.iff
 ·exact An.ite (fun _ => hj0 _) (fun _ => hj0 _)
 split
 ·exact ⟨fun h => by simp at h, fun h => by omega⟩
 ·exact ⟨fun h => ⟨by have := h.1; simp at this; omega, h.2⟩, fun h => ⟨by have := h.1; simp; omega, h.2⟩⟩
theorem An.seq {c f : Nat → Option Int} {P Q : Prop} (h1 : An c P) (h2 : P → An f Q) : An (fun k => (c k).bind fun y => if y = 0 then f k else some y) (P ∧ Q) := by
 obtain ⟨b, hb, hp⟩ := h1
 by_cases h : b = 0
 ·obtain ⟨r, hr, hq⟩ := h2 (hp.1 h); exact ⟨r, Ev.then hb (Ev.pos h hr), hq.trans ⟨fun x => ⟨hp.1 h, x⟩, fun x => x.2⟩⟩
 ·exact ⟨b, Ev.then hb (Ev.neg h (Ev.val rfl)), ⟨fun x => absurd x h, fun x => absurd (hp.2 x.1) h⟩⟩
theorem An.end' {c : Nat → Option Bool} {P : Prop} {e : Int} (he : e ≠ 0) (h : Ab c P) : An (fun k => (c k).bind fun z => some (if z = true then 0 else e)) P := by
 obtain ⟨b, hb, hp⟩ := h
 exact ⟨if b = true then 0 else e, Ev.then hb (Ev.val rfl), by cases b with
  | true => simpa using hp
  | false => simpa [he] using hp⟩
theorem Ab.of {f : Option Bool} (h : ∃ b, f = some b) : Ab (fun _ => f) (f = some true) := by
 obtain ⟨b, rfl⟩ := h
 exact ⟨b, Ev.val rfl, by simp⟩
def isMach (a : Int) : Prop := opcode_Machine.f a = some true
theorem mach_ab (a : Int) : Ab (fun _ => opcode_Machine.f a) (isMach a) := Ab.of (by
 unfold opcode_Machine.f Qbf.f
 by_cases h1 : a ≥ 1
 ·rw [if_pos h1]; simp only [Option.bind_some]; split <;> exact ⟨_, rfl⟩
 ·rw [if_neg h1]; exact ⟨_, rfl⟩)
def Qec (a m s : Int) : Prop := Qa9.f a m s = some true
theorem loc_ab (a m s : Int) : Ab (fun _ => Qa9.f a m s) (Qec a m s) := Ab.of (by
 unfold Qa9.f Qaq.f Qbb.f
 simp only [Option.bind_some]
 split <;> split <;> exact ⟨_, rfl⟩)
def isSl (a : Int) : Bool := Int.tmod a 2 == 1
theorem moves_j1 (b : Bool) : An (fun k => Qaz.j1 k b) (b = false) := An.up (g := fun _ => _) (fun k => rfl) (by cases b with
 | true => exact (An.fail (r := 10) (by decide)).iff (by simp)
 | false => exact An.zero.iff (by simp))
theorem moves_j0 (b : Bool) (r s a0 a1 a2 a3 a4 a5 a6 : Int) : An (fun k => Qaz.j0 k r s b a0 a1 a2 a3 a4 a5 a6) (b = false ∧ Qec a5 r s ∧ Qec a6 r s) := by
 refine An.up (g := fun k => _) (fun k => by rw [Qaz.j0]) ?_
 cases b with
 | true =>
  obtain ⟨x, hx, hq⟩ := moves_j1 true
  exact ⟨x, Ev.pos rfl hx, hq.trans (by simp)⟩
 | false =>
  obtain ⟨t, ht, hp⟩ := loc_ab a5 r s
  obtain ⟨u, hu, hr⟩ := loc_ab a6 r s
  cases t with
  | false =>
   obtain ⟨x, hx, hq⟩ := moves_j1 true
   exact ⟨x, Ev.neg (by simp) (Ev.then ht (Ev.neg (by simp) hx)), hq.trans ⟨fun h => by simp at h, fun h => absurd (hp.2 h.2.1) (by simp)⟩⟩
  | true =>
   obtain ⟨x, hx, hq⟩ := moves_j1 (!u)
   exact ⟨x, Ev.neg (by simp) (Ev.then ht (Ev.pos rfl (Ev.then hu hx))), hq.trans ⟨fun h => ⟨rfl, hp.1 rfl, hr.1 (by simpa using h)⟩, fun h => by simpa using hr.2 h.2.2⟩⟩
def okMov (a1 a2 a3 a4 a5 a6 r s : Int) : Prop := ((isSl a5 && isSl a6) = false ∧ Qec a5 r s ∧ Qec a6 r s) ∧ a1 = 0 ∧ a2 = 0 ∧ a3 = 0 ∧ a4 = 0
theorem moves1 (a0 a1 a2 a3 a4 a5 a6 r s : Int) : An (fun k => Qaz.f k a0 a1 a2 a3 a4 a5 a6 r s) ((isSl a5 && isSl a6) = false ∧ Qec a5 r s ∧ Qec a6 r s) := by
 unfold Qaz.f Qaq.f
 simp only [Option.bind_some]
 by_cases h : (Int.tmod a5 2 == 1) = true
 ·obtain ⟨x, hx, hq⟩ := moves_j0 (Int.tmod a6 2 == 1) r s a0 a1 a2 a3 a4 a5 a6
  exact ⟨x, Ev.pos h hx, hq.trans (by unfold isSl; rw [h]; simp)⟩
 ·obtain ⟨x, hx, hq⟩ := moves_j0 false r s a0 a1 a2 a3 a4 a5 a6
  exact ⟨x, Ev.neg h hx, hq.trans (by unfold isSl; rw [Bool.not_eq_true] at h; rw [h]; simp)⟩
theorem moves2 (a0 a1 a2 a3 a4 a5 a6 : Int) : Ab (fun _ => machine_moves_2.f a0 a1 a2 a3 a4 a5 a6) (a1 = 0 ∧ a2 = 0 ∧ a3 = 0 ∧ a4 = 0) := by
 unfold machine_moves_2.f
 by_cases h1 : a1 = 0
 ·by_cases h2 : a2 = 0
  ·by_cases h3 : a3 = 0
   ·exact ⟨a4 == 0, Ev.pos h1 (Ev.pos h2 (Ev.pos h3 (Ev.val rfl))), by simp [h1, h2, h3]⟩
   ·exact ⟨false, Ev.pos h1 (Ev.pos h2 (Ev.neg h3 (Ev.val rfl))), by simp [h3]⟩
  ·exact ⟨false, Ev.pos h1 (Ev.neg h2 (Ev.val rfl)), by simp [h2]⟩
 ·exact ⟨false, Ev.neg h1 (Ev.val rfl), by simp [h1]⟩
theorem others2 (a0 a1 a2 a3 a4 a5 a6 : Int) : Ab (fun _ => machine_others_2.f a0 a1 a2 a3 a4 a5 a6) (a5 = 0 ∧ a6 = 0) := by
 unfold machine_others_2.f
 by_cases h1 : a5 = 0
 ·exact ⟨a6 == 0, Ev.pos h1 (Ev.val rfl), by simp [h1]⟩
 ·exact ⟨false, Ev.neg h1 (Ev.val rfl), by simp [h1]⟩
theorem others1 (a0 a1 a2 a3 a4 a5 a6 r s : Int) : An (fun k => machine_others_1.f k a0 a1 a2 a3 a4 a5 a6 r s) (okIns a0 a1 a2 a3 a4 r) := by
 obtain ⟨x, hx, hq⟩ := srcInstr a0 a1 a2 a3 a4 r
 exact ⟨x, Ev.then hx (Ev.val rfl), hq⟩
def okMIns (a0 a1 a2 a3 a4 a5 a6 r s : Int) : Prop := isMach a0 ∧ if a0 = 18 then okMov a1 a2 a3 a4 a5 a6 r s else okIns a0 a1 a2 a3 a4 r ∧ a5 = 0 ∧ a6 = 0
theorem mInstr (a0 a1 a2 a3 a4 a5 a6 r s : Int) : An (fun k => machine_Instr.f k a0 a1 a2 a3 a4 a5 a6 r s) (okMIns a0 a1 a2 a3 a4 a5 a6 r s) := by
 unfold machine_Instr.f okMIns okMov
 exact An.test (by decide) (mach_ab a0) fun _ => An.ite (fun _ => An.seq (moves1 _ _ _ _ _ _ _ _ _) fun _ => An.end' (by decide) (moves2 a0 _ _ _ _ a5 a6)) (fun _ => An.seq (others1 _ _ _ _ _ a5 a6 _ s) fun _ => An.end' (by decide) (others2 a0 a1 a2 a3 a4 _ _))
def Qc0 : List S59 → Nat → Prop
 | [], _ => True
 | m :: t, c => if m.f0 = 18 then c + 1 ≤ 64 ∧ Qc0 t (c + 1) else Qc0 t 0
def okMI (m : S59) (r s : Int) : Prop := okMIns m.f0 m.f1 m.f2 m.f3 m.f4 m.f5 m.f6 r s
def okMB (b : S57) (r s n : Int) : Prop := ((∀ i : Nat, i < b.f0.length → okMI (Qag b.f0 (i : Int)) r s) ∧ Qc0 b.f0 0) ∧ okTerm b.f1.f0 b.f1.f1 b.f1.f2 b.f1.f3 r n
theorem Qc1 {α : Type} (l : List α) (z : α) (i : Nat) (h : i < l.length) : l.drop i = l.getD i z :: l.drop (i + 1) := by
 rw [List.drop_eq_getElem_cons h, List.getD_eq_getElem?_getD, List.getElem?_eq_getElem h]; rfl
theorem mBlock (a r s : Int) (TB : List S57) (b : S57) (h : b.f0.length ≤ 1000) : An (fun k => Qa7.f k a r s TB b.f0 b.f1.f0 b.f1.f1 b.f1.f2 b.f1.f3) (okMB b r s TB.length) := by
 have go : ∀ m (i c : Nat), b.f0.length - i = m → i ≤ b.f0.length → c ≤ 64 → An (fun k => Qa7.l0 k (c : Int) b.f0 (b.f0.length : Int) (i : Int) a r s TB b.f0 b.f1.f0 b.f1.f1 b.f1.f2 b.f1.f3) (((∀ j : Nat, i ≤ j → j < b.f0.length → okMI (Qag b.f0 (j : Int)) r s) ∧ Qc0 (b.f0.drop i) c) ∧ okTerm b.f1.f0 b.f1.f1 b.f1.f2 b.f1.f3 r TB.length) := by
  intro m
  induction m with
  | zero =>
   intro i c hm hi hc
   obtain ⟨x, hx, hq⟩ := srcTerm b.f1.f0 b.f1.f1 b.f1.f2 b.f1.f3 r TB.length
   refine ⟨x, Ev.up (g := fun k => _) (fun k => rfl) (Ev.neg (by omega) (Ev.then hx (Ev.val rfl))), hq.trans ?_⟩
   rw [List.drop_of_length_le (by omega)]
   exact ⟨fun h => ⟨⟨fun j h1 h2 => by omega, trivial⟩, h⟩, fun h => h.2⟩
  | succ m ih =>
   intro i c hm hi hc
   have hw : wrap64 ((i : Int) + 1) = ((i + 1 : Nat) : Int) := w64s (n := b.f0.length) (by omega) (by omega)
   have hwc : wrap64 ((c : Int) + 1) = ((c + 1 : Nat) : Int) := w64s (n := 1000) (by omega) (by omega)
   obtain ⟨t, ht, hp⟩ := mInstr (Qag b.f0 (i : Int)).f0 (Qag b.f0 (i : Int)).f1 (Qag b.f0 (i : Int)).f2 (Qag b.f0 (i : Int)).f3 (Qag b.f0 (i : Int)).f4 (Qag b.f0 (i : Int)).f5 (Qag b.f0 (i : Int)).f6 r s
   have hd : b.f0.drop i = Qag b.f0 (i : Int) :: b.f0.drop (i + 1) := Qc1 b.f0 z59 i (by omega)
   rw [hd]
   by_cases h0 : t = 0
   ·have hi0 : okMI (Qag b.f0 (i : Int)) r s := hp.1 h0
    have hall : (∀ j : Nat, i ≤ j → j < b.f0.length → okMI (Qag b.f0 (j : Int)) r s) ↔ (∀ j : Nat, i + 1 ≤ j → j < b.f0.length → okMI (Qag b.f0 (j : Int)) r s) := ⟨fun h j h1 h2 => h j (by omega) h2, fun h j h1 h2 => by
     rcases Nat.eq_or_lt_of_le h1 with rfl | h3
     ·exact hi0
     ·exact h j h3 h2⟩
    rw [hall]
    by_cases h18 : (Qag b.f0 (i : Int)).f0 = 18
    ·by_cases h64 : c + 1 ≤ 64
     ·obtain ⟨x, hx, hq⟩ := ih (i + 1) (c + 1) (by omega) (by omega) h64
      refine ⟨x, Ev.up (g := fun k => _) (fun k => rfl) (Ev.pos (by omega) (Ev.pos (by omega) (Ev.pos (by omega) (Ev.then ht (Ev.pos h0 (Ev.pos h18 (Ev.up (g := fun k => _) (fun k => rfl) (Ev.neg (by rw [hwc]; omega) ?_)))))))), hq.trans ?_⟩
      ·rw [hw, hwc]; exact hx
      ·simp only [Qc0, if_pos h18]
       exact ⟨fun h => ⟨⟨h.1.1, h64, h.1.2⟩, h.2⟩, fun h => ⟨⟨h.1.1, h.1.2.2⟩, h.2⟩⟩
     ·refine ⟨15, Ev.up (g := fun k => _) (fun k => rfl) (Ev.pos (by omega) (Ev.pos (by omega) (Ev.pos (by omega) (Ev.then ht (Ev.pos h0 (Ev.pos h18 (Ev.up (g := fun k => _) (fun k => rfl) (Ev.pos (by rw [hwc]; omega) (Ev.val rfl))))))))), ?_⟩
      simp only [Qc0, if_pos h18]
      exact ⟨fun h => by simp at h, fun h => absurd h.1.2.1 h64⟩
    ·obtain ⟨x, hx, hq⟩ := ih (i + 1) 0 (by omega) (by omega) (by omega)
     refine ⟨x, Ev.up (g := fun k => _) (fun k => rfl) (Ev.pos (by omega) (Ev.pos (by omega) (Ev.pos (by omega) (Ev.then ht (Ev.pos h0 (Ev.neg h18 (Ev.up (g := fun k => _) (fun k => rfl) (Ev.neg (c := (0 : Int) > 64) (f := fun _ => none) (by omega) ?_)))))))), hq.trans ?_⟩
     ·rw [hw]; exact hx
     ·simp only [Qc0, if_neg h18]
   ·exact ⟨t, Ev.up (g := fun k => _) (fun k => rfl) (Ev.pos (by omega) (Ev.pos (by omega) (Ev.pos (by omega) (Ev.then ht (Ev.neg h0 (Ev.val rfl)))))), ⟨fun h => absurd h h0, fun h => absurd (hp.2 (h.1.1 i (by omega) (by omega))) h0⟩⟩
 obtain ⟨x, hx, hq⟩ := go _ 0 0 rfl (by omega) (by omega)
 refine ⟨x, hx, hq.trans ?_⟩
 rw [List.drop_zero]
 exact ⟨fun h => ⟨⟨fun i hi => h.1.1 i (by omega) hi, h.1.2⟩, h.2⟩, fun h => ⟨⟨fun i _ hi => h.1.1 i hi, h.1.2⟩, h.2⟩⟩
theorem mCode (a r s : Int) (l : List S57) (hl : l.length ≤ 1000) (hc : ∀ i : Nat, i < l.length → (Qad l (i : Int)).f0.length ≤ 1000) : ∃ v, Ev (fun k => machine_Code.f k a r s l) v ∧ 0 ≤ v ∧ v ≤ 1000 * l.length :=
 sum_loop (L := fun k s i => machine_Code.l0 k s l (l.length : Int) i) (n := l.length) (x := fun i => (Qad l (i : Int)).f0.length) hl hc (fun k i s => rfl)
def okMach (a r s : Int) (l : List S57) : Prop := ((0 ≤ a ∧ a ≤ s) ∧ 0 ≤ r) ∧ l.length ≠ 0 ∧ ∀ i : Nat, i < l.length → okMB (Qad l (i : Int)) r s l.length
theorem mCheck (a r s : Int) (l : List S57) (hr : r ≤ 1000) (hs : s ≤ 1000) (hl : l.length ≤ 1000) (hc : ∀ i : Nat, i < l.length → (Qad l (i : Int)).f0.length ≤ 1000) : An (fun k => Qah.f k a r s l) (okMach a r s l) := by
 have hl0 : An (fun k => Qah.l0 k l (l.length : Int) 0 a r s l) ((∀ i : Nat, i < l.length → okMB (Qad l (i : Int)) r s l.length) ∧ True) :=
  An.loop (L := fun k i => Qah.l0 k l (l.length : Int) i a r s l) (n := l.length) (by omega) (fun k i => rfl) (fun i hi => mBlock _ _ _ _ _ (hc i hi)) An.zero
 obtain ⟨v, hv, hv0, hv1⟩ := mCode a r s l hl hc
 have hj0 : ∀ b : Bool, An (fun k => Qah.j0 k b a r s l) ((b = false ∧ 0 ≤ r) ∧ l.length ≠ 0 ∧ ∀ i : Nat, i < l.length → okMB (Qad l (i : Int)) r s l.length) := by
  intro b
  cases b with
  | true => exact ⟨10, ⟨1, fun n hn => by obtain ⟨m, rfl⟩ : ∃ m, n = m + 1 := ⟨n - 1, by omega⟩; rfl⟩, by simp⟩
  | false =>
   by_cases hr0 : r < 0
   ·exact ⟨9, Ev.up (g := fun k => _) (fun k => by rw [Qah.j0]) (Ev.neg (c := false = true) (by simp) (Ev.pos (c := r < 0) hr0 (Ev.val rfl))), ⟨fun h => by simp at h, fun h => by omega⟩⟩
   ·have hj1 : An (fun k => Qah.j1 k false a r s l) (l.length ≠ 0 ∧ ∀ i : Nat, i < l.length → okMB (Qad l (i : Int)) r s l.length) := by
      by_cases h0 : l.length = 0
      ·exact ⟨14, Ev.up (g := fun k => _) (fun k => by rw [Qah.j1]) (Ev.neg (c := false = true) (by simp) (Ev.pos (c := (l.length : Int) = 0) (by omega) (Ev.val rfl))), by simp [h0]⟩
      ·obtain ⟨x, hx, hq⟩ := hl0
       exact ⟨x, Ev.up (g := fun k => _) (fun k => by rw [Qah.j1]) (Ev.neg (c := false = true) (by simp) (Ev.neg (c := (l.length : Int) = 0) (by omega) (Ev.neg (c := (l.length : Int) > 1048576) (by omega) (Ev.then hv (Ev.up (g := fun k => _) (fun k => rfl) (Ev.neg (c := decide (v > 1048576) = true) (by simp; omega) hx)))))), hq.trans ⟨fun h => ⟨h0, h.1⟩, fun h => ⟨h.2, trivial⟩⟩⟩
    obtain ⟨x, hx, hq⟩ := hj1
    have hx' : Ev (fun k => Qah.j1 k (decide (r > 1048576)) a r s l) x := by rw [decide_eq_false (by omega)]; exact hx
    exact ⟨x, Ev.up (g := fun k => _) (fun k => by rw [Qah.j0]) (Ev.neg (c := false = true) (by simp) (Ev.neg (c := r < 0) hr0 (Ev.neg (c := s > 1048576) (by omega) hx'))), hq.trans ⟨fun h => ⟨⟨rfl, by omega⟩, h⟩, fun h => h.2⟩⟩
 unfold Qah.f okMach
 apply An.iff
 ·exact An.ite (fun _ => hj0 _) (fun _ => hj0 _)
 split
 ·exact ⟨fun h => by simp at h, fun h => by omega⟩
 ·exact ⟨fun h => ⟨⟨by have := h.1.1; simp at this; omega, h.1.2⟩, h.2⟩, fun h => ⟨⟨by have := h.1.1; simp; omega, h.1.2⟩, h.2⟩⟩
theorem An.loop2 {L : Nat → Int → Option Int} {n : Nat} {P : Nat → Prop} (hp : ∀ i : Nat, i < n → P i → ∀ r, Ev (fun k => L k ((i + 1 : Nat) : Int)) r → Ev (fun k => L k (i : Int)) r)
    (hq : ∀ i : Nat, i < n → ¬ P i → ∃ e, e ≠ 0 ∧ Ev (fun k => L k (i : Int)) e) (he : Ev (fun k => L k (n : Int)) 0) : An (fun k => L k 0) (∀ i, i < n → P i) := by
 have go : ∀ m i, n - i = m → i ≤ n → An (fun k => L k (i : Int)) (∀ j, i ≤ j → j < n → P j) := by
  intro m
  induction m with
  | zero =>
   intro i hm hi
   obtain rfl : i = n := by omega
   exact ⟨0, he, ⟨fun _ j h1 h2 => by omega, fun _ => rfl⟩⟩
  | succ m ih =>
   intro i hm hi
   by_cases h : P i
   ·obtain ⟨r, hr, hx⟩ := ih (i + 1) (by omega) (by omega)
    refine ⟨r, hp i (by omega) h r hr, hx.trans ⟨fun h' j h1 h2 => ?_, fun h' j h1 h2 => h' j (by omega) h2⟩⟩
    rcases Nat.eq_or_lt_of_le h1 with rfl | h3
    ·exact h
    ·exact h' j h3 h2
   ·obtain ⟨e, h0, hr⟩ := hq i (by omega) h
    exact ⟨e, hr, ⟨fun x => absurd x h0, fun x => absurd (x i (by omega) (by omega)) h⟩⟩
 obtain ⟨r, hr, hx⟩ := go n 0 (by omega) (by omega)
 exact ⟨r, hr, hx.trans ⟨fun h j hj => h j (by omega) hj, fun h j _ hj => h j hj⟩⟩
def ltP (p q : S47) : Prop := Qa8.f p.f0 p.f1 q.f0 q.f1 = some true
theorem lt_ab (p q : S47) : Ab (fun _ => Qa8.f p.f0 p.f1 q.f0 q.f1) (ltP p q) := Ab.of (by unfold Qa8.f; split; exact ⟨_, rfl⟩; split <;> exact ⟨_, rfl⟩)
def okPair (l : List S47) (m r s : Int) (i : Nat) : Prop := (0 ≤ (Qaa l (i : Int)).f0 ∧ (Qaa l (i : Int)).f0 < m) ∧ Qec (Qaa l (i : Int)).f1 r s ∧ (0 < i → ltP (Qaa l ((i - 1 : Nat) : Int)) (Qaa l (i : Int)))
theorem pairs_an (l : List S47) (m r s : Int) (hl : l.length ≤ 1000) : An (fun k => Qas.f k l m r s) (∀ i, i < l.length → okPair l m r s i) := by
 have j2t : ∀ i : Int, Ev (fun k => Qas.j2 k l m r s l (l.length : Int) i true) 13 := fun i => ⟨1, fun n hn => by obtain ⟨m, rfl⟩ : ∃ m, n = m + 1 := ⟨n - 1, by omega⟩; rfl⟩
 have j2f : ∀ (i : Nat) (x : Int), i < l.length → Ev (fun k => Qas.l0 k l m r s l (l.length : Int) ((i + 1 : Nat) : Int)) x → Ev (fun k => Qas.j2 k l m r s l (l.length : Int) (i : Int) false) x := fun i x hi hx =>
  Ev.up (g := fun k => _) (fun k => by rw [Qas.j2]) (Ev.neg (c := false = true) (by simp) (by rw [w64s (n := l.length) (by omega) hi]; exact hx))
 have j1t : ∀ (i : Int) (a b : Int), Ev (fun k => Qas.j1 k l m r s i l (l.length : Int) i true a b) 9 := fun i a b => ⟨1, fun n hn => by obtain ⟨m, rfl⟩ : ∃ m, n = m + 1 := ⟨n - 1, by omega⟩; rfl⟩
 have head : ∀ (i : Nat) (x : Int), i < l.length → Ev (fun k => Qas.j1 k l m r s (i : Int) l (l.length : Int) (i : Int) (!decide (0 ≤ (Qaa l (i : Int)).f0 ∧ (Qaa l (i : Int)).f0 < m)) ((Qaa l (i : Int)).f0) ((Qaa l (i : Int)).f1)) x → Ev (fun k => Qas.l0 k l m r s l (l.length : Int) (i : Int)) x := by
  intro i x hi hx
  refine Ev.up (g := fun k => _) (fun k => by rw [Qas.l0]) (Ev.pos (by omega) (Ev.pos (by omega) (Ev.pos (by omega) ?_)))
  by_cases h0 : (Qaa l (i : Int)).f0 < 0
  ·rw [decide_eq_false (by omega)] at hx
   exact Ev.pos h0 hx
  ·refine Ev.neg h0 ?_
   have : decide ((Qaa l (i : Int)).f0 ≥ m) = !decide (0 ≤ (Qaa l (i : Int)).f0 ∧ (Qaa l (i : Int)).f0 < m) := by rw [← decide_not]; exact decide_eq_decide.2 (by omega)
   rw [this]; exact hx
 refine An.loop2 (L := fun k i => Qas.l0 k l m r s l (l.length : Int) i) (fun i hi hP x hx => ?_) (fun i hi hP => ?_) ?_
 ·refine head i x hi ?_
  rw [decide_eq_true hP.1]
  obtain ⟨t, ht, hq⟩ := loc_ab (Qaa l (i : Int)).f1 r s
  have htt : t = true := hq.2 hP.2.1
  refine Ev.up (g := fun k => _) (fun k => by rw [Qas.j1]) (Ev.neg (by simp) (Ev.then ht (Ev.pos htt ?_)))
  by_cases h0 : 0 < i
  ·have hw : wrap64 ((i : Int) - 1) = ((i - 1 : Nat) : Int) := by rw [w64i (by omega) (by omega)]; omega
   obtain ⟨u, hu, hv⟩ := lt_ab (Qaa l ((i - 1 : Nat) : Int)) (Qaa l (i : Int))
   have huu : u = true := hv.2 (hP.2.2 h0)
   rw [hw]
   refine Ev.pos (by omega) (Ev.pos (by omega) (Ev.pos (by omega) (Ev.then hu ?_)))
   rw [huu]; exact j2f i x hi hx
  ·exact Ev.neg (by omega) (j2f i x hi hx)
 ·by_cases h1 : 0 ≤ (Qaa l (i : Int)).f0 ∧ (Qaa l (i : Int)).f0 < m
  ·obtain ⟨t, ht, hq⟩ := loc_ab (Qaa l (i : Int)).f1 r s
   cases t with
   | false =>
    refine ⟨10, by decide, head i 10 hi ?_⟩
    rw [decide_eq_true h1]
    exact Ev.up (g := fun k => _) (fun k => by rw [Qas.j1]) (Ev.neg (by simp) (Ev.then ht (Ev.neg (c := false = true) (by simp) (Ev.val rfl))))
   | true =>
    have h0 : 0 < i := Nat.pos_of_ne_zero fun h => hP ⟨h1, hq.1 rfl, fun h' => absurd h' (by omega)⟩
    have hw : wrap64 ((i : Int) - 1) = ((i - 1 : Nat) : Int) := by rw [w64i (by omega) (by omega)]; omega
    obtain ⟨u, hu, hv⟩ := lt_ab (Qaa l ((i - 1 : Nat) : Int)) (Qaa l (i : Int))
    have huu : u = false := Bool.eq_false_iff.2 fun h => hP ⟨h1, hq.1 rfl, fun _ => hv.1 h⟩
    refine ⟨13, by decide, head i 13 hi ?_⟩
    rw [decide_eq_true h1]
    refine Ev.up (g := fun k => _) (fun k => by rw [Qas.j1]) (Ev.neg (by simp) (Ev.then ht (Ev.pos rfl ?_)))
    rw [hw]
    refine Ev.pos (by omega) (Ev.pos (by omega) (Ev.pos (by omega) (Ev.then hu ?_)))
    rw [huu]; exact j2t _
  ·refine ⟨9, by decide, head i 9 hi ?_⟩
   rw [decide_eq_false h1]
   exact j1t _ _ _
 ·exact Ev.up (g := fun k => _) (fun k => by rw [Qas.l0]) (Ev.neg (by omega) (Ev.val rfl))
theorem tot_ev (l : List (List S47)) (hl : l.length ≤ 1000) (hc : ∀ i : Nat, i < l.length → (Qax l (i : Int)).length ≤ 1000) : ∃ v, Ev (fun k => edge_total.f k l) v ∧ 0 ≤ v ∧ v ≤ 1000 * l.length :=
 sum_loop (L := fun k s i => edge_total.l0 k s l (l.length : Int) i) (n := l.length) (x := fun i => (Qax l (i : Int)).length) hl hc (fun k i s => rfl)
def okRow (l : List S47) (m r s : Int) : Prop := ∀ i, i < l.length → okPair l m r s i
def okEdges (l : List (List S47)) (n m r s : Int) : Prop := (l.length : Int) = n ∧ ∀ i : Nat, i < l.length → okRow (Qax l (i : Int)) m r s
theorem eValid (l : List (List S47)) (n m r s : Int) (hl : l.length ≤ 1000) (hc : ∀ i : Nat, i < l.length → (Qax l (i : Int)).length ≤ 1000) : An (fun k => edge_Valid.f k l n m r s) (okEdges l n m r s) := by
 obtain ⟨v, hv, hv0, hv1⟩ := tot_ev l hl hc
 obtain ⟨x, hx, hq⟩ := An.loop (L := fun k i => edge_Valid.l0 k m r s l (l.length : Int) i) (n := l.length) (by omega) (fun k i => rfl) (fun i hi => pairs_an _ m r s (hc i hi)) An.zero
 unfold edge_Valid.f okEdges
 by_cases h : (l.length : Int) = n
 ·exact ⟨x, Ev.pos h (Ev.then hv (Ev.neg (by omega) hx)), hq.trans ⟨fun y => ⟨h, y.1⟩, fun y => ⟨y.2, trivial⟩⟩⟩
 ·exact ⟨14, Ev.neg h (Ev.val rfl), ⟨fun y => by simp at y, fun y => absurd y.1 h⟩⟩
def okAll (sa sr : Int) (SB : List S39) (ta tr ts : Int) (TB : List S57) (W : List (List S47)) : Prop := okSrc sa sr SB ∧ okMach ta tr ts TB ∧ ((SB.length : Int) = (TB.length : Int) ∧ sa = ta) ∧ okEdges W SB.length sr tr ts
theorem cValid (sa sr : Int) (SB : List S39) (ta tr ts : Int) (TB : List S57) (W : List (List S47)) (h1 : sr ≤ 1000) (h2 : tr ≤ 1000) (h3 : ts ≤ 1000) (l1 : SB.length ≤ 1000) (l2 : TB.length ≤ 1000) (l3 : W.length ≤ 1000)
    (c1 : ∀ i : Nat, i < SB.length → (Qam SB (i : Int)).f0.length ≤ 1000) (c2 : ∀ i : Nat, i < TB.length → (Qad TB (i : Int)).f0.length ≤ 1000) (c3 : ∀ i : Nat, i < W.length → (Qax W (i : Int)).length ≤ 1000) :
    An (fun k => Qbc.f k sa sr SB ta tr ts TB W) (okAll sa sr SB ta tr ts TB W) := by
 unfold Qbc.f okAll
 refine An.seq (srcCheck sa sr SB h1 l1 c1) fun _ => An.seq (mCheck ta tr ts TB h2 h3 l2 c2) fun _ => ?_
 have j0t : Ev (fun k => Qbc.j0 k true sa sr SB ta tr ts TB W) 14 := ⟨1, fun n hn => by obtain ⟨m, rfl⟩ : ∃ m, n = m + 1 := ⟨n - 1, by omega⟩; rfl⟩
 by_cases h : (SB.length : Int) = (TB.length : Int)
 ·by_cases ha : sa = ta
  ·obtain ⟨x, hx, hq⟩ := eValid W SB.length sr tr ts l3 c3
   refine ⟨x, Ev.pos h (Ev.up (g := fun k => _) (fun k => by rw [Qbc.j0]) (Ev.neg (by simp [ha]) (Ev.then hx (Ev.val rfl)))), hq.trans ⟨fun y => ⟨⟨h, ha⟩, y⟩, fun y => y.2⟩⟩
  ·have hb : (sa != ta) = true := by simp [ha]
   exact ⟨14, Ev.pos h (by rw [hb]; exact j0t), ⟨fun y => by simp at y, fun y => absurd y.1.2 ha⟩⟩
 ·exact ⟨14, Ev.neg h j0t, ⟨fun y => by simp at y, fun y => absurd y.1.1 h⟩⟩
theorem initial_some (a b n : Int) : ∃ t, edge_Initial.f a b n = some t := by
 unfold edge_Initial.f location_Slot.f Qaq.f Qbb.f
 simp only [Option.bind_some]
 split
 ·exact ⟨_, rfl⟩
 ·split <;> exact ⟨_, rfl⟩
theorem entry_ev (l : List S47) (n : Int) (h : l.length ≤ 100000000) : ∃ r, Ev (fun k => edge_Entry.f k l n) r := by
 have go : ∀ m i : Nat, l.length - i = m → i ≤ l.length → ∃ r, Ev (fun k => edge_Entry.l0 k n l (l.length : Int) (i : Int)) r := by
  intro m
  induction m with
  | zero => exact fun i hm hi => ⟨_, Ev.up (g := fun k => _) (fun k => by rw [edge_Entry.l0]) (Ev.neg (by omega) (Ev.val rfl))⟩
  | succ m ih =>
   intro i hm hi
   obtain ⟨t, ht⟩ := initial_some (Qaa l (i : Int)).f0 (Qaa l (i : Int)).f1 n
   have ht' : Ev (fun _ => edge_Initial.f (Qaa l (i : Int)).f0 (Qaa l (i : Int)).f1 n) t := ⟨0, fun _ _ => ht⟩
   cases t with
   | true =>
    obtain ⟨r, hr⟩ := ih (i + 1) (by omega) (by omega)
    exact ⟨r, Ev.up (g := fun k => _) (fun k => by rw [edge_Entry.l0]) (Ev.pos (by omega) (Ev.pos (by omega) (Ev.pos (by omega) (Ev.then ht' (Ev.pos (c := true = true) (f := fun k => edge_Entry.l0 k n l (l.length : Int) (wrap64 ((i : Int) + 1))) (g := fun _ => some ((Qaa l (i : Int)).f0, (Qaa l (i : Int)).f1, 23)) rfl (by rw [w64s (n := l.length) (by omega) (by omega)]; exact hr))))))⟩
   | false => exact ⟨_, Ev.up (g := fun k => _) (fun k => by rw [edge_Entry.l0]) (Ev.pos (by omega) (Ev.pos (by omega) (Ev.pos (by omega) (Ev.then ht' (Ev.neg (c := false = true) (by simp) (Ev.val rfl))))))⟩
 exact go _ 0 rfl (by omega)
theorem begin_ev (sa sr : Int) (SB : List S39) (ta tr ts : Int) (TB : List S57) (W : List (List S47)) (h : W.length ≤ 1000) (h0 : 0 < W.length) (hc : ∀ i : Nat, i < W.length → (Qax W (i : Int)).length ≤ 1000) :
    ∃ e x, Ev (fun k => edge_Entry.f k (Qax W 0) sa) e ∧ Ev (fun k => Qa3.f k sa sr SB ta tr ts TB W) (e.2.2, 0, 0, 0, 0, wrap64 (1 + ((Qax W 0).length : Int)), x) := by
 obtain ⟨e, he⟩ := entry_ev (Qax W 0) sa (by have := hc 0 h0; have e : ((0 : Nat) : Int) = 0 := rfl; rw [e] at this; omega)
 have go : ∀ (b1 b2 b3 b4 b5 b0 : Int) (m i : Nat) (x : Int), W.length - i = m → i ≤ W.length → ∃ y, Ev (fun k => Qa3.l0 k W (W.length : Int) (i : Int) sa sr SB ta tr ts TB W b0 b1 b2 b3 b4 b5 x) (e.2.2, b1, b2, b3, b4, b5, y) := by
  intro b1 b2 b3 b4 b5 b0 m
  induction m with
  | zero => exact fun i x hm hi => ⟨x, Ev.up (g := fun k => _) (fun k => by rw [Qa3.l0]) (Ev.neg (by omega) (Ev.pos (by omega) (Ev.then he (Ev.val rfl))))⟩
  | succ m ih =>
   intro i x hm hi
   obtain ⟨y, hy⟩ := ih (i + 1) (mx x ((Qax W (i : Int)).length : Int)) (by omega) (by omega)
   exact ⟨y, Ev.up (g := fun k => _) (fun k => by rw [Qa3.l0]) (Ev.pos (by omega) (Ev.pos (by omega) (Ev.pos (by omega) (by rw [w64s (n := W.length) (by omega) (by omega)]; exact hy))))⟩
 obtain ⟨y, hy⟩ := go 0 0 0 0 (wrap64 (1 + ((Qax W 0).length : Int))) 0 _ 0 0 rfl (by omega)
 exact ⟨e, y, he, by unfold Qa3.f; exact Ev.pos (by omega) hy⟩
theorem mid_eq (lo hi : Nat) (h : lo ≤ hi) (hh : hi ≤ 100000000) : wrap64 ((lo : Int) + wrap64 (Int.tdiv (wrap64 ((hi : Int) - (lo : Int))) 2)) = ((lo + (hi - lo) / 2 : Nat) : Int) := by
 rw [w64i (n := (hi : Int) - lo) (by omega) (by omega), Int.tdiv_eq_ediv_of_nonneg (by omega), w64i (n := ((hi : Int) - lo) / 2) (by omega) (by omega), w64i (by omega) (by omega)]; omega
theorem less_eq (p q : S47) : Qa8.f p.f0 p.f1 q.f0 q.f1 = some (Qci p q) := by
 unfold Qa8.f Qci lessI
 by_cases h1 : p.f0 < q.f0
 ·rw [if_pos h1]; simp [h1]
 ·rw [if_neg h1]
  by_cases h2 : p.f0 = q.f0
  ·rw [if_pos h2]; simp [h2]
  ·rw [if_neg h2]; simp [h1, h2]
theorem Qc2 {x y z : S47} (h1 : Qci x y = true) (h2 : Qci y z = true) : Qci x z = true := by rw [Qdh] at *; omega
theorem rd47 (l : List S47) (i : Nat) (h : i < l.length) : Qaa l (i : Int) = l[i] := by
 show l.getD i z47 = _
 rw [List.getD_eq_getElem?_getD, List.getElem?_eq_getElem h]; rfl
theorem Asc.lt {l : List S47} (h : Asc l) {i j : Nat} (hij : i < j) (hj : j < l.length) : Qci (Qaa l (i : Int)) (Qaa l (j : Int)) = true := by
 rw [rd47 l i (by omega), rd47 l j hj]; exact List.pairwise_iff_getElem.1 h i j (by omega) hj hij
theorem find_spec (l : List S47) (x : S47) (hl : l.length ≤ 100000000) (hA : Asc l) : ∀ m (lo hi : Nat), hi - lo = m → lo ≤ hi → hi ≤ l.length → (∀ i : Nat, i < lo → Qci (Qaa l (i : Int)) x = true) → (∀ i : Nat, hi ≤ i → i < l.length → Qci (Qaa l (i : Int)) x = false) →
    ∃ r : Nat, r ≤ l.length ∧ Ev (fun k => Qa5.l0 k l (lo : Int) (hi : Int) x.f0 x.f1) (r : Int) ∧ (∀ i : Nat, i < r → Qci (Qaa l (i : Int)) x = true) ∧ (∀ i : Nat, r ≤ i → i < l.length → Qci (Qaa l (i : Int)) x = false) := by
 intro m
 induction m using Nat.strongRecOn with
 | _ m ih =>
  intro lo hi hm h1 h2 hlo hhi
  by_cases h : lo < hi
  ·have hd : lo + (hi - lo) / 2 < hi := by omega
   have ht : Ev (fun _ : Nat => Qa8.f (Qaa l ((lo + (hi - lo) / 2 : Nat) : Int)).f0 (Qaa l ((lo + (hi - lo) / 2 : Nat) : Int)).f1 x.f0 x.f1) (Qci (Qaa l ((lo + (hi - lo) / 2 : Nat) : Int)) x) := ⟨0, fun _ _ => less_eq _ _⟩
   cases hb : Qci (Qaa l ((lo + (hi - lo) / 2 : Nat) : Int)) x with
   | true =>
    rw [hb] at ht
    obtain ⟨r, hr, hx, h3, h4⟩ := ih _ (by omega) (lo + (hi - lo) / 2 + 1) hi rfl (by omega) h2 (fun i hi' => by
     rcases Nat.lt_or_eq_of_le (Nat.le_of_lt_succ hi') with h5 | h5
     ·exact Qc2 (hA.lt h5 (by omega)) hb
     ·rw [h5]; exact hb) hhi
    refine ⟨r, hr, Ev.up (g := fun k => _) (fun k => by rw [Qa5.l0, mid_eq lo hi h1 (by omega)]) (Ev.pos (by omega) (Ev.pos (by omega) (Ev.pos (by omega) (Ev.then ht (Ev.pos (c := true = true) (g := fun _ => none) rfl ?_))))), h3, h4⟩
    rw [w64s (n := hi) (by omega) hd]; exact hx
   | false =>
    rw [hb] at ht
    obtain ⟨r, hr, hx, h3, h4⟩ := ih _ (by omega) lo (lo + (hi - lo) / 2) rfl (by omega) (by omega) hlo (fun i hi' hil => by
     rcases Nat.lt_or_eq_of_le hi' with h5 | h5
     ·cases h6 : Qci (Qaa l (i : Int)) x with
      | false => rfl
      | true => rw [Qc2 (hA.lt h5 hil) h6] at hb; cases hb
     ·rw [← h5]; exact hb)
    exact ⟨r, hr, Ev.up (g := fun k => _) (fun k => by rw [Qa5.l0, mid_eq lo hi h1 (by omega)]) (Ev.pos (by omega) (Ev.pos (by omega) (Ev.pos (by omega) (Ev.then ht (Ev.neg (c := false = true) (f := fun _ => none) (by simp) hx))))), h3, h4⟩
  ·obtain rfl : lo = hi := by omega
   exact ⟨lo, by omega, Ev.up (g := fun k => _) (fun k => by rw [Qa5.l0]) (Ev.neg (by omega) (Ev.val rfl)), hlo, hhi⟩
def At (l : List S47) (x : S47) (r : Nat) : Prop := r ≤ l.length ∧ (∀ i : Nat, i < r → Qci (Qaa l (i : Int)) x = true) ∧ (∀ i : Nat, r ≤ i → i < l.length → Qci (Qaa l (i : Int)) x = false)
theorem find_at (l : List S47) (x : S47) (hl : l.length ≤ 100000000) (hA : Asc l) : ∃ r, At l x r ∧ Ev (fun k => Qa5.f k l x.f0 x.f1) (r : Int) := by
 obtain ⟨r, h0, h1, h2, h3⟩ := find_spec l x hl hA _ 0 l.length rfl (by omega) (by omega) (fun i hi => by omega) (fun i hi h => by omega)
 exact ⟨r, ⟨h0, h2, h3⟩, h1⟩
theorem Qee (x : S47) : Qci x x = false := by rw [Qed]; omega
theorem lessB_tot {x y : S47} (h : Qci y x = false) (hne : y ≠ x) : Qci x y = true := by
 cases h2 : Qci x y with
 | true => rfl
 | false => exact absurd (tot47 y x ((lt47 y x).trans h) ((lt47 x y).trans h2)) hne
theorem At.mem {l : List S47} {x : S47} {r : Nat} (h : At l x r) (hA : Asc l) : x ∈ l ↔ r < l.length ∧ Qaa l (r : Int) = x := by
 constructor
 ·intro hx
  obtain ⟨i, hi, rfl⟩ := List.mem_iff_getElem.1 hx
  have hir : r ≤ i := Nat.le_of_not_lt fun hlt => by
   have := h.2.1 i hlt
   rw [rd47 l i hi, Qee] at this; cases this
  rcases Nat.eq_or_lt_of_le hir with rfl | hlt
  ·exact ⟨hi, rd47 l r hi⟩
  ·have h1 := h.2.2 r (Nat.le_refl _) (by omega)
   have h2 := hA.lt hlt hi
   rw [rd47 l i hi] at h2
   rw [h1] at h2; cases h2
 ·rintro ⟨h1, h2⟩
  rw [rd47 l r h1] at h2
  exact h2 ▸ List.getElem_mem h1
theorem has_spec (l : List S47) (x : S47) (hl : l.length ≤ 100000000) (hA : Asc l) : Ab (fun k => pairset_Has.f k l x.f0 x.f1) (x ∈ l) := by
 obtain ⟨r, hr, hx⟩ := find_at l x hl hA
 unfold pairset_Has.f
 by_cases h : (r : Int) < (l.length : Int)
 ·refine ⟨_, Ev.then hx (Ev.pos h (Ev.pos (by omega) (Ev.val rfl))), ?_⟩
  rw [hr.mem hA]
  cases hq : Qaa l (r : Int); cases x
  simp; omega
 ·refine ⟨_, Ev.then hx (Ev.neg h (Ev.val rfl)), ?_⟩
  rw [hr.mem hA]; simp; omega
end Go.Proofs.YtchpkjgibloleaaGreat.Z
namespace Go.Proofs.YtchpkjgibloleaaGreat.Z
set_option maxRecDepth 100000
set_option maxHeartbeats 8000000
open Go.RowKit Go.Proofs.YtchpkjgibloleaaGreatW.PrintWords Go.Proofs.YtchpkjgibloleaaGreatW.PrintLast Go.Proofs.YtchpkjgibloleaaGreatW.PrintMore
theorem At.take {l : List S47} {x : S47} {r : Nat} (h : At l x r) {y : S47} (hy : y ∈ l.take r) : Qci y x = true := by
 obtain ⟨i, hi, rfl⟩ := List.mem_iff_getElem.1 hy
 have h1 := hi
 rw [List.length_take] at h1
 have h2 : i < l.length := by omega
 have := h.2.1 i (by omega)
 rw [rd47 l i h2] at this
 rw [List.getElem_take]; exact this
theorem At.drop {l : List S47} {x : S47} {r : Nat} (h : At l x r) {y : S47} (hy : y ∈ l.drop r) : Qci y x = false := by
 obtain ⟨i, hi, rfl⟩ := List.mem_iff_getElem.1 hy
 have h1 := hi
 rw [List.length_drop] at h1
 have h2 : r + i < l.length := by omega
 have := h.2.2 (r + i) (by omega) h2
 rw [rd47 l (r + i) h2] at this
 rw [List.getElem_drop]; exact this
theorem asc_join {a b : List S47} (ha : Asc a) (hb : Asc b) (h : ∀ x ∈ a, ∀ y ∈ b, Qci x y = true) : Asc (a ++ b) := List.pairwise_append.2 ⟨ha, hb, h⟩
theorem asc_one (x : S47) : Asc [x] := List.pairwise_singleton _ _
theorem Asc.sub {a b : List S47} (h : Asc b) (s : List.Sublist a b) : Asc a := List.Pairwise.sublist s h
theorem add_j0t (k : Nat) (l : List S47) (t : Int) (y : List S47) : Qaj.j0 (k + 1) l t y true = (if 0 ≤ wrap64 (t + 1) then (if wrap64 (t + 1) ≤ (l.length : Int) then (if y.length + (l.drop (wrap64 (t + 1)).toNat).length < 8796093022208 then some (y ++ l.drop (wrap64 (t + 1)).toNat) else none) else none) else none) := by
 rw [Qaj.j0]; rfl
theorem add_j0f (k : Nat) (l : List S47) (t : Int) (y : List S47) : Qaj.j0 (k + 1) l t y false = (if 0 ≤ t then (if t ≤ (l.length : Int) then (if y.length + (l.drop t.toNat).length < 8796093022208 then some (y ++ l.drop t.toNat) else none) else none) else none) := by
 rw [Qaj.j0]; rfl
theorem add_j0 (l y : List S47) (t : Nat) (b : Bool) (hl : l.length ≤ 100000000) (hy : y.length ≤ 200000000) (ht : t ≤ l.length) (hb : b = true → t < l.length) : Ev (fun k => Qaj.j0 k l (t : Int) y b) (y ++ l.drop (if b = true then t + 1 else t)) := by
 refine ⟨1, fun n hn => ?_⟩
 obtain ⟨m, rfl⟩ : ∃ m, n = m + 1 := ⟨n - 1, by omega⟩
 cases b with
 | true =>
  have := hb rfl
  show Qaj.j0 (m + 1) l (t : Int) y true = _
  rw [add_j0t, w64s (n := l.length) (by omega) this, if_pos (by omega), if_pos (by omega), if_pos (by rw [List.length_drop]; omega)]; rfl
 | false =>
  show Qaj.j0 (m + 1) l (t : Int) y false = _
  rw [add_j0f, if_pos (by omega), if_pos (by omega), if_pos (by rw [List.length_drop]; omega)]; rfl
theorem add_spec (l : List S47) (x : S47) (hl : l.length ≤ 50000000) (hA : Asc l) : ∃ r, Ev (fun k => Qaj.f k l x.f0 x.f1) r ∧ Asc r ∧ r.length ≤ l.length + 1 ∧ ∀ y, y ∈ r ↔ y = x ∨ y ∈ l := by
 obtain ⟨t, ht, hx⟩ := find_at l x (by omega) hA
 have hb : ∀ b : Bool, (b = true ↔ (t < l.length ∧ Qaa l (t : Int) = x)) → ∃ r, Ev (fun k => Qaj.j0 k l (t : Int) (l.take t ++ [x]) b) r ∧ Asc r ∧ r.length ≤ l.length + 1 ∧ ∀ y, y ∈ r ↔ y = x ∨ y ∈ l := by
  intro b hb
  refine ⟨_, add_j0 l _ t b (by omega) (by rw [List.length_append, List.length_take, List.length_singleton]; omega) ht.1 (fun h => (hb.1 h).1), ?_⟩
  cases b with
  | true =>
   obtain ⟨h1, h2⟩ := hb.1 rfl
   rw [rd47 l t h1] at h2
   have e : l.take t ++ [x] = l.take (t + 1) := by rw [List.take_add_one, List.getElem?_eq_getElem h1, h2]; rfl
   simp only [if_true]
   rw [e, List.take_append_drop]
   exact ⟨hA, by omega, fun y => ⟨fun h => Or.inr h, fun h => h.elim (fun h => by rw [h, ← h2]; exact List.getElem_mem h1) id⟩⟩
  | false =>
   have hn : x ∉ l := fun h => by have := hb.2 ((ht.mem hA).1 h); cases this
   simp only [Bool.false_eq_true, if_false]
   have hd : ∀ y ∈ l.drop t, Qci x y = true := fun y hy => lessB_tot (ht.drop hy) fun e => hn (e ▸ List.mem_of_mem_drop hy)
   refine ⟨asc_join (asc_join (hA.sub (List.take_sublist _ _)) (asc_one x) fun a ha b hb => ?_) (hA.sub (List.drop_sublist _ _)) fun a ha b hb => ?_, ?_, fun y => ?_⟩
   ·rw [List.mem_singleton] at hb; rw [hb]; exact ht.take ha
   ·rcases List.mem_append.1 ha with h | h
    ·exact Qc2 (ht.take h) (hd b hb)
    ·rw [List.mem_singleton] at h; rw [h]; exact hd b hb
   ·simp only [List.length_append, List.length_take, List.length_drop, List.length_singleton]; have := ht.1; omega
   ·have : y ∈ l ↔ y ∈ l.take t ∨ y ∈ l.drop t := by rw [← List.mem_append, List.take_append_drop]
    rw [this]
    simp only [List.mem_append, List.mem_singleton]
    constructor
    ·rintro ((h | h) | h)
     ·exact Or.inr (Or.inl h)
     ·exact Or.inl h
     ·exact Or.inr (Or.inr h)
    ·rintro (h | h | h)
     ·exact Or.inl (Or.inr h)
     ·exact Or.inl (Or.inl h)
     ·exact Or.inr h
 have htl := ht.1
 unfold Qaj.f
 have hw : wrap64 ((l.length : Int) + 1) = (l.length : Int) + 1 := w64i (by omega) (by omega)
 have main : ∀ r, Ev (fun k => if (t : Int) < (l.length : Int) then Qaj.j0 k l (t : Int) (l.take t ++ [x]) ((Qaa l (t : Int)).f0 == x.f0 && ((Qaa l (t : Int)).f1 == x.f1)) else Qaj.j0 k l (t : Int) (l.take t ++ [x]) false) r → Ev (fun k => (Qa5.f k l x.f0 x.f1).bind fun t139 => (if 0 ≤ (wrap64 ((l.length : Int) + 1)) then (if (wrap64 ((l.length : Int) + 1) : Int).toNat ≤ 17592186044416 then ((some ([] : List (S47))).bind fun y143 => (if 0 ≤ t139 then (if t139 ≤ (l.length : Int) then ((some (l.take (t139 : Int).toNat : List (S47))).bind fun y146 => (if y143.length + y146.length < 8796093022208 then ((some (y143 ++ y146 : List (S47))).bind fun y150 => ((some (([(⟨x.f0, x.f1⟩ : S47)] : List (S47)) : List (S47))).bind fun y153 => (if y150.length + y153.length < 8796093022208 then ((some (y150 ++ y153 : List (S47))).bind fun y156 => (if t139 < (l.length : Int) then (Qaj.j0 k l t139 y156 (((Qaa l t139).f0) == x.f0 && (((Qaa l t139).f1) == x.f1))) else (Qaj.j0 k l t139 y156 false))) else (none)))) else (none))) else (none)) else (none))) else (none)) else (none))) r := fun r h =>
  Ev.then hx (Ev.pos (by omega) (Ev.pos (by omega) (Ev.pos (by omega) (Ev.pos (by simp only [List.length_nil, List.length_take]; omega) (Ev.pos (by simp only [List.nil_append, List.length_take, List.length_singleton, Int.toNat_natCast]; omega) h)))))
 by_cases h : (t : Int) < (l.length : Int)
 ·obtain ⟨r, h1, h2⟩ := hb ((Qaa l (t : Int)).f0 == x.f0 && ((Qaa l (t : Int)).f1 == x.f1)) (by
    cases hq : Qaa l (t : Int); cases x
    simp; omega)
  exact ⟨r, main r (Ev.pos h h1), h2⟩
 ·obtain ⟨r, h1, h2⟩ := hb false (by simp; omega)
  exact ⟨r, main r (Ev.neg h h1), h2⟩
theorem Ev.upn {α : Type} {f g : Nat → Option α} {r : α} (m : Nat) (h : ∀ k, f (k + m) = g k) (k : Ev g r) : Ev f r := by
 obtain ⟨K, k⟩ := k
 exact ⟨K + m, fun n hn => by obtain ⟨i, rfl⟩ : ∃ i, n = i + m := ⟨n - m, by omega⟩; rw [h]; exact k i (by omega)⟩
theorem uni_end (k : Nat) (a b o : List S47) (h : a = [] ∨ b = []) (hl : o.length + a.length + b.length ≤ 100000000) : Qae.l0 (k + 2) a b o = some (o ++ a ++ b) := by
 have e : Qae.l0 (k + 2) a b o = Qae.j1 (k + 1) a b o false := by
  rw [Qae.l0]
  rcases h with rfl | rfl
  ·rfl
  ·split <;> rfl
 rw [e, Qae.j1]
 show (if o.length + a.length < 8796093022208 then ((some (o ++ a : List S47)).bind fun y => if y.length + b.length < 8796093022208 then some (y ++ b) else none) else none) = _
 rw [if_pos (by omega)]
 show (if (o ++ a).length + b.length < 8796093022208 then some (o ++ a ++ b) else none) = _
 rw [if_pos (by rw [List.length_append]; omega)]
open Classical in
theorem uni_j3 (k : Nat) (a b o : List S47) (q p : S47) : Qae.j3 (k + 1) a (q :: b) o p.f0 p.f1 = Qae.l0 k a (if q = p then b else q :: b) o := by
 rw [Qae.j3, if_pos (by simp)]
 show (if (q.f0 == p.f0 && (q.f1 == p.f1)) = true then _ else _) = _
 by_cases h : q = p
 ·subst h; simp; omega
 ·rw [if_neg h, if_neg (fun h2 => h (by cases q; cases p; simp at h2 ⊢; omega))]
open Classical in
theorem uni_j2 (k : Nat) (a b o : List S47) (q p : S47) (hl : o.length ≤ 100000000) : Qae.j2 (k + 1) (q :: a) b o p.f0 p.f1 = Qae.j3 k (if q = p then a else q :: a) b (o ++ [p]) p.f0 p.f1 := by
 rw [Qae.j2, if_pos (by omega)]
 show (if 0 < (((q :: a).length : Nat) : Int) then (if (q.f0 == p.f0 && (q.f1 == p.f1)) = true then _ else _) else none) = _
 rw [if_pos (by simp)]
 by_cases h : q = p
 ·subst h; simp; omega
 ·rw [if_neg h, if_neg (fun h2 => h (by cases q; cases p; simp at h2 ⊢; omega))]
open Classical in
theorem uni_j1 (k : Nat) (s t o : List S47) (p q : S47) (hl : o.length ≤ 100000000) : Qae.l0 (k + 4) (p :: s) (q :: t) o = if Qci q p = true then Qae.l0 k (if p = q then s else p :: s) (if q = q then t else q :: t) (o ++ [q]) else Qae.l0 k (if p = p then s else p :: s) (if q = p then t else q :: t) (o ++ [p]) := by
 rw [Qae.l0, if_pos (by simp), Qae.j1, if_pos (by simp), if_pos (by simp), if_pos (by simp)]
 show (Qa8.f q.f0 q.f1 p.f0 p.f1).bind _ = _
 rw [less_eq]
 show (if Qci q p = true then Qae.j2 (k + 2) (p :: s) (q :: t) o q.f0 q.f1 else Qae.j2 (k + 2) (p :: s) (q :: t) o p.f0 p.f1) = _
 rw [uni_j2 _ _ _ _ _ _ hl, uni_j2 _ _ _ _ _ _ hl, uni_j3, uni_j3]
theorem asc_cons {x : S47} {l : List S47} (h : Asc (x :: l)) : (∀ y ∈ l, Qci x y = true) ∧ Asc l := List.pairwise_cons.1 h
theorem uni_spec : ∀ n (a b o : List S47), a.length + b.length = n → o.length + n ≤ 100000000 → Asc a → Asc b → Asc o → (∀ y ∈ o, ∀ z, z ∈ a ∨ z ∈ b → Qci y z = true) →
    ∃ r, Ev (fun k => Qae.l0 k a b o) r ∧ Asc r ∧ r.length ≤ o.length + n ∧ ∀ y, y ∈ r ↔ y ∈ o ∨ y ∈ a ∨ y ∈ b := by
 intro n
 induction n using Nat.strongRecOn with
 | _ n ih =>
  intro a b o hn hl ha hb ho hlt
  match a, b, hn, ha, hb, hlt with
  | [], b, hn, ha, hb, hlt =>
   refine ⟨o ++ [] ++ b, ⟨2, fun n hn => by obtain ⟨m, rfl⟩ : ∃ m, n = m + 2 := ⟨n - 2, by omega⟩; exact uni_end m [] b o (Or.inl rfl) (by simp at *; omega)⟩, ?_, ?_, fun y => by simp⟩
   ·rw [List.append_nil]; exact asc_join ho hb fun x hx y hy => hlt x hx y (Or.inr hy)
   ·simp at *; omega
  | p :: s, [], hn, ha, hb, hlt =>
   refine ⟨o ++ (p :: s) ++ [], ⟨2, fun n hn => by obtain ⟨m, rfl⟩ : ∃ m, n = m + 2 := ⟨n - 2, by omega⟩; exact uni_end m _ [] o (Or.inr rfl) (by simp at *; omega)⟩, ?_, ?_, fun y => by simp⟩
   ·rw [List.append_nil]; exact asc_join ho ha fun x hx y hy => hlt x hx y (Or.inl hy)
   ·simp at *; omega
  | p :: s, q :: t, hn, ha, hb, hlt =>
   obtain ⟨hp, hs⟩ := asc_cons ha
   obtain ⟨hq, ht⟩ := asc_cons hb
   simp only [List.length_cons] at hn
   have snoc : ∀ z, z ∈ p :: s ∨ z ∈ q :: t → Asc (o ++ [z]) := fun z hz => asc_join ho (asc_one z) fun x hx y hy => by rw [List.mem_singleton] at hy; rw [hy]; exact hlt x hx z hz
   have hup : ∀ k, Qae.l0 (k + 4) (p :: s) (q :: t) o = _ := fun k => uni_j1 k s t o p q (by omega)
   by_cases hqp : Qci q p = true
   ·have hne : p ≠ q := fun e => by rw [e, Qee] at hqp; cases hqp
    simp only [if_pos hqp, if_neg hne, if_true] at hup
    obtain ⟨r, h1, h2, h3, h4⟩ := ih (s.length + 1 + t.length) (by omega) (p :: s) t (o ++ [q]) rfl (by rw [List.length_append, List.length_singleton]; omega) ha ht (snoc q (Or.inr (by simp))) (fun y hy z hz => by
     rcases List.mem_append.1 hy with h | h
     ·exact hlt y h z (hz.imp id fun h => List.mem_cons_of_mem _ h)
     ·rw [List.mem_singleton] at h; rw [h]
      rcases hz with h | h
      ·rcases List.mem_cons.1 h with h | h
       ·rw [h]; exact hqp
       ·exact Qc2 hqp (hp z h)
      ·exact hq z h)
    refine ⟨r, Ev.upn 4 hup h1, h2, by rw [List.length_append, List.length_singleton] at h3; omega, fun y => (h4 y).trans ?_⟩
    simp only [List.mem_append, List.mem_cons, List.not_mem_nil, or_false]
    constructor
    ·rintro ((h | h) | h | h)
     ·exact Or.inl h
     ·exact Or.inr (Or.inr (Or.inl h))
     ·exact Or.inr (Or.inl h)
     ·exact Or.inr (Or.inr (Or.inr h))
    ·rintro (h | h | (h | h))
     ·exact Or.inl (Or.inl h)
     ·exact Or.inr (Or.inl h)
     ·exact Or.inl (Or.inr h)
     ·exact Or.inr (Or.inr h)
   ·have hqp' : Qci q p = false := by simpa using hqp
    by_cases hne : q = p
    ·simp only [if_neg hqp, if_pos hne, if_true] at hup
     subst hne
     obtain ⟨r, h1, h2, h3, h4⟩ := ih (s.length + t.length) (by omega) s t (o ++ [q]) rfl (by rw [List.length_append, List.length_singleton]; omega) hs ht (snoc q (Or.inl (by simp))) (fun y hy z hz => by
      rcases List.mem_append.1 hy with h | h
      ·exact hlt y h z (hz.imp (fun h => List.mem_cons_of_mem _ h) fun h => List.mem_cons_of_mem _ h)
      ·rw [List.mem_singleton] at h; rw [h]
       rcases hz with h | h
       ·exact hp z h
       ·exact hq z h)
     refine ⟨r, Ev.upn 4 hup h1, h2, by rw [List.length_append, List.length_singleton] at h3; omega, fun y => (h4 y).trans ?_⟩
     simp only [List.mem_append, List.mem_cons, List.not_mem_nil, or_false]
     constructor
     ·rintro ((h | h) | h | h)
      ·exact Or.inl h
      ·exact Or.inr (Or.inl (Or.inl h))
      ·exact Or.inr (Or.inl (Or.inr h))
      ·exact Or.inr (Or.inr (Or.inr h))
     ·rintro (h | (h | h) | h | h)
      ·exact Or.inl (Or.inl h)
      ·exact Or.inl (Or.inr h)
      ·exact Or.inr (Or.inl h)
      ·exact Or.inl (Or.inr h)
      ·exact Or.inr (Or.inr h)
    ·have hpq : Qci p q = true := lessB_tot hqp' hne
     simp only [if_neg hqp, if_neg hne, if_true] at hup
     obtain ⟨r, h1, h2, h3, h4⟩ := ih (s.length + (t.length + 1)) (by omega) s (q :: t) (o ++ [p]) rfl (by rw [List.length_append, List.length_singleton]; omega) hs hb (snoc p (Or.inl (by simp))) (fun y hy z hz => by
      rcases List.mem_append.1 hy with h | h
      ·exact hlt y h z (hz.imp (fun h => List.mem_cons_of_mem _ h) id)
      ·rw [List.mem_singleton] at h; rw [h]
       rcases hz with h | h
       ·exact hp z h
       ·rcases List.mem_cons.1 h with h | h
        ·rw [h]; exact hpq
        ·exact Qc2 hpq (hq z h))
     refine ⟨r, Ev.upn 4 hup h1, h2, by rw [List.length_append, List.length_singleton] at h3; omega, fun y => (h4 y).trans ?_⟩
     simp only [List.mem_append, List.mem_cons, List.not_mem_nil, or_false]
     constructor
     ·rintro ((h | h) | h | h)
      ·exact Or.inl h
      ·exact Or.inr (Or.inl (Or.inl h))
      ·exact Or.inr (Or.inl (Or.inr h))
      ·exact Or.inr (Or.inr h)
     ·rintro (h | (h | h) | h)
      ·exact Or.inl (Or.inl h)
      ·exact Or.inl (Or.inr h)
      ·exact Or.inr (Or.inl h)
      ·exact Or.inr (Or.inr h)
theorem union_spec (a b : List S47) (ha : Asc a) (hb : Asc b) (hl : a.length + b.length ≤ 50000000) : ∃ r, Ev (fun k => Qae.f k a b) r ∧ Asc r ∧ r.length ≤ a.length + b.length ∧ ∀ y, y ∈ r ↔ y ∈ a ∨ y ∈ b := by
 obtain ⟨r, h1, h2, h3, h4⟩ := uni_spec _ a b [] rfl (by simp; omega) ha hb List.Pairwise.nil (fun y hy => absurd hy (by simp))
 have hw : wrap64 ((a.length : Int) + (b.length : Int)) = (a.length : Int) + (b.length : Int) := w64i (by omega) (by omega)
 refine ⟨r, ?_, h2, by simpa using h3, fun y => (h4 y).trans (by simp)⟩
 unfold Qae.f
 exact Ev.pos (by omega) (Ev.pos (by omega) h1)
end Go.Proofs.YtchpkjgibloleaaGreat.Z
namespace Go.Proofs.YtchpkjgibloleaaGreat.Z
set_option maxRecDepth 100000
set_option maxHeartbeats 8000000
open Go.RowKit Go.Proofs.YtchpkjgibloleaaGreatW.PrintWords Go.Proofs.YtchpkjgibloleaaGreatW.PrintLast Go.Proofs.YtchpkjgibloleaaGreatW.PrintMore
theorem Qdo {l : List S47} (h : Asc l) (f : S47 → Bool) : Asc (l.filter f) := h.sub List.filter_sublist
theorem flt_len (l : List S47) (f : S47 → Bool) : (l.filter f).length ≤ l.length := List.length_filter_le f l
theorem asc_copies {l : List S47} (h : Asc l) (d a : Int) : Asc ((l.filter fun p => p.f0 == a).map fun p => (⟨d, p.f1⟩ : S47)) := by
 unfold Asc
 rw [List.pairwise_map]
 refine List.Pairwise.imp_of_mem (fun {x y} hx hy hxy => ?_) (Qdo h _)
 have h1 := (List.mem_filter.1 hx).2
 have h2 := (List.mem_filter.1 hy).2
 simp only [beq_iff_eq] at h1 h2
 rw [Qdh] at hxy ⊢
 show d < d ∨ (d = d ∧ x.f1 < y.f1)
 omega
theorem asc_moves {l : List S47} (h : Asc l) (d a : Int) : Asc ((l.filter fun p => p.f1 == a).map fun p => (⟨p.f0, d⟩ : S47)) := by
 unfold Asc
 rw [List.pairwise_map]
 refine List.Pairwise.imp_of_mem (fun {x y} hx hy hxy => ?_) (Qdo h _)
 have h1 := (List.mem_filter.1 hx).2
 have h2 := (List.mem_filter.1 hy).2
 simp only [beq_iff_eq] at h1 h2
 rw [Qdh] at hxy ⊢
 show x.f0 < y.f0 ∨ (x.f0 = y.f0 ∧ d < d)
 omega
theorem Qe3 (l : List S47) (d a : Int) (hl : l.length ≤ 10000000) (hA : Asc l) : ∃ r, Ev (fun k => Qeh k l d a) r ∧ Asc r ∧ r.length ≤ l.length + 1 ∧ ∀ y, y ∈ r ↔ y = ⟨d, a⟩ ∨ (y ∈ l ∧ y.f0 ≠ d ∧ y.f1 ≠ a) := by
 have h1 := flt_len (l.filter fun p => p.f0 != d) fun p => p.f1 != a
 have h2 := flt_len l fun p => p.f0 != d
 obtain ⟨r, e, hr, hn, hm⟩ := add_spec ((l.filter fun p => p.f0 != d).filter fun p => p.f1 != a) ⟨d, a⟩ (by omega) (Qdo (Qdo hA _) _)
 refine ⟨r, ?_, hr, by omega, fun y => (hm y).trans ?_⟩
 ·unfold Qeh; exact Ev.pos (by omega) e
 ·simp only [List.mem_filter, bne_iff_ne, ne_eq, and_assoc]
theorem copyS_spec (l : List S47) (d a : Int) (hl : l.length ≤ 10000000) (hA : Asc l) : ∃ r, Ev (fun k => copyS k l d a) r ∧ Asc r ∧ r.length ≤ l.length + l.length ∧ ∀ y, y ∈ r ↔ (y ∈ l ∧ y.f0 ≠ d) ∨ (y.f0 = d ∧ (⟨a, y.f1⟩ : S47) ∈ l) := by
 unfold copyS
 by_cases h : d = a
 ·subst h
  refine ⟨l, Ev.pos (by omega) (Ev.pos rfl (Ev.pos hA (Ev.val rfl))), hA, by omega, fun y => ?_⟩
  constructor
  ·intro hy
   by_cases hd : y.f0 = d
   ·exact Or.inr ⟨hd, by rw [← hd]; exact hy⟩
   ·exact Or.inl ⟨hy, hd⟩
  ·rintro (h | ⟨h1, h2⟩)
   ·exact h.1
   ·rw [← h1] at h2; exact h2
 ·have h1 := flt_len l fun p => p.f0 != d
  have h2 := flt_len l fun p => p.f0 == a
  obtain ⟨r, e, hr, hn, hm⟩ := union_spec (l.filter fun p => p.f0 != d) ((l.filter fun p => p.f0 == a).map fun p => (⟨d, p.f1⟩ : S47)) (Qdo hA _) (asc_copies hA d a) (by rw [List.length_map]; omega)
  rw [List.length_map] at hn
  refine ⟨r, Ev.pos (by omega) (Ev.neg h (by unfold renS; exact Ev.pos (asc_copies hA d a) e)), hr, by omega, fun y => (hm y).trans ?_⟩
  simp only [List.mem_filter, bne_iff_ne, ne_eq, List.mem_map, beq_iff_eq]
  refine or_congr Iff.rfl ⟨?_, ?_⟩
  ·rintro ⟨p, ⟨h3, h4⟩, rfl⟩
   exact ⟨rfl, by rw [← h4]; exact h3⟩
  ·rintro ⟨h3, h4⟩
   exact ⟨_, ⟨h4, rfl⟩, by rw [← h3]⟩
theorem Qer (l : List S47) (d a : Int) (hl : l.length ≤ 10000000) (hA : Asc l) : ∃ r, Ev (fun k => moveS k l d a) r ∧ Asc r ∧ r.length ≤ l.length + l.length ∧ ∀ y, y ∈ r ↔ (y ∈ l ∧ y.f1 ≠ d) ∨ (y.f1 = d ∧ (⟨y.f0, a⟩ : S47) ∈ l) := by
 unfold moveS
 by_cases h : d = a
 ·subst h
  refine ⟨l, Ev.pos (by omega) (Ev.pos rfl (Ev.pos hA (Ev.val rfl))), hA, by omega, fun y => ?_⟩
  constructor
  ·intro hy
   by_cases hd : y.f1 = d
   ·exact Or.inr ⟨hd, by rw [← hd]; exact hy⟩
   ·exact Or.inl ⟨hy, hd⟩
  ·rintro (h | ⟨h1, h2⟩)
   ·exact h.1
   ·rw [← h1] at h2; exact h2
 ·have h1 := flt_len l fun p => p.f1 != d
  have h2 := flt_len l fun p => p.f1 == a
  obtain ⟨r, e, hr, hn, hm⟩ := union_spec (l.filter fun p => p.f1 != d) ((l.filter fun p => p.f1 == a).map fun p => (⟨p.f0, d⟩ : S47)) (Qdo hA _) (asc_moves hA d a) (by rw [List.length_map]; omega)
  rw [List.length_map] at hn
  refine ⟨r, Ev.pos (by omega) (Ev.neg h (by unfold renS; exact Ev.pos (asc_moves hA d a) e)), hr, by omega, fun y => (hm y).trans ?_⟩
  simp only [List.mem_filter, bne_iff_ne, ne_eq, List.mem_map, beq_iff_eq]
  refine or_congr Iff.rfl ⟨?_, ?_⟩
  ·rintro ⟨p, ⟨h3, h4⟩, rfl⟩
   exact ⟨rfl, by rw [← h4]; exact h3⟩
  ·rintro ⟨h3, h4⟩
   exact ⟨_, ⟨h4, rfl⟩, by rw [← h3]⟩
def Goo (s : Bs) : Prop := Asc s.set ∧ s.set.length ≤ 1048576 ∧ s.most = 1048576
def Okk (f : Nat → OBs) : Prop := ∃ x, Ev f x ∧ (x.2 = none → Goo x.1) ∧ ∀ q, x.2 = some q → q.1 ≠ 0
theorem Okk.then {f : Nat → OBs} {K : Nat → Bs → OBs} (h : Okk f) (hk : ∀ s, Goo s → Okk (fun k => K k s)) : Okk (fun k => (f k).then (K k)) := by
 obtain ⟨⟨s, p⟩, e, hg, hq⟩ := h
 cases p with
 | none =>
  obtain ⟨y, ey, hy⟩ := hk s (hg rfl)
  exact ⟨y, Ev.then e ey, hy⟩
 | some q => exact ⟨(s, some q), Ev.then e (Ev.val rfl), by simp, fun q' h => hq q' h⟩
theorem Okk.of {s : Bs} (h : Goo s) : Okk (fun _ => some (s, none)) := ⟨_, Ev.val rfl, fun _ => h, by simp⟩
theorem useOk {s : Bs} (h : Goo s) (v r i : Int) : Okk (fun k => useF k s v r i) := by
 obtain ⟨b, hb, _⟩ := has_spec s.set ⟨v, wrap64 (2 * r)⟩ (by have := h.2.1; omega) h.1
 unfold useF
 refine ⟨_, Ev.then hb (Ev.val rfl), fun _ => h, ?_⟩
 cases b with
 | true => simp
 | false => rintro q h; simp at h; rw [← h]; simp
theorem becOk {s : Bs} (hs : s.most = 1048576) {l : List S47} (hA : Asc l) (i : Int) : ((Qcg s l i).2 = none → Goo (Qcg s l i).1) ∧ ∀ q, (Qcg s l i).2 = some q → q.1 ≠ 0 := by
 unfold Qcg
 by_cases h : (l.length : Int) > s.most
 ·simp only [if_pos h]; exact ⟨by simp, fun q hq => by simp at hq; rw [← hq]; simp⟩
 ·simp only [if_neg h]; exact ⟨fun _ => ⟨hA, by show l.length ≤ _; omega, hs⟩, by simp⟩
theorem copyF_ok {s : Bs} (h : Goo s) (d a i : Int) : Okk (fun k => copyF k s d a i) := by
 obtain ⟨r, e, hA, _⟩ := copyS_spec s.set d a (by have := h.2.1; omega) h.1
 unfold copyF
 exact ⟨_, Ev.then e (Ev.val rfl), becOk (s := s.cost) h.2.2 hA i⟩
theorem moveF_ok {s : Bs} (h : Goo s) (d a i : Int) : Okk (fun k => moveF k s d a i) := by
 obtain ⟨r, e, hA, _⟩ := Qer s.set d a (by have := h.2.1; omega) h.1
 unfold moveF
 exact ⟨_, Ev.then e (Ev.val rfl), becOk (s := s.cost) h.2.2 hA i⟩
theorem instrD_ok {s : Bs} (h : Goo s) (d : Bool) (iD mD i : Int) : Okk (fun k => Qeu k s d iD mD i) := by
 unfold Qeu
 cases d with
 | false => exact Okk.of h
 | true =>
  obtain ⟨r, e, hA, _⟩ := Qe3 s.set iD (wrap64 (2 * mD)) (by have := h.2.1; omega) h.1
  exact ⟨_, Ev.then e (Ev.val rfl), becOk (s := s.cost) h.2.2 hA i⟩
theorem instrB_ok {s : Bs} (h : Goo s) (d b : Bool) (iD iB mD mB i : Int) : Okk (fun k => instrB k s d b iD iB mD mB i) := by
 unfold instrB
 cases b with
 | false => exact instrD_ok h d iD mD i
 | true => exact (useOk h iB mB i).then fun s1 h1 => instrD_ok h1 d iD mD i
theorem instrF_ok {s : Bs} (h : Goo s) (i : S41) (m : S59) (ia : Int) : Okk (fun k => instrF k s i m ia) := by
 unfold instrF instrA
 rw [of_some]
 simp only [Option.bind_some]
 cases (OF i.f0).2.1 with
 | false => exact instrB_ok h _ _ _ _ _ _ _
 | true => exact (useOk h _ _ _).then fun s1 h1 => instrB_ok h1 _ _ _ _ _ _ _
theorem copies_ok (m : Int) (K : Nat → Bs → OBs) (hK : ∀ s, Goo s → Okk (fun k => K k s)) : ∀ (l : List S41) (s : Bs), Goo s → Okk (fun k => Qei k m l s (K k)) := by
 intro l
 induction l with
 | nil => exact fun s h => hK s h
 | cons c l ih => exact fun s h => (copyF_ok h c.f1 c.f2 m).then fun s1 h1 => ih s1 h1
theorem moves_ok (mc : List S59) (K : Nat → Bs → OBs) (hK : ∀ s, Goo s → Okk (fun k => K k s)) : ∀ (n : Nat) (j : Int) (s : Bs), 0 ≤ j → j + n ≤ (mc.length : Int) → Goo s → Okk (fun k => Qdc k mc n j s (K k)) := by
 intro n
 induction n with
 | zero => exact fun j s _ _ h => hK s h
 | succ n ih =>
  intro j s h0 hn h
  have : ∀ k, Qdc k mc (n + 1) j s (K k) = (moveF k s (Qag mc j).f5 (Qag mc j).f6 j).then fun s1 => Qdc k mc n (j + 1) s1 (K k) := fun k => by
   rw [Qdc, if_pos ⟨h0, by omega⟩]
  simp only [this]
  exact (moveF_ok h _ _ _).then fun s1 h1 => ih (j + 1) s1 (by omega) (by omega) h1
def okAr (n m : Nat) (r : S180) : Prop := (0 ≤ r.f0 ∧ r.f0 ≤ r.f1 ∧ r.f1 ≤ (n : Int)) ∧ (0 ≤ r.f2 ∧ r.f2 ≤ r.f3 ∧ r.f3 ≤ (m : Int)) ∧ (r.f4 ≥ 0 → r.f4 < (n : Int) ∧ 0 ≤ r.f5 ∧ r.f5 < (m : Int))
theorem srcF_ok (bc : List S41) (mc : List S59) (r4 r5 : Int) (h : r4 ≥ 0 → r4 < (bc.length : Int) ∧ 0 ≤ r5 ∧ r5 < (mc.length : Int)) {s : Bs} (hs : Goo s) : Okk (fun k => srcF k bc mc r4 r5 s) := by
 unfold srcF
 by_cases h4 : r4 ≥ 0
 ·have := h h4
  simp only [if_pos h4, if_pos this]
  exact instrF_ok hs _ _ _
 ·simp only [if_neg h4]; exact Okk.of hs
theorem rowF_ok (bc : List S41) (mc : List S59) (r : S180) (h : okAr bc.length mc.length r) {s : Bs} (hs : Goo s) : Okk (fun k => rowF k bc mc r s) := by
 unfold rowF
 simp only [if_pos h.1]
 exact copies_ok _ (fun k s1 => Qdc k mc (r.f3 - r.f2).toNat r.f2 s1 fun s2 => srcF k bc mc r.f4 r.f5 s2) (fun s1 h1 => moves_ok mc _ (fun s2 h2 => srcF_ok bc mc _ _ h.2.2 h2) _ _ s1 h.2.1.1 (by have := h.2.1; omega) h1) _ s hs
theorem rows_ok (bc : List S41) (mc : List S59) (K : Nat → Bs → OBs) (hK : ∀ s, Goo s → Okk (fun k => K k s)) : ∀ (l : List S180), (∀ r ∈ l, okAr bc.length mc.length r) → ∀ s, Goo s → Okk (fun k => rowsF k bc mc l s (K k)) := by
 intro l
 induction l with
 | nil => exact fun _ s h => hK s h
 | cons r l ih => exact fun hl s h => (rowF_ok bc mc r (hl r (by simp)) h).then fun s1 h1 => ih (fun q hq => hl q (by simp [hq])) s1 h1
theorem endF_ok (bt mt : S37) (n : Int) {s : Bs} (hs : Goo s) : Okk (fun k => endF k bt mt n s) := by
 unfold endF
 by_cases h : bt.f0 = 1
 ·simp only [if_pos h]; exact Okk.of hs
 ·simp only [if_neg h]; exact useOk hs _ _ _
theorem runF_ok (bc : List S41) (mc : List S59) (bt mt : S37) (rows : List S180) (h : ∀ r ∈ rows, okAr bc.length mc.length r) {s : Bs} (hs : Goo s) : Okk (fun k => runF k bc mc bt mt rows s) := by
 unfold runF
 exact rows_ok bc mc _ (fun s1 h1 => endF_ok bt mt _ h1) rows h s hs
theorem same_some (a b c d e a' b' c' d' e' f' g' : Int) : ∃ t, align_Same.f a b c d e a' b' c' d' e' f' g' = some t := by
 unfold align_Same.f
 split
 ·split
  ·split <;> exact ⟨_, rfl⟩
  ·exact ⟨_, rfl⟩
 ·exact ⟨_, rfl⟩
theorem terms_some (a b c d a' b' c' d' : Int) : ∃ t, align_Terms.f a b c d a' b' c' d' = some t := by
 unfold align_Terms.f
 split
 ·split <;> exact ⟨_, rfl⟩
 ·exact ⟨_, rfl⟩
inductive Evt where
 | cp (d a : Int)
 | mv (d a : Int)
 | ins (i : S41) (m : S59)
def evF (k : Nat) : Evt → Int → Bs → OBs
 | .cp d a, x, s => copyF k s d a x
 | .mv d a, x, s => moveF k s d a x
 | .ins i m, x, s => instrF k s i m x
def runE (k : Nat) : List (Evt × Int) → Bs → (Bs → OBs) → OBs
 | [], s, K => K s
 | e :: t, s, K => (evF k e.1 e.2 s).then fun s1 => runE k t s1 K
theorem OBs.then_assoc (o : OBs) (f g : Bs → OBs) : (o.then f).then g = o.then fun s => (f s).then g := by
 cases o with
 | none => rfl
 | some p =>
  obtain ⟨s, q⟩ := p
  cases q <;> rfl
theorem runE_app (k : Nat) : ∀ (a b : List (Evt × Int)) (s : Bs) (K : Bs → OBs), runE k (a ++ b) s K = runE k a s fun s1 => runE k b s1 K
 | [], b, s, K => rfl
 | e :: a, b, s, K => by
  show (evF k e.1 e.2 s).then _ = (evF k e.1 e.2 s).then _
  exact congrArg _ (funext fun s1 => runE_app k a b s1 K)
def movesE (mc : List S59) : Nat → Int → List (Evt × Int)
 | 0, _ => []
 | n + 1, j => (.mv (Qag mc j).f5 (Qag mc j).f6, j) :: movesE mc n (j + 1)
def srcE (bc : List S41) (mc : List S59) (r4 r5 : Int) : List (Evt × Int) := if r4 ≥ 0 then [(.ins (Qav bc r4) (Qag mc r5), r5)] else []
def copiesE (m : Int) (l : List S41) : List (Evt × Int) := l.map fun i => (Evt.cp i.f1 i.f2, m)
def rowE (bc : List S41) (mc : List S59) (r : S180) : List (Evt × Int) := copiesE r.f2 ((bc.take r.f1.toNat).drop r.f0.toNat) ++ (movesE mc (r.f3 - r.f2).toNat r.f2 ++ srcE bc mc r.f4 r.f5)
theorem copies_eq (k : Nat) (m : Int) (K : Bs → OBs) : ∀ (l : List S41) (s : Bs), Qei k m l s K = runE k (copiesE m l) s K
 | [], s => rfl
 | c :: l, s => by
  show (copyF k s c.f1 c.f2 m).then _ = (copyF k s c.f1 c.f2 m).then _
  exact congrArg _ (funext fun s1 => copies_eq k m K l s1)
theorem moves_eq (k : Nat) (mc : List S59) (K : Bs → OBs) : ∀ (n : Nat) (j : Int) (s : Bs), 0 ≤ j → j + n ≤ (mc.length : Int) → Qdc k mc n j s K = runE k (movesE mc n j) s K
 | 0, j, s, _, _ => rfl
 | n + 1, j, s, h0, h1 => by
  rw [Qdc, if_pos ⟨h0, by omega⟩]
  show (moveF k s _ _ j).then _ = (moveF k s _ _ j).then _
  exact congrArg _ (funext fun s1 => moves_eq k mc K n (j + 1) s1 (by omega) (by omega))
theorem src_eq (k : Nat) (bc : List S41) (mc : List S59) (r4 r5 : Int) (h : r4 ≥ 0 → r4 < (bc.length : Int) ∧ 0 ≤ r5 ∧ r5 < (mc.length : Int)) (s : Bs) (K : Bs → OBs) : (srcF k bc mc r4 r5 s).then K = runE k (srcE bc mc r4 r5) s K := by
 unfold srcF srcE
 by_cases h4 : r4 ≥ 0
 ·rw [if_pos h4, if_pos h4, if_pos (h h4)]; rfl
 ·rw [if_neg h4, if_neg h4]; rfl
theorem copies_then (k : Nat) (m : Int) (K L : Bs → OBs) : ∀ (l : List S41) (s : Bs), (Qei k m l s K).then L = Qei k m l s fun s1 => (K s1).then L
 | [], s => rfl
 | c :: l, s => by
  show ((copyF k s c.f1 c.f2 m).then _).then L = (copyF k s c.f1 c.f2 m).then _
  rw [OBs.then_assoc]
  exact congrArg _ (funext fun s1 => copies_then k m K L l s1)
theorem moves_then (k : Nat) (mc : List S59) (K L : Bs → OBs) : ∀ (n : Nat) (j : Int) (s : Bs), (Qdc k mc n j s K).then L = Qdc k mc n j s fun s1 => (K s1).then L
 | 0, j, s => rfl
 | n + 1, j, s => by
  unfold Qdc
  by_cases h : 0 ≤ j ∧ j < (mc.length : Int)
  ·rw [if_pos h, if_pos h, OBs.then_assoc]
   exact congrArg _ (funext fun s1 => moves_then k mc K L n (j + 1) s1)
  ·rw [if_neg h, if_neg h]; rfl
theorem row_eq (k : Nat) (bc : List S41) (mc : List S59) (r : S180) (h : okAr bc.length mc.length r) (s : Bs) (K : Bs → OBs) : (rowF k bc mc r s).then K = runE k (rowE bc mc r) s K := by
 unfold rowF rowE
 rw [if_pos h.1, copies_then, copies_eq, runE_app]
 refine congrArg _ (funext fun s1 => ?_)
 rw [moves_then, moves_eq k mc _ _ _ s1 h.2.1.1 (by have := h.2.1; omega), runE_app]
 exact congrArg _ (funext fun s2 => src_eq k bc mc r.f4 r.f5 h.2.2 s2 K)
theorem rows_eq (k : Nat) (bc : List S41) (mc : List S59) (K : Bs → OBs) : ∀ (l : List S180), (∀ r ∈ l, okAr bc.length mc.length r) → ∀ s, rowsF k bc mc l s K = runE k (l.flatMap (rowE bc mc)) s K
 | [], _, s => rfl
 | r :: l, h, s => by
  rw [List.flatMap_cons, runE_app]
  show (rowF k bc mc r s).then _ = _
  rw [row_eq k bc mc r (h r (by simp))]
  exact congrArg _ (funext fun s1 => rows_eq k bc mc K l (fun q hq => h q (by simp [hq])) s1)
def isC (i : S41) : Bool := i.f0 == 2
def isM (m : S59) : Bool := m.f0 == 18
def cpE (i : S41) : Evt := .cp i.f1 i.f2
def mvE (m : S59) : Evt := .mv m.f5 m.f6
def sameB (i : S41) (m : S59) : Bool := (align_Same.f i.f0 i.f1 i.f2 i.f3 i.f4 m.f0 m.f1 m.f2 m.f3 m.f4 m.f5 m.f6).getD false
def evs : Nat → List S41 → List S59 → List Evt
 | 0, _, _ => []
 | n + 1, bc, mc => (bc.takeWhile isC).map cpE ++ ((mc.takeWhile isM).map mvE ++ match bc.dropWhile isC, mc.dropWhile isM with
  | i :: b, m :: c => .ins i m :: evs n b c
  | _, _ => [])
def alOk : Nat → List S41 → List S59 → Bool
 | 0, _, _ => false
 | n + 1, bc, mc => match bc.dropWhile isC, mc.dropWhile isM with
  | [], [] => true
  | i :: b, m :: c => sameB i m && alOk n b c
  | _, _ => false
theorem cut_at {α : Type} (f : α → Bool) : ∀ A : List α, (∀ x ∈ A, f x = true) ∨ ∃ M m A2, A = M ++ m :: A2 ∧ (∀ x ∈ M, f x = true) ∧ f m = false
 | [] => Or.inl (by simp)
 | a :: A => by
  cases h : f a with
  | false => exact Or.inr ⟨[], a, A, rfl, by simp, h⟩
  | true =>
   rcases cut_at f A with h1 | ⟨M, m, A2, h1, h2, h3⟩
   ·exact Or.inl (fun x hx => by rcases List.mem_cons.1 hx with e | e; exact e ▸ h; exact h1 x e)
   ·exact Or.inr ⟨a :: M, m, A2, by rw [h1]; rfl, fun x hx => by rcases List.mem_cons.1 hx with e | e; exact e ▸ h; exact h2 x e, h3⟩
theorem take_all {α : Type} (f : α → Bool) (B : List α) : ∀ A : List α, (∀ x ∈ A, f x = true) → (A ++ B).takeWhile f = A ++ B.takeWhile f ∧ (A ++ B).dropWhile f = B.dropWhile f
 | [], _ => ⟨rfl, rfl⟩
 | a :: A, h => by
  obtain ⟨h1, h2⟩ := take_all f B A (fun x hx => h x (by simp [hx]))
  have ha := h a (by simp)
  simp only [List.cons_append, List.takeWhile_cons, List.dropWhile_cons, ha, if_true]
  exact ⟨by rw [h1], h2⟩
theorem take_cut {α : Type} (f : α → Bool) (M : List α) (m : α) (B : List α) (h : ∀ x ∈ M, f x = true) (hm : f m = false) : (M ++ m :: B).takeWhile f = M ∧ (M ++ m :: B).dropWhile f = m :: B := by
 obtain ⟨h1, h2⟩ := take_all f (m :: B) M h
 simp only [List.takeWhile_cons, List.dropWhile_cons, hm, Bool.false_eq_true, if_false] at h1 h2
 exact ⟨by rw [h1, List.append_nil], h2⟩
theorem evs_ins (v : S59) (hv : isM v = true) : ∀ (n : Nat) (bc : List S41) (A B : List S59), alOk n bc (A ++ v :: B) = alOk n bc (A ++ B) ∧ (alOk n bc (A ++ B) = true → ∃ E1 E2, evs n bc (A ++ B) = E1 ++ E2 ∧ evs n bc (A ++ v :: B) = E1 ++ mvE v :: E2)
 | 0, bc, A, B => ⟨rfl, fun h => by simp [alOk] at h⟩
 | n + 1, bc, A, B => by
  rcases cut_at isM A with h | ⟨M, m, A2, rfl, h2, h3⟩
  ·obtain ⟨t1, t2⟩ := take_all isM B A h
   obtain ⟨t3, t4⟩ := take_all isM (v :: B) A h
   simp only [List.takeWhile_cons, List.dropWhile_cons, hv, if_true] at t3 t4
   refine ⟨by simp only [alOk, t2, t4], fun _ => ?_⟩
   refine ⟨(bc.takeWhile isC).map cpE ++ A.map mvE, (B.takeWhile isM).map mvE ++ match bc.dropWhile isC, B.dropWhile isM with
    | i :: b, m :: c => .ins i m :: evs n b c
    | _, _ => [], ?_, ?_⟩
   ·simp only [evs, t1, t2, List.map_append, List.append_assoc]
   ·simp only [evs, t3, t4, List.map_append, List.map_cons, List.append_assoc, List.cons_append]
  ·rw [List.append_assoc, List.append_assoc, List.cons_append, List.cons_append]
   obtain ⟨t1, t2⟩ := take_cut isM M m (A2 ++ B) h2 h3
   obtain ⟨t3, t4⟩ := take_cut isM M m (A2 ++ v :: B) h2 h3
   cases hb : bc.dropWhile isC with
   | nil => exact ⟨by simp only [alOk, t2, t4, hb], fun h => by simp [alOk, t2, hb] at h⟩
   | cons i b =>
    obtain ⟨e1, e2⟩ := evs_ins v hv n b A2 B
    refine ⟨by simp only [alOk, t2, t4, hb, e1], fun h => ?_⟩
    simp only [alOk, t2, hb, Bool.and_eq_true] at h
    obtain ⟨E1, E2, e3, e4⟩ := e2 h.2
    refine ⟨(bc.takeWhile isC).map cpE ++ (M.map mvE ++ .ins i m :: E1), E2, ?_, ?_⟩
    ·simp only [evs, t1, t2, hb, e3, List.append_assoc, List.cons_append]
    ·simp only [evs, t3, t4, hb, e4, List.append_assoc, List.cons_append]
def era (l : List (Evt × Int)) : List Evt := l.map Prod.fst
theorem era_app (a b : List (Evt × Int)) : era (a ++ b) = era a ++ era b := List.map_append
theorem skipc_sp (l : List S41) (hl : l.length ≤ 100000000) : ∀ n (i : Nat), l.length - i = n → i ≤ l.length → ∃ r : Nat, i ≤ r ∧ r ≤ l.length ∧ Ev (fun k => Qao.f k l (i : Int)) (r : Int) ∧ (l.drop i).takeWhile isC = (l.take r).drop i ∧ (l.drop i).dropWhile isC = l.drop r := by
 intro n
 unfold Qao.f
 induction n with
 | zero =>
  intro i hn hi
  obtain rfl : i = l.length := by omega
  refine ⟨l.length, by omega, hi, ⟨2, fun n hn => by obtain ⟨m, rfl⟩ : ∃ m, n = m + 2 := ⟨n - 2, by omega⟩; show Qao.l0 (m + 2) l (l.length : Int) = _; rw [Qao.l0, if_neg (by omega), Qao.j1]; rfl⟩, by simp, by simp⟩
 | succ n ih =>
  intro i hn hi
  have hd : l.drop i = Qav l (i : Int) :: l.drop (i + 1) := Qc1 l z41 i (by omega)
  have e : ∀ k, Qao.l0 (k + 2) l (i : Int) = if isC (Qav l (i : Int)) = true then Qao.l0 k l ((i + 1 : Nat) : Int) else some (i : Int) := fun k => by
   rw [Qao.l0, if_pos (by omega), if_pos (by omega)]
   show Qao.j1 (k + 1) l (i : Int) (isC (Qav l (i : Int))) = _
   rw [Qao.j1, w64s (n := l.length) (by omega) (by omega)]
  rw [hd]
  by_cases h : isC (Qav l (i : Int)) = true
  ·obtain ⟨r, h1, h2, h3, h4, h5⟩ := ih (i + 1) (by omega) (by omega)
   refine ⟨r, by omega, h2, Ev.upn 2 e (Ev.pos h h3), ?_, ?_⟩
   ·rw [List.takeWhile_cons, if_pos h, h4]
    have ht : i < (l.take r).length := by rw [List.length_take]; omega
    rw [Qc1 (l.take r) z41 i ht]
    refine congrArg (· :: _) ?_
    show l.getD i z41 = (l.take r).getD i z41
    rw [List.getD_eq_getElem?_getD, List.getD_eq_getElem?_getD, List.getElem?_take, if_pos (by omega)]
   ·rw [List.dropWhile_cons, if_pos h, h5]
  ·refine ⟨i, by omega, hi, Ev.upn 2 e (Ev.neg h (Ev.val rfl)), ?_, ?_⟩
   ·rw [List.takeWhile_cons, if_neg h, List.drop_of_length_le (by rw [List.length_take]; omega)]
   ·rw [List.dropWhile_cons, if_neg h, hd]
theorem skipm_sp (l : List S59) (hl : l.length ≤ 100000000) : ∀ n (i : Nat), l.length - i = n → i ≤ l.length → ∃ r : Nat, i ≤ r ∧ r ≤ l.length ∧ Ev (fun k => Qar.f k l (i : Int)) (r : Int) ∧ ((l.drop i).takeWhile isM).map mvE = era (movesE l (r - i) (i : Int)) ∧ (l.drop i).dropWhile isM = l.drop r := by
 intro n
 unfold Qar.f
 induction n with
 | zero =>
  intro i hn hi
  obtain rfl : i = l.length := by omega
  refine ⟨l.length, by omega, hi, ⟨2, fun n hn => by obtain ⟨m, rfl⟩ : ∃ m, n = m + 2 := ⟨n - 2, by omega⟩; show Qar.l0 (m + 2) l (l.length : Int) = _; rw [Qar.l0, if_neg (by omega), Qar.j1]; rfl⟩, by simp [movesE, era], by simp⟩
 | succ n ih =>
  intro i hn hi
  have hd : l.drop i = Qag l (i : Int) :: l.drop (i + 1) := Qc1 l z59 i (by omega)
  have e : ∀ k, Qar.l0 (k + 2) l (i : Int) = if isM (Qag l (i : Int)) = true then Qar.l0 k l ((i + 1 : Nat) : Int) else some (i : Int) := fun k => by
   rw [Qar.l0, if_pos (by omega), if_pos (by omega)]
   show Qar.j1 (k + 1) l (i : Int) (isM (Qag l (i : Int))) = _
   rw [Qar.j1, w64s (n := l.length) (by omega) (by omega)]
  rw [hd]
  by_cases h : isM (Qag l (i : Int)) = true
  ·obtain ⟨r, h1, h2, h3, h4, h5⟩ := ih (i + 1) (by omega) (by omega)
   refine ⟨r, by omega, h2, Ev.upn 2 e (Ev.pos h h3), ?_, ?_⟩
   ·rw [List.takeWhile_cons, if_pos h, List.map_cons, h4, show r - i = (r - (i + 1)) + 1 by omega]
    show _ = mvE (Qag l (i : Int)) :: era (movesE l (r - (i + 1)) ((i : Int) + 1))
    rw [show ((i + 1 : Nat) : Int) = (i : Int) + 1 by omega]
   ·rw [List.dropWhile_cons, if_pos h, h5]
  ·refine ⟨i, by omega, hi, Ev.upn 2 e (Ev.neg h (Ev.val rfl)), ?_, ?_⟩
   ·rw [List.takeWhile_cons, if_neg h, Nat.sub_self]; rfl
   ·rw [List.dropWhile_cons, if_neg h, hd]
theorem era_copies (m : Int) (l : List S41) : era (copiesE m l) = l.map cpE := by simp [era, copiesE, cpE, Function.comp_def]
theorem row_era (bc : List S41) (mc : List S59) (i i' j j' : Nat) (a b : Int) (hj : j ≤ j') (hc : (bc.drop i).takeWhile isC = (bc.take i').drop i) (hm : ((mc.drop j).takeWhile isM).map mvE = era (movesE mc (j' - j) (j : Int))) :
    era (rowE bc mc ⟨(i : Int), (i' : Int), (j : Int), (j' : Int), a, b⟩) = ((bc.drop i).takeWhile isC).map cpE ++ (((mc.drop j).takeWhile isM).map mvE ++ era (srcE bc mc a b)) := by
 show era (copiesE (j : Int) ((bc.take (i' : Int).toNat).drop (i : Int).toNat) ++ (movesE mc ((j' : Int) - (j : Int)).toNat (j : Int) ++ srcE bc mc a b)) = _
 rw [show ((j' : Int) - (j : Int)).toNat = j' - j by omega, Int.toNat_natCast, Int.toNat_natCast, era_app, era_app, era_copies, hc, hm]
theorem align_sp (bc : List S41) (mc : List S59) (h1 : bc.length ≤ 100000000) (h2 : mc.length ≤ 100000000) : ∀ n (i j : Nat) (o : List S180), bc.length - i < n → i ≤ bc.length → j ≤ mc.length → o.length ≤ i → (∀ r ∈ o, okAr bc.length mc.length r) →
    ∃ p, Ev (fun k => Qal.l0 k bc mc o (i : Int) (j : Int)) p ∧ (∀ r ∈ p.1, okAr bc.length mc.length r) ∧ (p.2.2 = 0 ∨ p.2.2 = 20) ∧ (p.2.2 = 0 ↔ alOk n (bc.drop i) (mc.drop j) = true) ∧
     (p.2.2 = 0 → era (p.1.flatMap (rowE bc mc)) = era (o.flatMap (rowE bc mc)) ++ evs n (bc.drop i) (mc.drop j)) := by
 intro n
 induction n with
 | zero => intro i j o hn; omega
 | succ n ih =>
  intro i j o hn hi hj ho hO
  obtain ⟨i', hi1, hi2, ei, ci, di⟩ := skipc_sp bc h1 _ i rfl hi
  obtain ⟨j', hj1, hj2, ej, cj, dj⟩ := skipm_sp mc h2 _ j rfl hj
  have hup : ∀ k, Qal.l0 (k + 1) bc mc o (i : Int) (j : Int) = _ := fun k => by rw [Qal.l0]
  have hj1f : ∀ k, Qal.j1 (k + 1) bc mc o (i' : Int) (j' : Int) false (i : Int) (i' : Int) (j : Int) (j' : Int) 0 0 = _ := fun k => by rw [Qal.j1, if_neg (by simp)]
  have f1 : Ev (fun k => Qal.j2 k bc mc o (i' : Int) (j' : Int) true (i : Int) (i' : Int) (j : Int) (j' : Int) 0 0) (([] : List S180), (j' : Int), 20) :=
   ⟨1, fun n hn => by obtain ⟨m, rfl⟩ : ∃ m, n = m + 1 := ⟨n - 1, by omega⟩; show Qal.j2 (m + 1) _ _ _ _ _ true _ _ _ _ _ _ = _; rw [Qal.j2]; rfl⟩
  have top : ∀ (b : Bool) p, (b = true → (i' : Int) = (bc.length : Int) ∧ (j' : Int) = (mc.length : Int)) → (b = false → ¬ ((i' : Int) = (bc.length : Int) ∧ (j' : Int) = (mc.length : Int))) → Ev (fun k => Qal.j1 k bc mc o (i' : Int) (j' : Int) b (i : Int) (i' : Int) (j : Int) (j' : Int) 0 0) p → Ev (fun k => Qal.l0 k bc mc o (i : Int) (j : Int)) p := by
   intro b p hb1 hb2 hp
   by_cases hi3 : (i' : Int) = (bc.length : Int)
   ·have e : b = ((j' : Int) == (mc.length : Int)) := by
      cases b with
      | true => have := (hb1 rfl).2; simp [this]
      | false => have := fun h => hb2 rfl ⟨hi3, h⟩; simp; exact this
    rw [e] at hp
    exact Ev.up hup (Ev.then ei (Ev.then ej (Ev.pos hi3 hp)))
   ·have e : b = false := by
      cases b with
      | true => exact absurd (hb1 rfl).1 hi3
      | false => rfl
    rw [e] at hp
    exact Ev.up hup (Ev.then ei (Ev.then ej (Ev.neg hi3 hp)))
  by_cases hi3 : i' = bc.length
  ·have dbi : (bc.drop i).dropWhile isC = [] := by rw [di, hi3, List.drop_length]
   by_cases hj3 : j' = mc.length
   ·have dmj : (mc.drop j).dropWhile isM = [] := by rw [dj, hj3, List.drop_length]
    refine ⟨(o ++ [⟨(i : Int), (i' : Int), (j : Int), (j' : Int), -1, -1⟩], (j' : Int), 0), top true _ (fun _ => ⟨by omega, by omega⟩) (fun h => by cases h) ⟨1, fun n hn => by
     obtain ⟨m, rfl⟩ : ∃ m, n = m + 1 := ⟨n - 1, by omega⟩
     show Qal.j1 (m + 1) _ _ _ _ _ true _ _ _ _ _ _ = _
     rw [Qal.j1]
     show (if o.length < 2932031007402 then _ else none) = _
     rw [if_pos (by omega)]⟩, fun r hr => ?_, Or.inl rfl, ⟨fun _ => by simp only [alOk, dbi, dmj], fun _ => rfl⟩, fun _ => ?_⟩
    ·rcases List.mem_append.1 hr with h | h
     ·exact hO r h
     ·rw [List.mem_singleton] at h; rw [h]
      exact ⟨⟨by simp, by simp; omega, by simp; omega⟩, ⟨by simp, by simp; omega, by simp; omega⟩, fun h => absurd h (by simp)⟩
    ·rw [List.flatMap_append, era_app, List.flatMap_cons, List.flatMap_nil, List.append_nil, row_era bc mc i i' j j' _ _ hj1 ci cj]
     simp only [evs, dbi, dmj]
     rfl
   ·have dmj : (mc.drop j).dropWhile isM = Qag mc (j' : Int) :: mc.drop (j' + 1) := by rw [dj]; exact Qc1 mc z59 j' (by omega)
    refine ⟨([], (j' : Int), 20), top false _ (fun h => by cases h) (fun _ h => hj3 (by omega)) (Ev.up hj1f (Ev.pos (by omega) f1)), by simp, Or.inr rfl, ⟨fun h => by simp at h, fun h => by simp [alOk, dbi, dmj] at h⟩, fun h => by simp at h⟩
  ·have dbi : (bc.drop i).dropWhile isC = Qav bc (i' : Int) :: bc.drop (i' + 1) := by rw [di]; exact Qc1 bc z41 i' (by omega)
   by_cases hj3 : j' = mc.length
   ·have dmj : (mc.drop j).dropWhile isM = [] := by rw [dj, hj3, List.drop_length]
    refine ⟨([], (j' : Int), 20), top false _ (fun h => by cases h) (fun _ h => hi3 (by omega)) (Ev.up hj1f (Ev.neg (by omega) (Ev.pos (by omega) f1))), by simp, Or.inr rfl, ⟨fun h => by simp at h, fun h => by simp [alOk, dbi, dmj] at h⟩, fun h => by simp at h⟩
   ·have dmj : (mc.drop j).dropWhile isM = Qag mc (j' : Int) :: mc.drop (j' + 1) := by rw [dj]; exact Qc1 mc z59 j' (by omega)
    obtain ⟨t, ht⟩ := same_some (Qav bc (i' : Int)).f0 (Qav bc (i' : Int)).f1 (Qav bc (i' : Int)).f2 (Qav bc (i' : Int)).f3 (Qav bc (i' : Int)).f4 (Qag mc (j' : Int)).f0 (Qag mc (j' : Int)).f1 (Qag mc (j' : Int)).f2 (Qag mc (j' : Int)).f3 (Qag mc (j' : Int)).f4 (Qag mc (j' : Int)).f5 (Qag mc (j' : Int)).f6
    have hs : sameB (Qav bc (i' : Int)) (Qag mc (j' : Int)) = t := by unfold sameB; rw [ht]; rfl
    have step : ∀ p, Ev (fun k => Qal.j2 k bc mc o (i' : Int) (j' : Int) (!t) (i : Int) (i' : Int) (j : Int) (j' : Int) 0 0) p → Ev (fun k => Qal.l0 k bc mc o (i : Int) (j : Int)) p := fun p hp =>
     top false p (fun h => by cases h) (fun _ h => hi3 (by omega)) (Ev.up hj1f (Ev.neg (by omega) (Ev.neg (by omega) (Ev.pos (by omega) (Ev.pos (by omega) (Ev.pos (by omega) (Ev.pos (by omega) (Ev.then (g := fun _ => _) ⟨0, fun _ _ => ht⟩ hp))))))))
    cases t with
    | false => exact ⟨([], (j' : Int), 20), step _ f1, by simp, Or.inr rfl, ⟨fun h => by simp at h, fun h => by simp [alOk, dbi, dmj, hs] at h⟩, fun h => by simp at h⟩
    | true =>
     obtain ⟨p, hp, hq, hz, ha, he⟩ := ih (i' + 1) (j' + 1) (o ++ [⟨(i : Int), (i' : Int), (j : Int), (j' : Int), (i' : Int), (j' : Int)⟩]) (by omega) (by omega) (by omega) (by rw [List.length_append, List.length_singleton]; omega) (fun r hr => by
      rcases List.mem_append.1 hr with h | h
      ·exact hO r h
      ·rw [List.mem_singleton] at h; rw [h]
       exact ⟨⟨by simp, by simp; omega, by simp; omega⟩, ⟨by simp, by simp; omega, by simp; omega⟩, fun _ => ⟨by simp; omega, by simp, by simp; omega⟩⟩)
     refine ⟨p, step p (Ev.up (g := fun k => Qal.l0 k bc mc (o ++ [⟨(i : Int), (i' : Int), (j : Int), (j' : Int), (i' : Int), (j' : Int)⟩]) ((i' + 1 : Nat) : Int) ((j' + 1 : Nat) : Int)) (fun k => ?_) hp), hq, hz, ?_, fun h0 => ?_⟩
     ·show Qal.j2 (k + 1) bc mc o (i' : Int) (j' : Int) false (i : Int) (i' : Int) (j : Int) (j' : Int) 0 0 = _
      rw [Qal.j2, if_neg (by simp), if_pos (by omega), w64s (n := bc.length) (by omega) (by omega), w64s (n := mc.length) (by omega) (by omega)]
     ·rw [ha]; simp only [alOk, dbi, dmj, hs, Bool.true_and]
     ·rw [he h0, List.flatMap_append, era_app, List.flatMap_cons, List.flatMap_nil, List.append_nil, row_era bc mc i i' j j' _ _ hj1 ci cj]
      have hsrc : era (srcE bc mc (i' : Int) (j' : Int)) = [Evt.ins (Qav bc (i' : Int)) (Qag mc (j' : Int))] := by unfold srcE; rw [if_pos (by omega)]; rfl
      simp only [evs, dbi, dmj, hsrc, List.append_assoc, List.cons_append, List.nil_append]
theorem block_ev (bc : List S41) (mc : List S59) (bt mt : S37) (inv : List S47) (h1 : bc.length ≤ 100000000) (h2 : mc.length ≤ 100000000) (hi : inv.length ≤ 1048576) (hA : Asc inv) :
    ∃ x, Ev (fun k => Qda k bc mc bt mt inv 1048576) x ∧ (x.f1 = 0 → x.f0.length ≤ 1048576 ∧ Asc x.f0) := by
 obtain ⟨p, hp, hq, _⟩ := align_sp bc mc h1 h2 (bc.length + 1) 0 0 [] (by omega) (by omega) (by omega) (by simp) (by simp)
 obtain ⟨t, ht⟩ := terms_some bt.f0 bt.f1 bt.f2 bt.f3 mt.f0 mt.f1 mt.f2 mt.f3
 unfold Qda
 by_cases h0 : p.2.2 = 0
 ·cases t with
  | true =>
   obtain ⟨⟨s, pn⟩, e, hg, hz⟩ := runF_ok bc mc bt mt p.1 hq (s := ⟨inv, 1048576, 0, (inv.length : Int)⟩) ⟨hA, hi, rfl⟩
   refine ⟨okF (mc.length : Int) (s, pn), Ev.neg (by omega) (Ev.then hp (Ev.pos h0 (Ev.then (g := fun _ => _) ⟨0, fun _ _ => ht⟩ (Ev.pos rfl ?_)))), ?_⟩
   ·unfold goF
    exact Ev.pos ⟨by omega, hA⟩ (Ev.then e (Ev.val rfl))
   ·cases pn with
    | none => intro _; have := hg rfl; exact ⟨this.2.1, this.1⟩
    | some q => intro hh; exact absurd hh (hz q rfl)
  | false => exact ⟨⟨[], 20, p.2.1, 0, (inv.length : Int)⟩, Ev.neg (by omega) (Ev.then hp (Ev.pos h0 (Ev.then (g := fun _ => _) ⟨0, fun _ _ => ht⟩ (Ev.neg (by simp) (Ev.val rfl))))), fun h => by simp at h⟩
 ·exact ⟨⟨[], p.2.2, p.2.1, 0, (inv.length : Int)⟩, Ev.neg (by omega) (Ev.then hp (Ev.neg h0 (Ev.val rfl))), fun h => absurd h h0⟩
theorem drop47 (l : List S47) (i : Nat) (h : i < l.length) : l.drop i = Qaa l (i : Int) :: l.drop (i + 1) := Qc1 l z47 i h
theorem asc_drop {l : List S47} (h : Asc l) {i : Nat} (hi : i < l.length) {p : S47} (hp : p ∈ l.drop (i + 1)) : Qci (Qaa l (i : Int)) p = true := by
 have := h.sub (List.drop_sublist i l)
 rw [drop47 l i hi] at this
 exact (asc_cons this).1 p hp
theorem miss_sp (l1 l9 : List S47) (h1 : l1.length ≤ 100000000) (h9 : l9.length ≤ 100000000) (A1 : Asc l1) (A9 : Asc l9) : ∀ m (j i : Nat), (l9.length - i) + (l1.length - j) = m → j ≤ l1.length → i ≤ l9.length →
    (i < l9.length → ∃ r, Ev (fun k => Qab.l1 k l1 (j : Int) l9 (l9.length : Int) (i : Int) (Qaa l9 (i : Int)).f0 (Qaa l9 (i : Int)).f1) r ∧ (r.2.2 = false ↔ ∀ p ∈ l9.drop i, p ∈ l1.drop j)) ∧
    ∃ r, Ev (fun k => Qab.l0 k l1 (j : Int) l9 (l9.length : Int) (i : Int)) r ∧ (r.2.2 = false ↔ ∀ p ∈ l9.drop i, p ∈ l1.drop j) := by
 intro m
 induction m using Nat.strongRecOn with
 | _ m ih =>
  intro j i hm hj hi
  have key : i < l9.length → ∃ r, Ev (fun k => Qab.l1 k l1 (j : Int) l9 (l9.length : Int) (i : Int) (Qaa l9 (i : Int)).f0 (Qaa l9 (i : Int)).f1) r ∧ (r.2.2 = false ↔ ∀ p ∈ l9.drop i, p ∈ l1.drop j) := by
   intro hlt
   have hx : Qaa l9 (i : Int) ∈ l9.drop i := by rw [drop47 l9 i hlt]; simp
   have j3t : Qaa l9 (i : Int) ∉ l1.drop j → ∃ r, Ev (fun k => Qab.j3 k l1 (j : Int) l9 (l9.length : Int) (i : Int) true (Qaa l9 (i : Int)).f0 (Qaa l9 (i : Int)).f1) r ∧ (r.2.2 = false ↔ ∀ p ∈ l9.drop i, p ∈ l1.drop j) := fun hn =>
    ⟨_, Ev.up (g := fun k => _) (fun k => by rw [Qab.j3]) (Ev.pos (c := true = true) rfl (Ev.val rfl)), ⟨fun h => by simp at h, fun h => absurd (h _ hx) hn⟩⟩
   by_cases hjl : j < l1.length
   ·have ht : Ev (fun _ : Nat => Qa8.f (Qaa l1 (j : Int)).f0 (Qaa l1 (j : Int)).f1 (Qaa l9 (i : Int)).f0 (Qaa l9 (i : Int)).f1) (Qci (Qaa l1 (j : Int)) (Qaa l9 (i : Int))) := ⟨0, fun _ _ => less_eq _ _⟩
    have : ∃ r, Ev (fun k => Qab.j2 k l1 (j : Int) l9 (l9.length : Int) (i : Int) (Qci (Qaa l1 (j : Int)) (Qaa l9 (i : Int))) (Qaa l9 (i : Int)).f0 (Qaa l9 (i : Int)).f1) r ∧ (r.2.2 = false ↔ ∀ p ∈ l9.drop i, p ∈ l1.drop j) := by
     cases hb : Qci (Qaa l1 (j : Int)) (Qaa l9 (i : Int)) with
     | true =>
      obtain ⟨r, hr, hq⟩ := (ih _ (by omega) (j + 1) i rfl (by omega) hi).1 hlt
      refine ⟨r, Ev.up (g := fun k => _) (fun k => by rw [Qab.j2]) (Ev.pos (c := true = true) rfl (by rw [w64s (n := l1.length) (by omega) hjl]; exact hr)), hq.trans ?_⟩
      have hne : ∀ p ∈ l9.drop i, p ≠ Qaa l1 (j : Int) := by
       intro p hp e
       have hp2 : Qci (Qaa l1 (j : Int)) p = true := by
        rw [drop47 l9 i hlt] at hp
        rcases List.mem_cons.1 hp with h | h
        ·rw [h]; exact hb
        ·exact Qc2 hb (asc_drop A9 hlt h)
       rw [e, Qee] at hp2; cases hp2
      rw [drop47 l1 j hjl]
      exact ⟨fun h p hp => List.mem_cons_of_mem _ (h p hp), fun h p hp => (List.mem_cons.1 (h p hp)).resolve_left (hne p hp)⟩
     | false =>
      have go : ∃ r, Ev (fun k => Qab.j3 k l1 (j : Int) l9 (l9.length : Int) (i : Int) (!(((Qaa l1 (j : Int)).f0) == (Qaa l9 (i : Int)).f0) || (!(((Qaa l1 (j : Int)).f1) == (Qaa l9 (i : Int)).f1))) (Qaa l9 (i : Int)).f0 (Qaa l9 (i : Int)).f1) r ∧ (r.2.2 = false ↔ ∀ p ∈ l9.drop i, p ∈ l1.drop j) := by
       by_cases he : Qaa l1 (j : Int) = Qaa l9 (i : Int)
       ·rw [he]
        rw [show (!((Qaa l9 (i : Int)).f0 == (Qaa l9 (i : Int)).f0) || !((Qaa l9 (i : Int)).f1 == (Qaa l9 (i : Int)).f1)) = false by simp]
        obtain ⟨r, hr, hq⟩ := (ih _ (by omega) j (i + 1) rfl hj (by omega)).2
        refine ⟨r, Ev.up (g := fun k => _) (fun k => by rw [Qab.j3]) (Ev.neg (c := false = true) (by simp) (by rw [w64s (n := l9.length) (by omega) hlt]; exact hr)), hq.trans ?_⟩
        rw [drop47 l9 i hlt]
        refine ⟨fun h p hp => ?_, fun h p hp => h p (List.mem_cons_of_mem _ hp)⟩
        rcases List.mem_cons.1 hp with e | e
        ·rw [e, drop47 l1 j hjl, he]; simp
        ·exact h p e
       ·rw [show (!((Qaa l1 (j : Int)).f0 == (Qaa l9 (i : Int)).f0) || !((Qaa l1 (j : Int)).f1 == (Qaa l9 (i : Int)).f1)) = true by
          cases h1 : Qaa l1 (j : Int); cases h2 : Qaa l9 (i : Int); rw [h1, h2] at he; simp at he ⊢; omega]
        refine j3t fun hm => ?_
        rw [drop47 l1 j hjl] at hm
        rcases List.mem_cons.1 hm with e | e
        ·exact he e.symm
        ·rw [asc_drop A1 hjl e] at hb; cases hb
      obtain ⟨r, hr, hq⟩ := go
      exact ⟨r, Ev.up (g := fun k => _) (fun k => by rw [Qab.j2]) (Ev.neg (c := false = true) (by simp) (Ev.neg (by omega) (Ev.pos (by omega) (Ev.pos (by omega) hr)))), hq⟩
    obtain ⟨r, hr, hq⟩ := this
    exact ⟨r, Ev.up (g := fun k => _) (fun k => by rw [Qab.l1]) (Ev.pos (by omega) (Ev.pos (by omega) (Ev.then ht hr))), hq⟩
   ·obtain ⟨r, hr, hq⟩ := j3t (by rw [List.drop_of_length_le (by omega)]; simp)
    exact ⟨r, Ev.up (g := fun k => _) (fun k => by rw [Qab.l1]) (Ev.neg (by omega) (Ev.up (g := fun k => _) (fun k => by rw [Qab.j2]) (Ev.neg (c := false = true) (by simp) (Ev.pos (by omega) hr)))), hq⟩
  refine ⟨key, ?_⟩
  by_cases hlt : i < l9.length
  ·obtain ⟨r, hr, hq⟩ := key hlt
   exact ⟨r, Ev.up (g := fun k => _) (fun k => by rw [Qab.l0]) (Ev.pos (by omega) (Ev.pos (by omega) (Ev.pos (by omega) hr))), hq⟩
  ·exact ⟨_, Ev.up (g := fun k => _) (fun k => by rw [Qab.l0]) (Ev.neg (by omega) (Ev.val rfl)), by rw [List.drop_of_length_le (by omega)]; simp⟩
theorem imp_sp (a b : List S47) (ha : a.length ≤ 100000000) (hb : b.length ≤ 100000000) (Aa : Asc a) (Ab : Asc b) : ∃ r, Ev (fun k => edge_Implies.f k a b) r ∧ (r.2.2 = 0 ↔ ∀ p ∈ b, p ∈ a) := by
 obtain ⟨r, hr, hq⟩ := (miss_sp a b ha hb Aa Ab _ 0 0 rfl (by omega) (by omega)).2
 rw [List.drop_zero, List.drop_zero] at hq
 unfold edge_Implies.f
 by_cases h : r.2.2 = true
 ·exact ⟨_, Ev.then hr (Ev.pos h (Ev.val rfl)), ⟨fun h0 => by simp at h0, fun h0 => by rw [hq.2 h0] at h; cases h⟩⟩
 ·exact ⟨_, Ev.then hr (Ev.neg h (Ev.val rfl)), ⟨fun _ => hq.1 (by simpa using h), fun _ => rfl⟩⟩
theorem edges_ev (i : Nat) (W : List (List S47)) (out : List S47) (K : Nat → S51 → Option S51) (hK : ∀ r, ∃ x, Ev (fun k => K k r) x) (ho : out.length ≤ 100000000) (hA : Asc out) (hc : ∀ i : Nat, i < W.length → (Qax W (i : Int)).length ≤ 1000 ∧ Asc (Qax W (i : Int))) :
    ∀ (l : List Int), (∀ t ∈ l, 0 ≤ t ∧ t < (W.length : Int)) → ∀ (j : Nat) (r : S51), ∃ x, Ev (fun k => Qd7 k i W out l j r (K k)) x := by
 intro l
 induction l with
 | nil => exact fun _ j r => hK r
 | cons t l ih =>
  intro hl j r
  have ht := hl t (by simp)
  have hb : (Qax W t).length ≤ 1000 ∧ Asc (Qax W t) := by
   have := hc t.toNat (by omega)
   rwa [Int.toNat_of_nonneg ht.1] at this
  obtain ⟨p, hp, _⟩ := imp_sp out (Qax W t) ho (by omega) hA hb.2
  by_cases h0 : p.2.2 = 0
  ·obtain ⟨x, hx⟩ := ih (fun u hu => hl u (by simp [hu])) (j + 1) (edgeR r out.length (Qax W t).length)
   exact ⟨x, by simp only [Qd7]; exact Ev.pos ht (Ev.then hp (Ev.pos h0 hx))⟩
  ·exact ⟨_, by simp only [Qd7]; exact Ev.pos ht (Ev.then hp (Ev.neg h0 (Ev.val rfl)))⟩
theorem Qdi {α : Type} (l : List α) (x z : α) (i : Nat) (h : i < l.length) : (l ++ [x]).getD i z = l.getD i z := by
 rw [List.getD_eq_getElem?_getD, List.getD_eq_getElem?_getD, List.getElem?_append_left h]
theorem Qc6 {α : Type} (l : List α) (x z : α) : (l ++ [x]).getD l.length z = x := by
 rw [List.getD_eq_getElem?_getD, List.getElem?_append_right (Nat.le_refl _)]; simp
theorem okEdges_app {l : List (List S47)} {x : List S47} {n m r s : Int} (h : okEdges l n m r s) (hx : okRow x m r s) : okEdges (l ++ [x]) (n + 1) m r s := by
 refine ⟨by rw [List.length_append, List.length_singleton]; have := h.1; omega, fun i hi => ?_⟩
 rw [List.length_append, List.length_singleton] at hi
 by_cases hl : i < l.length
 ·have e : Qax (l ++ [x]) (i : Int) = Qax l (i : Int) := Qdi l _ [] i hl
  rw [e]; exact h.2 i hl
 ·obtain rfl : i = l.length := by omega
  have e : Qax (l ++ [x]) (l.length : Int) = x := Qc6 l _ []
  rw [e]; exact hx
theorem loc_reg {q r s : Int} (h0 : 0 ≤ q) (h1 : q < r) (hr : r ≤ 1000) : Qec (2 * q) r s := by
 have e1 : Int.tmod (2 * q) 2 = 0 := Int.mul_tmod_right 2 q
 have e2 : Int.tdiv (2 * q) 2 = q := Int.mul_tdiv_cancel_left q (by decide)
 unfold Qec Qa9.f Qaq.f Qbb.f
 simp only [Option.bind_some, e1, e2]
 rw [if_neg (by decide), if_pos (by omega), w64i (by omega) (by omega)]
 simp [h1]
theorem rd12_app (W : List (List S47)) (z : List S47) (t : Int) (h0 : 0 ≤ t) (h : t < (W.length : Int)) : Qax (W ++ [z]) t = Qax W t := Qdi W z [] t.toNat (by omega)
theorem Ev.det {α : Type} {f : Nat → Option α} {a b : α} (h1 : Ev f a) (h2 : Ev f b) : a = b := by
 obtain ⟨K, h1⟩ := h1
 obtain ⟨L, h2⟩ := h2
 have e := (h1 (K + L) (by omega)).symm.trans (h2 (K + L) (by omega))
 exact Option.some.inj e
theorem row_asc {l : List S47} {m r s : Int} (h : okRow l m r s) : Asc l := by
 refine List.pairwise_iff_getElem.2 fun i j hi hj hij => ?_
 have go : ∀ d i j (hi : i < l.length) (hj : j < l.length), j = i + 1 + d → Qci l[i] l[j] = true := by
  intro d
  induction d with
  | zero =>
   intro i j hi hj e
   subst e
   have h2 := (h (i + 1) hj).2.2 (by omega)
   have e1 : Qaa l ((i + 1 - 1 : Nat) : Int) = l[i] := rd47 l i hi
   rw [e1, rd47 l (i + 1) hj] at h2
   have h3 := less_eq l[i] l[i + 1]
   rw [show Qa8.f l[i].f0 l[i].f1 l[i + 1].f0 l[i + 1].f1 = some true from h2] at h3
   exact (Option.some.inj h3).symm
  | succ d ih =>
   intro i j hi hj e
   subst e
   have h1 := ih i (i + 1 + d) hi (by omega) rfl
   have h2 := (h (i + 1 + d + 1) (by omega)).2.2 (by omega)
   have e1 : Qaa l ((i + 1 + d + 1 - 1 : Nat) : Int) = l[i + 1 + d] := rd47 l (i + 1 + d) (by omega)
   rw [e1, rd47 l (i + 1 + d + 1) (by omega)] at h2
   have h3 := less_eq l[i + 1 + d] l[i + 1 + d + 1]
   rw [show Qa8.f l[i + 1 + d].f0 l[i + 1 + d].f1 l[i + 1 + d + 1].f0 l[i + 1 + d + 1].f1 = some true from h2] at h3
   exact Qc2 h1 (Option.some.inj h3).symm
 exact go (j - i - 1) i j hi hj (by omega)
theorem succ_some {a0 a1 a2 a3 m n : Int} (h : okTerm a0 a1 a2 a3 m n) : ∃ l, source_Successors.f a0 a1 a2 a3 = some l ∧ ∀ t ∈ l, 0 ≤ t ∧ t < n := by
 unfold source_Successors.f
 obtain ⟨_, _, ⟨h2, h3⟩, _⟩ := h
 by_cases h1 : a0 = 1
 ·rw [if_pos h1]
  refine ⟨_, rfl, fun t ht => ?_⟩
  rw [List.mem_singleton] at ht; rw [ht]; exact h2 (by rw [h1]; rfl)
 ·rw [if_neg h1]
  by_cases h4 : a0 = 2
  ·rw [if_pos h4]
   refine ⟨_, rfl, fun t ht => ?_⟩
   rcases List.mem_cons.1 ht with e | e
   ·rw [e]; exact h2 (by rw [h4]; rfl)
   ·rw [List.mem_singleton] at e; rw [e]; exact h3 (by rw [h4]; rfl)
  ·rw [if_neg h4]; exact ⟨_, rfl, by simp⟩
theorem blocks_ev (TB : List S57) (W : List (List S47)) (m : Int) (hT : ∀ i : Nat, i < TB.length → (Qad TB (i : Int)).f0.length ≤ 1000) (hW : ∀ i : Nat, i < W.length → (Qax W (i : Int)).length ≤ 1000 ∧ Asc (Qax W (i : Int))) :
    ∀ (l : List S39), (∀ b ∈ l, b.f0.length ≤ 1000 ∧ okTerm b.f1.f0 b.f1.f1 b.f1.f2 b.f1.f3 m W.length) → ∀ (i : Nat) (r : S51), i + l.length ≤ TB.length → i + l.length ≤ W.length → ∃ x, Ev (fun k => Qcp k TB W l i r) x := by
 intro l
 induction l with
 | nil => exact fun _ i r _ _ => ⟨r, ⟨0, fun _ _ => rfl⟩⟩
 | cons b l ih =>
  intro hl i r h1 h2
  rw [List.length_cons] at h1 h2
  obtain ⟨hb1, hb2⟩ := hl b (by simp)
  obtain ⟨x, hx, hx0⟩ := block_ev b.f0 (Qad TB (i : Int)).f0 b.f1 (Qad TB (i : Int)).f1 (Qax W (i : Int)) (by omega) (by have := hT i (by omega); omega) (by have := (hW i (by omega)).1; omega) (hW i (by omega)).2
  simp only [Qcp]
  by_cases h0 : x.f1 = 0
  ·obtain ⟨tg, ht, htg⟩ := succ_some hb2
   obtain ⟨y, hy⟩ := edges_ev i W x.f0 (fun k r2 => Qcp k TB W l (i + 1) r2) (fun r2 => ih (fun c hc => hl c (by simp [hc])) (i + 1) r2 (by omega) (by omega)) (by have := (hx0 h0).1; omega) (hx0 h0).2 hW tg htg 0 (nextR r x)
   exact ⟨y, Ev.pos ⟨by omega, by omega⟩ (Ev.then hx (Ev.pos h0 (Ev.then (g := fun _ => _) ⟨0, fun _ _ => ht⟩ hy)))⟩
  ·exact ⟨_, Ev.pos ⟨by omega, by omega⟩ (Ev.then hx (Ev.neg h0 (Ev.val rfl)))⟩
structure Bnd (sr : Int) (SB : List S39) (tr ts : Int) (TB : List S57) (W : List (List S47)) : Prop where
 b1 : sr ≤ 1000
 b2 : tr ≤ 1000
 b3 : ts ≤ 1000
 l1 : SB.length ≤ 1000
 l2 : TB.length ≤ 1000
 l3 : W.length ≤ 1000
 c1 : ∀ i : Nat, i < SB.length → (Qam SB (i : Int)).f0.length ≤ 1000
 c2 : ∀ i : Nat, i < TB.length → (Qad TB (i : Int)).f0.length ≤ 1000
 c3 : ∀ i : Nat, i < W.length → (Qax W (i : Int)).length ≤ 1000
theorem rd39 (l : List S39) (i : Nat) (h : i < l.length) : Qam l (i : Int) = l[i] := by
 show l.getD i z39 = _
 rw [List.getD_eq_getElem?_getD, List.getElem?_eq_getElem h]; rfl
def startR (W : List (List S47)) (x : Int) : S51 := ⟨0, 0, 0, 0, 0, wrap64 (1 + ((Qax W 0).length : Int)), x⟩
theorem check_ok {sa sr : Int} {SB : List S39} {ta tr ts : Int} {TB : List S57} {W : List (List S47)} (hB : Bnd sr SB tr ts TB W) (hO : okAll sa sr SB ta tr ts TB W) {e : Int × Int × Int} (he : Ev (fun k => edge_Entry.f k (Qax W 0) sa) e) (h0 : e.2.2 = 0) :
    ∃ x r, Ev (fun k => Qcp k TB W SB 0 (startR W x)) r ∧ Ev (fun k => Qdk k sa sr SB ta tr ts TB W) r := by
 obtain ⟨y, hy, hq⟩ := cValid sa sr SB ta tr ts TB W hB.b1 hB.b2 hB.b3 hB.l1 hB.l2 hB.l3 hB.c1 hB.c2 hB.c3
 obtain rfl := hq.2 hO
 obtain ⟨⟨_, hne, hS⟩, _, hlen, hWn, hrows⟩ := hO
 obtain ⟨e', x, he', hb⟩ := begin_ev sa sr SB ta tr ts TB W hB.l3 (by omega) hB.c3
 obtain rfl := Ev.det he he'
 obtain ⟨r, hr⟩ := blocks_ev TB W sr hB.c2 (fun i hi => ⟨hB.c3 i hi, row_asc (hrows i hi)⟩) SB (fun b hb => by
  obtain ⟨i, hi, rfl⟩ := List.mem_iff_getElem.1 hb
  have h1 := hB.c1 i hi
  have h2 := (hS i hi).2
  rw [rd39 SB i hi] at h1 h2
  rw [hWn]
  exact ⟨h1, h2⟩) 0 (startR W x) (by omega) (by omega)
 refine ⟨x, r, hr, ?_⟩
 unfold Qdk
 rw [h0] at hb
 exact Ev.then hy (Ev.pos rfl (Ev.then hb (Ev.pos rfl hr)))
theorem check_ev {sa sr : Int} {SB : List S39} {ta tr ts : Int} {TB : List S57} {W : List (List S47)} (hB : Bnd sr SB tr ts TB W) : ∃ r, Ev (fun k => Qdk k sa sr SB ta tr ts TB W) r ∧ (r.f0 = 0 → okAll sa sr SB ta tr ts TB W ∧ ∃ e x, Ev (fun k => edge_Entry.f k (Qax W 0) sa) e ∧ e.2.2 = 0 ∧ Ev (fun k => Qcp k TB W SB 0 (startR W x)) r) := by
 obtain ⟨y, hy, hq⟩ := cValid sa sr SB ta tr ts TB W hB.b1 hB.b2 hB.b3 hB.l1 hB.l2 hB.l3 hB.c1 hB.c2 hB.c3
 by_cases h0 : y = 0
 ·have hO := hq.1 h0
  obtain ⟨⟨_, hne, hS⟩, _, hlen, hWn, hrows⟩ := hO
  obtain ⟨e, x, he, hb⟩ := begin_ev sa sr SB ta tr ts TB W hB.l3 (by omega) hB.c3
  by_cases h1 : e.2.2 = 0
  ·obtain ⟨x', r, h2, h3⟩ := check_ok hB (hq.1 h0) he h1
   exact ⟨r, h3, fun _ => ⟨hq.1 h0, e, x', he, h1, h2⟩⟩
  ·exact ⟨_, by unfold Qdk; exact Ev.then hy (Ev.pos h0 (Ev.then hb (Ev.neg h1 (Ev.val rfl)))), fun h => absurd h h1⟩
 ·exact ⟨_, by unfold Qdk; exact Ev.then hy (Ev.neg h0 (Ev.val rfl)), fun h => absurd h h0⟩
def Sm (r s : S51) : Prop := r.f0 = s.f0 ∧ r.f3 = s.f3
theorem mBlock15 (a r s : Int) (TB : List S57) (b : S57) (h : b.f0.length ≤ 1000) (hI : ∀ i : Nat, i < b.f0.length → okMI (Qag b.f0 (i : Int)) r s) (hr : ¬ Qc0 b.f0 0) :
    Ev (fun k => Qa7.f k a r s TB b.f0 b.f1.f0 b.f1.f1 b.f1.f2 b.f1.f3) 15 := by
 have go : ∀ m (i c : Nat), b.f0.length - i = m → i ≤ b.f0.length → c ≤ 64 → ¬ Qc0 (b.f0.drop i) c → Ev (fun k => Qa7.l0 k (c : Int) b.f0 (b.f0.length : Int) (i : Int) a r s TB b.f0 b.f1.f0 b.f1.f1 b.f1.f2 b.f1.f3) 15 := by
  intro m
  induction m with
  | zero => intro i c hm hi hc hr; exact absurd (by rw [List.drop_of_length_le (by omega)]; trivial) hr
  | succ m ih =>
   intro i c hm hi hc hr
   have hw : wrap64 ((i : Int) + 1) = ((i + 1 : Nat) : Int) := w64s (n := b.f0.length) (by omega) (by omega)
   have hwc : wrap64 ((c : Int) + 1) = ((c + 1 : Nat) : Int) := w64s (n := 1000) (by omega) (by omega)
   obtain ⟨t, ht, hp⟩ := mInstr (Qag b.f0 (i : Int)).f0 (Qag b.f0 (i : Int)).f1 (Qag b.f0 (i : Int)).f2 (Qag b.f0 (i : Int)).f3 (Qag b.f0 (i : Int)).f4 (Qag b.f0 (i : Int)).f5 (Qag b.f0 (i : Int)).f6 r s
   have h0 : t = 0 := hp.2 (hI i (by omega))
   have hd : b.f0.drop i = Qag b.f0 (i : Int) :: b.f0.drop (i + 1) := Qc1 b.f0 z59 i (by omega)
   rw [hd] at hr
   by_cases h18 : (Qag b.f0 (i : Int)).f0 = 18
   ·by_cases h64 : c + 1 ≤ 64
    ·have hx := ih (i + 1) (c + 1) (by omega) (by omega) h64 (fun h => hr (by simp only [Qc0, if_pos h18]; exact ⟨h64, h⟩))
     refine Ev.up (g := fun k => _) (fun k => rfl) (Ev.pos (by omega) (Ev.pos (by omega) (Ev.pos (by omega) (Ev.then ht (Ev.pos h0 (Ev.pos h18 (Ev.up (g := fun k => _) (fun k => rfl) (Ev.neg (by rw [hwc]; omega) ?_))))))))
     rw [hw, hwc]; exact hx
    ·exact Ev.up (g := fun k => _) (fun k => rfl) (Ev.pos (by omega) (Ev.pos (by omega) (Ev.pos (by omega) (Ev.then ht (Ev.pos h0 (Ev.pos h18 (Ev.up (g := fun k => _) (fun k => rfl) (Ev.pos (by rw [hwc]; omega) (Ev.val rfl)))))))))
   ·have hx := ih (i + 1) 0 (by omega) (by omega) (by omega) (fun h => hr (by simp only [Qc0, if_neg h18]; exact h))
    refine Ev.up (g := fun k => _) (fun k => rfl) (Ev.pos (by omega) (Ev.pos (by omega) (Ev.pos (by omega) (Ev.then ht (Ev.pos h0 (Ev.neg h18 (Ev.up (g := fun k => _) (fun k => rfl) (Ev.neg (c := (0 : Int) > 64) (f := fun _ => none) (by omega) ?_))))))))
    rw [hw]; exact hx
 exact go _ 0 0 rfl (by omega) (by omega) (by rw [List.drop_zero]; exact hr)
theorem mCheck15 (a r s : Int) (l : List S57) (hr : r ≤ 1000) (hs : s ≤ 1000) (hl : l.length ≤ 1000) (hc : ∀ i : Nat, i < l.length → (Qad l (i : Int)).f0.length ≤ 1000) (hh : (0 ≤ a ∧ a ≤ s) ∧ 0 ≤ r) (i : Nat) (hi : i < l.length)
    (hb : ∀ j : Nat, j < i → okMB (Qad l (j : Int)) r s l.length) (h15 : Ev (fun k => Qa7.f k a r s l (Qad l (i : Int)).f0 (Qad l (i : Int)).f1.f0 (Qad l (i : Int)).f1.f1 (Qad l (i : Int)).f1.f2 (Qad l (i : Int)).f1.f3) 15) : Ev (fun k => Qah.f k a r s l) 15 := by
 have go : ∀ m (j : Nat), i - j = m → j ≤ i → Ev (fun k => Qah.l0 k l (l.length : Int) (j : Int) a r s l) 15 := by
  intro m
  induction m with
  | zero =>
   intro j hm hj
   obtain rfl : j = i := by omega
   exact Ev.up (g := fun k => _) (fun k => rfl) (Ev.pos (by omega) (Ev.pos (by omega) (Ev.pos (by omega) (Ev.then h15 (Ev.neg (c := (15 : Int) = 0) (f := fun _ => none) (by omega) (Ev.val rfl))))))
  | succ m ih =>
   intro j hm hj
   obtain ⟨x, hx, hq⟩ := mBlock a r s l (Qad l (j : Int)) (hc j (by omega))
   have h0 : x = 0 := hq.2 (hb j (by omega))
   have := ih (j + 1) (by omega) (by omega)
   exact Ev.up (g := fun k => _) (fun k => rfl) (Ev.pos (by omega) (Ev.pos (by omega) (Ev.pos (by omega) (Ev.then hx (Ev.pos h0 (by rw [w64s (n := l.length) (by omega) (by omega)]; exact this))))))
 obtain ⟨v, hv, hv0, hv1⟩ := mCode a r s l hl hc
 have hj1 : Ev (fun k => Qah.j1 k false a r s l) 15 :=
  Ev.up (g := fun k => _) (fun k => by rw [Qah.j1]) (Ev.neg (c := false = true) (by simp) (Ev.neg (c := (l.length : Int) = 0) (by omega) (Ev.neg (c := (l.length : Int) > 1048576) (by omega) (Ev.then hv (Ev.up (g := fun k => _) (fun k => rfl) (Ev.neg (c := decide (v > 1048576) = true) (by simp; omega) (go _ 0 rfl (by omega))))))))
 have hj1' : Ev (fun k => Qah.j1 k (decide (r > 1048576)) a r s l) 15 := by rw [decide_eq_false (by omega)]; exact hj1
 have hj0 : Ev (fun k => Qah.j0 k false a r s l) 15 :=
  Ev.up (g := fun k => _) (fun k => by rw [Qah.j0]) (Ev.neg (c := false = true) (by simp) (Ev.neg (c := r < 0) (by omega) (Ev.neg (c := s > 1048576) (by omega) hj1')))
 unfold Qah.f
 refine Ev.neg (by omega) ?_
 rw [decide_eq_false (by omega)]; exact hj0
theorem check15 {sa sr : Int} {SB : List S39} {ta tr ts : Int} {TB : List S57} {W : List (List S47)} (hB : Bnd sr SB tr ts TB W) (hS : okSrc sa sr SB) (hh : (0 ≤ ta ∧ ta ≤ ts) ∧ 0 ≤ tr) (i : Nat) (hi : i < TB.length)
    (hb : ∀ j : Nat, j < i → okMB (Qad TB (j : Int)) tr ts TB.length) (hI : ∀ j : Nat, j < (Qad TB (i : Int)).f0.length → okMI (Qag (Qad TB (i : Int)).f0 (j : Int)) tr ts) (hr : ¬ Qc0 (Qad TB (i : Int)).f0 0) :
    ∃ r, Ev (fun k => Qdk k sa sr SB ta tr ts TB W) r ∧ r.f0 = 15 := by
 obtain ⟨x, hx, hq⟩ := srcCheck sa sr SB hB.b1 hB.l1 hB.c1
 have h0 : x = 0 := hq.2 hS
 have hm := mCheck15 ta tr ts TB hB.b2 hB.b3 hB.l2 hB.c2 hh i hi hb (mBlock15 ta tr ts TB _ (hB.c2 i hi) hI hr)
 have hv : Ev (fun k => Qbc.f k sa sr SB ta tr ts TB W) 15 := by
  unfold Qbc.f
  exact Ev.then hx (Ev.pos h0 (Ev.then hm (Ev.neg (c := (15 : Int) = 0) (by omega) (Ev.val rfl))))
 exact ⟨_, by unfold Qdk; exact Ev.then hv (Ev.neg (c := (15 : Int) = 0) (by omega) (Ev.val rfl)), rfl⟩
def Qcz : List S59 → Nat
 | [] => 0
 | m :: t => if m.f0 = 18 then Qcz t + 1 else 0
theorem Qeq : ∀ (l : List S59) (c : Nat), c ≤ 64 → (Qc0 l c ↔ c + Qcz l ≤ 64 ∧ ∀ i : Nat, Qcz (l.drop i) ≤ 64)
 | [], c, hc => by simp [Qc0, Qcz, hc]
 | m :: t, c, hc => by
  by_cases h : m.f0 = 18
  ·simp only [Qc0, Qcz, if_pos h]
   constructor
   ·rintro ⟨h1, h2⟩
    obtain ⟨h3, h4⟩ := (Qeq t (c + 1) h1).1 h2
    refine ⟨by omega, fun i => ?_⟩
    cases i with
    | zero => simp only [List.drop_zero, Qcz, if_pos h]; omega
    | succ i => exact h4 i
   ·rintro ⟨h1, h2⟩
    have hc1 : c + 1 ≤ 64 := by omega
    exact ⟨hc1, (Qeq t (c + 1) hc1).2 ⟨by omega, fun i => h2 (i + 1)⟩⟩
  ·simp only [Qc0, Qcz, if_neg h]
   rw [Qeq t 0 (by omega)]
   constructor
   ·rintro ⟨h1, h2⟩
    refine ⟨by omega, fun i => ?_⟩
    cases i with
    | zero => simp only [List.drop_zero, Qcz, if_neg h]; omega
    | succ i => exact h2 i
   ·rintro ⟨h1, h2⟩
    exact ⟨by have := h2 1; simpa using this, fun i => h2 (i + 1)⟩
theorem okRuns_zero (l : List S59) : Qc0 l 0 ↔ ∀ i : Nat, Qcz (l.drop i) ≤ 64 := by
 rw [Qeq l 0 (by omega)]
 exact ⟨fun h => h.2, fun h => ⟨by have := h 0; simpa using this, h⟩⟩
theorem runHead_le : ∀ l : List S59, Qcz l ≤ l.length
 | [] => Nat.le_refl _
 | m :: t => by
  have := runHead_le t
  simp only [Qcz, List.length_cons]
  split <;> omega
theorem moves_l1 (k : Nat) (l : List S59) (b i n q : Int) (h : wrap64 (i + n) = q) : Qaf.l1 (k + 1) l b i n = (if q < (l.length : Int) then (if 0 ≤ q then (Qaf.j2 k l b i n (((Qag l q).f0) == 18)) else (none)) else (Qaf.j2 k l b i n false)) := by
 rw [Qaf.l1, h]
theorem moves_ev (l : List S59) (hl : l.length ≤ 1000) (R : Nat → Nat) (R0 : ∀ j, l.length ≤ j → R j = 0) (R1 : ∀ j, j < l.length → (Qag l (j : Int)).f0 = 18 → R j = R (j + 1) + 1) (R2 : ∀ j, j < l.length → (Qag l (j : Int)).f0 ≠ 18 → R j = 0) (R3 : ∀ j, R j ≤ 1000) :
    ∀ m (i b : Nat), l.length - i = m → i ≤ l.length → b ≤ 1000 → ∃ v : Nat, Ev (fun k => Qaf.l0 k l (b : Int) (i : Int)) (v : Int) ∧ (v ≤ 64 ↔ b ≤ 64 ∧ ∀ j : Nat, i ≤ j → R j ≤ 64) := by
 intro m
 induction m with
 | zero =>
  intro i b hm hi hb
  exact ⟨b, Ev.up (g := fun k => _) (fun k => rfl) (Ev.neg (by omega) (Ev.val rfl)), ⟨fun h => ⟨h, fun j hj => by rw [R0 j (by omega)]; omega⟩, fun h => h.1⟩⟩
 | succ m ih =>
  intro i b hm hi hb
  have hle := R3 i
  obtain ⟨v, hv, hq⟩ := ih (i + 1) (max b (R i)) (by omega) (by omega) (by omega)
  have j2f : ∀ n : Nat, R i = n → Ev (fun k => Qaf.j2 k l (b : Int) (i : Int) (n : Int) false) (v : Int) := by
   intro n hn
   refine Ev.up (g := fun k => _) (fun k => by rw [Qaf.j2]) (Ev.neg (c := false = true) (by simp) ?_)
   rw [w64s (n := l.length) (i := i) (by omega) (by omega)]
   by_cases hnb : b < n
   ·refine Ev.pos (by omega) ?_
    rw [show max b (R i) = n by omega] at hv; exact hv
   ·refine Ev.neg (by omega) ?_
    rw [show max b (R i) = b by omega] at hv; exact hv
  have inner : ∀ p (n : Nat), l.length - (i + n) = p → i + n ≤ l.length → R i = n + R (i + n) → Ev (fun k => Qaf.l1 k l (b : Int) (i : Int) (n : Int)) (v : Int) := by
   intro p
   induction p with
   | zero =>
    intro n hp hn he
    rw [R0 (i + n) (by omega)] at he
    exact Ev.up (fun k => moves_l1 k l b i n ((i + n : Nat) : Int) (by rw [w64i (by omega) (by omega)]; omega)) (Ev.neg (by omega) (j2f n he))
   | succ p ihp =>
    intro n hp hn he
    refine Ev.up (fun k => moves_l1 k l b i n ((i + n : Nat) : Int) (by rw [w64i (by omega) (by omega)]; omega)) (Ev.pos (by omega) (Ev.pos (by omega) ?_))
    by_cases h18 : (Qag l ((i + n : Nat) : Int)).f0 = 18
    ·rw [show ((Qag l ((i + n : Nat) : Int)).f0 == 18) = true from beq_iff_eq.2 h18]
     rw [R1 (i + n) (by omega) h18] at he
     have := ihp (n + 1) (by omega) (by omega) (by rw [he, show i + (n + 1) = i + n + 1 by omega]; omega)
     refine Ev.up (g := fun k => _) (fun k => by rw [Qaf.j2]) (Ev.pos (c := true = true) rfl ?_)
     rw [w64s (n := 1000) (i := n) (by omega) (by omega)]; exact this
    ·rw [show ((Qag l ((i + n : Nat) : Int)).f0 == 18) = false from beq_eq_false_iff_ne.2 h18]
     rw [R2 (i + n) (by omega) h18] at he
     exact j2f n he
  have h0 := inner _ 0 rfl (by omega) (by rw [Nat.add_zero]; omega)
  refine ⟨v, Ev.up (g := fun k => _) (fun k => rfl) (Ev.pos (by omega) h0), hq.trans ⟨fun h => ⟨by omega, fun j hj => ?_⟩, fun h => ⟨by have := h.2 i (by omega); omega, fun j hj => h.2 j (by omega)⟩⟩⟩
  rcases Nat.eq_or_lt_of_le hj with rfl | h3
  ·omega
  ·exact h.2 j h3
theorem moves_spec (l : List S59) (hl : l.length ≤ 1000) : ∃ v : Nat, Ev (fun k => Qaf.f k l) (v : Int) ∧ (v ≤ 64 ↔ Qc0 l 0) := by
 obtain ⟨v, hv, hq⟩ := moves_ev l hl (fun j => Qcz (l.drop j)) (fun j hj => by show Qcz (l.drop j) = 0; rw [List.drop_of_length_le hj]; rfl)
  (fun j hj h18 => by show Qcz (l.drop j) = Qcz (l.drop (j + 1)) + 1; rw [Qc1 l z59 j hj]; exact if_pos h18)
  (fun j hj h18 => by show Qcz (l.drop j) = 0; rw [Qc1 l z59 j hj]; exact if_neg h18)
  (fun j => Nat.le_trans (runHead_le _) (by rw [List.length_drop]; omega)) _ 0 0 rfl (by omega) (by omega)
 refine ⟨v, hv, hq.trans ?_⟩
 rw [okRuns_zero]
 exact ⟨fun h i => h.2 i (by omega), fun h => ⟨by omega, fun j _ => h j⟩⟩
theorem inserted_eq (l : List S59) (x : Int) (hx : 0 ≤ x) (hl : l.length ≤ 1000) (m : S59) : ∃ n : Nat, n ≤ l.length ∧ Qa2.f l x m.f0 m.f1 m.f2 m.f3 m.f4 m.f5 m.f6 = some (l.take n ++ m :: l.drop n) := by
 have hw : wrap64 ((l.length : Int) + 1) = (l.length : Int) + 1 := w64i (by omega) (by omega)
 have h0 : 0 ≤ Int.tmod x ((l.length : Int) + 1) := Int.tmod_nonneg _ hx
 have h1 : Int.tmod x ((l.length : Int) + 1) < (l.length : Int) + 1 := Int.tmod_lt_of_pos _ (by omega)
 refine ⟨(Int.tmod x ((l.length : Int) + 1)).toNat, by omega, ?_⟩
 unfold Qa2.f
 rw [hw, if_neg (by omega)]
 simp only [Option.bind_some]
 rw [if_pos h0, if_pos (by omega), if_pos (by simp only [List.length_nil, List.length_take]; omega), if_pos (by simp only [List.nil_append, List.length_take, List.length_singleton]; omega), if_pos (by simp only [List.nil_append, List.length_append, List.length_take, List.length_singleton, List.length_drop]; omega)]
 simp
def InR (l : List S47) : Prop := ∀ y ∈ l, (0 ≤ y.f0 ∧ y.f0 < 1000) ∧ 0 ≤ y.f1 ∧ y.f1 < 1000
theorem size_gen : ∀ (l : List S47) (lo : Int), Asc l → InR l → lo ≤ 1000000 → (∀ y ∈ l, lo ≤ y.f0 * 1000 + y.f1) → (l.length : Int) ≤ 1000000 - lo
 | [], lo, _, _, h, _ => by simp; omega
 | y :: t, lo, hA, hR, hlo, hl => by
  obtain ⟨h1, h2⟩ := asc_cons hA
  have hy := hR y (by simp)
  have hly := hl y (by simp)
  have := size_gen t (y.f0 * 1000 + y.f1 + 1) h2 (fun z hz => hR z (by simp [hz])) (by omega) (fun z hz => by
   have h3 := h1 z hz
   have h4 := hR z (by simp [hz])
   rw [Qdh] at h3
   omega)
  rw [List.length_cons]; omega
theorem size_le (l : List S47) (hA : Asc l) (hR : InR l) : l.length ≤ 1000000 := by
 have := size_gen l 0 hA hR (by omega) (fun y hy => by have := hR y hy; omega)
 omega
structure Rr (nl : Int) (s t : Bs) : Prop where
 gs : Goo s
 gt : Goo t
 sub : ∀ y ∈ s.set, y ∈ t.set
 old : ∀ y ∈ s.set, y.f1 ≠ nl
 inr : InR t.set
def okE (nl : Int) : Evt → Prop
 | .cp d a => 0 ≤ d ∧ d < 1000
 | .mv d a => (0 ≤ d ∧ d < 1000) ∧ d ≠ nl
 | .ins i m => (OF i.f0).1 = true → (0 ≤ i.f1 ∧ i.f1 < 1000) ∧ (0 ≤ wrap64 (2 * m.f1) ∧ wrap64 (2 * m.f1) < 1000) ∧ wrap64 (2 * m.f1) ≠ nl
theorem Qd3 {s : Bs} (h : Goo s) : s.set.length ≤ 10000000 := by have := h.2.1; omega
theorem bec_in {t : Bs} (ht : t.most = 1048576) {l : List S47} (hA : Asc l) (hR : InR l) (x : Int) : Qcg t l x = (t.become l, none) ∧ Goo (t.become l) := by
 have hl := size_le l hA hR
 have hn : ¬ ((l.length : Int) > t.most) := by omega
 exact ⟨by unfold Qcg; rw [if_neg hn], hA, by show l.length ≤ _; omega, ht⟩
theorem bec_out {s s1 : Bs} {l : List S47} {x : Int} (h : Qcg s l x = (s1, none)) : s1 = s.become l := (Prod.mk.inj h).1.symm
theorem then_inv {f : Nat → OBs} {K : Nat → Bs → OBs} {s2 : Bs} (hf : ∃ x, Ev f x) (h : Ev (fun k => (f k).then (K k)) (s2, none)) : ∃ s1, Ev f (s1, none) ∧ Ev (fun k => K k s1) (s2, none) := by
 obtain ⟨⟨s1, q⟩, hx⟩ := hf
 cases q with
 | none =>
  refine ⟨s1, hx, ?_⟩
  obtain ⟨K1, hx⟩ := hx
  obtain ⟨K2, h⟩ := h
  exact ⟨K1 + K2, fun n hn => by have h1 := h n (by omega); simp only [hx n (by omega)] at h1; exact h1⟩
 | some q =>
  have : Ev (fun k => (f k).then (K k)) (s1, some q) := by
   obtain ⟨K1, hx⟩ := hx
   exact ⟨K1, fun n hn => by show OBs.then (f n) (K n) = _; rw [hx n hn]; rfl⟩
  have e := Ev.det h this
  cases (Prod.mk.inj e).2
theorem then_mk {f : Nat → OBs} {K : Nat → Bs → OBs} {s1 : Bs} {x : Bs × Pan} (h1 : Ev f (s1, none)) (h2 : Ev (fun k => K k s1) x) : Ev (fun k => (f k).then (K k)) x := Ev.then h1 h2
theorem use_sim {nl : Int} {s t s1 : Bs} (h : Rr nl s t) (v r x : Int) (e : Ev (fun k => useF k s v r x) (s1, none)) : s1 = s.cost ∧ ∀ y, Ev (fun k => useF k t v r y) (t.cost, none) := by
 obtain ⟨b, hb, hq⟩ := has_spec s.set ⟨v, wrap64 (2 * r)⟩ (by have := Qd3 h.gs; omega) h.gs.1
 have e1 : Ev (fun k => useF k s v r x) (s.cost, if b = true then none else some (21, x)) := by unfold useF; exact Ev.then hb (Ev.val rfl)
 have e2 := Prod.mk.inj (Ev.det e e1)
 refine ⟨e2.1, fun y => ?_⟩
 have hbt : b = true := by
  cases b with
  | true => rfl
  | false => simp at e2
 obtain ⟨c, hc, hqc⟩ := has_spec t.set ⟨v, wrap64 (2 * r)⟩ (by have := Qd3 h.gt; omega) h.gt.1
 have hct : c = true := hqc.2 (h.sub _ (hq.1 hbt))
 rw [hct] at hc
 unfold useF
 exact Ev.then hc (Ev.val (by simp))
theorem Rr.cost {nl : Int} {s t : Bs} (h : Rr nl s t) : Rr nl s.cost t.cost := ⟨h.gs, h.gt, h.sub, h.old, h.inr⟩
theorem instrD_sim {nl : Int} {s t s1 : Bs} (h : Rr nl s t) (d : Bool) (iD mD x : Int) (ho : d = true → (0 ≤ iD ∧ iD < 1000) ∧ (0 ≤ wrap64 (2 * mD) ∧ wrap64 (2 * mD) < 1000) ∧ wrap64 (2 * mD) ≠ nl) (e : Ev (fun k => Qeu k s d iD mD x) (s1, none)) :
    ∃ t1, (∀ y, Ev (fun k => Qeu k t d iD mD y) (t1, none)) ∧ Rr nl s1 t1 := by
 unfold Qeu at e ⊢
 cases d with
 | false =>
  have := Ev.det e (show Ev (fun k => if false = true then (Qeh k s.set iD (wrap64 (2 * mD))).bind fun l => some (Qcg s.cost l x) else some (s, none)) (s, none) from ⟨0, fun _ _ => rfl⟩)
  have e1 := (Prod.mk.inj this).1
  exact ⟨t, fun y => ⟨0, fun _ _ => rfl⟩, e1 ▸ h⟩
 | true =>
  obtain ⟨o1, o2, o3⟩ := ho rfl
  obtain ⟨r, er, hA, hl, hm⟩ := Qe3 s.set iD (wrap64 (2 * mD)) (Qd3 h.gs) h.gs.1
  obtain ⟨r2, er2, hA2, hl2, hm2⟩ := Qe3 t.set iD (wrap64 (2 * mD)) (Qd3 h.gt) h.gt.1
  have e1 : Ev (fun k => if true = true then (Qeh k s.set iD (wrap64 (2 * mD))).bind fun l => some (Qcg s.cost l x) else some (s, none)) (Qcg s.cost r x) := Ev.pos (c := true = true) rfl (Ev.then er (Ev.val rfl))
  have e2 := (Ev.det e e1).symm
  have hin : InR r2 := fun y hy => by
   rcases (hm2 y).1 hy with e | e
   ·rw [e]; exact ⟨o1, o2.1, o2.2⟩
   ·exact h.inr y e.1
  have hb := fun y => bec_in (t := t.cost) h.gt.2.2 hA2 hin y
  refine ⟨t.cost.become r2, fun y => Ev.pos (c := true = true) rfl (Ev.then er2 (Ev.val (hb y).1)), ?_⟩
  have g1 := (becOk (s := s.cost) h.gs.2.2 hA x).1 (by rw [e2])
  rw [e2] at g1
  have e3 := bec_out e2
  refine ⟨g1, (hb 0).2, fun y hy => ?_, fun y hy => ?_, hin⟩
  ·rw [e3] at hy
   rcases (hm y).1 hy with e | e
   ·exact (hm2 y).2 (Or.inl e)
   ·exact (hm2 y).2 (Or.inr ⟨h.sub y e.1, e.2⟩)
  ·rw [e3] at hy
   rcases (hm y).1 hy with e | e
   ·rw [e]; exact o3
   ·exact h.old y e.1
theorem instrB_sim {nl : Int} {s t s1 : Bs} (h : Rr nl s t) (d b : Bool) (iD iB mD mB x : Int) (ho : d = true → (0 ≤ iD ∧ iD < 1000) ∧ (0 ≤ wrap64 (2 * mD) ∧ wrap64 (2 * mD) < 1000) ∧ wrap64 (2 * mD) ≠ nl) (e : Ev (fun k => instrB k s d b iD iB mD mB x) (s1, none)) :
    ∃ t1, (∀ y, Ev (fun k => instrB k t d b iD iB mD mB y) (t1, none)) ∧ Rr nl s1 t1 := by
 unfold instrB at e ⊢
 cases b with
 | false => exact instrD_sim h d iD mD x ho e
 | true =>
  change Ev (fun k => (useF k s iB mB x).then fun s1 => Qeu k s1 d iD mD x) (s1, none) at e
  obtain ⟨s2, e1, e2⟩ := then_inv ((useOk h.gs iB mB x).imp fun _ h => h.1) e
  obtain ⟨e3, e4⟩ := use_sim h iB mB x e1
  rw [e3] at e2
  obtain ⟨t1, e5, e6⟩ := instrD_sim h.cost d iD mD x ho e2
  exact ⟨t1, fun y => Ev.pos (c := true = true) rfl (then_mk (e4 y) (e5 y)), e6⟩
theorem instr_sim {nl : Int} {s t s1 : Bs} (h : Rr nl s t) (i : S41) (m : S59) (x : Int) (ho : okE nl (.ins i m)) (e : Ev (fun k => instrF k s i m x) (s1, none)) : ∃ t1, (∀ y, Ev (fun k => instrF k t i m y) (t1, none)) ∧ Rr nl s1 t1 := by
 unfold instrF instrA at e ⊢
 rw [of_some] at e ⊢
 simp only [Option.bind_some] at e ⊢
 cases hf : (OF i.f0).2.1 with
 | false =>
  simp only [hf, Bool.false_eq_true, if_false] at e ⊢
  exact instrB_sim h _ _ _ _ _ _ x ho e
 | true =>
  simp only [hf, if_true] at e ⊢
  obtain ⟨s2, e1, e2⟩ := then_inv ((useOk h.gs i.f2 m.f2 x).imp fun _ h => h.1) e
  obtain ⟨e3, e4⟩ := use_sim h i.f2 m.f2 x e1
  rw [e3] at e2
  obtain ⟨t1, e5, e6⟩ := instrB_sim h.cost _ _ _ _ _ _ x ho e2
  exact ⟨t1, fun y => then_mk (e4 y) (e5 y), e6⟩
theorem copy_sim {nl : Int} {s t s1 : Bs} (h : Rr nl s t) (d a x : Int) (ho : 0 ≤ d ∧ d < 1000) (e : Ev (fun k => copyF k s d a x) (s1, none)) : ∃ t1, (∀ y, Ev (fun k => copyF k t d a y) (t1, none)) ∧ Rr nl s1 t1 := by
 unfold copyF at e ⊢
 obtain ⟨r, er, hA, hl, hm⟩ := copyS_spec s.set d a (Qd3 h.gs) h.gs.1
 obtain ⟨r2, er2, hA2, hl2, hm2⟩ := copyS_spec t.set d a (Qd3 h.gt) h.gt.1
 have e2 := Ev.det (Ev.then er (Ev.val (v := Qcg s.cost r x) rfl)) e
 have hin : InR r2 := fun y hy => by
  rcases (hm2 y).1 hy with e | e
  ·exact h.inr y e.1
  ·have := h.inr _ e.2
   rw [e.1]; exact ⟨ho, this.2⟩
 have hb := fun y => bec_in (t := t.cost) h.gt.2.2 hA2 hin y
 refine ⟨t.cost.become r2, fun y => Ev.then er2 (Ev.val (hb y).1), ?_⟩
 have g1 := (becOk (s := s.cost) h.gs.2.2 hA x).1 (by rw [e2])
 rw [e2] at g1
 have e3 := bec_out e2
 refine ⟨g1, (hb 0).2, fun y hy => ?_, fun y hy => ?_, hin⟩
 ·rw [e3] at hy
  exact (hm2 y).2 (((hm y).1 hy).imp (fun e => ⟨h.sub y e.1, e.2⟩) fun e => ⟨e.1, h.sub _ e.2⟩)
 ·rw [e3] at hy
  rcases (hm y).1 hy with e | e
  ·exact h.old y e.1
  ·exact h.old (⟨a, y.f1⟩ : S47) e.2
theorem move_sim {nl : Int} {s t s1 : Bs} (h : Rr nl s t) (d a x : Int) (ho : 0 ≤ d ∧ d < 1000) (hn : d ≠ nl) (e : Ev (fun k => moveF k s d a x) (s1, none)) : ∃ t1, (∀ y, Ev (fun k => moveF k t d a y) (t1, none)) ∧ Rr nl s1 t1 := by
 unfold moveF at e ⊢
 obtain ⟨r, er, hA, hl, hm⟩ := Qer s.set d a (Qd3 h.gs) h.gs.1
 obtain ⟨r2, er2, hA2, hl2, hm2⟩ := Qer t.set d a (Qd3 h.gt) h.gt.1
 have e2 := Ev.det (Ev.then er (Ev.val (v := Qcg s.cost r x) rfl)) e
 have hin : InR r2 := fun y hy => by
  rcases (hm2 y).1 hy with e | e
  ·exact h.inr y e.1
  ·have := h.inr _ e.2
   rw [e.1]; exact ⟨this.1, ho⟩
 have hb := fun y => bec_in (t := t.cost) h.gt.2.2 hA2 hin y
 refine ⟨t.cost.become r2, fun y => Ev.then er2 (Ev.val (hb y).1), ?_⟩
 have g1 := (becOk (s := s.cost) h.gs.2.2 hA x).1 (by rw [e2])
 rw [e2] at g1
 have e3 := bec_out e2
 refine ⟨g1, (hb 0).2, fun y hy => ?_, fun y hy => ?_, hin⟩
 ·rw [e3] at hy
  exact (hm2 y).2 (((hm y).1 hy).imp (fun e => ⟨h.sub y e.1, e.2⟩) fun e => ⟨e.1, h.sub _ e.2⟩)
 ·rw [e3] at hy
  rcases (hm y).1 hy with e | e
  ·exact h.old y e.1
  ·rw [e.1]; exact hn
theorem spare_sim {nl : Int} {s t : Bs} (h : Rr nl s t) (a : Int) (ho : 0 ≤ nl ∧ nl < 1000) : ∃ t1, (∀ y, Ev (fun k => moveF k t nl a y) (t1, none)) ∧ Rr nl s t1 := by
 unfold moveF
 obtain ⟨r2, er2, hA2, hl2, hm2⟩ := Qer t.set nl a (Qd3 h.gt) h.gt.1
 have hin : InR r2 := fun y hy => by
  rcases (hm2 y).1 hy with e | e
  ·exact h.inr y e.1
  ·have := h.inr _ e.2
   rw [e.1]; exact ⟨this.1, ho⟩
 have hb := fun y => bec_in (t := t.cost) h.gt.2.2 hA2 hin y
 exact ⟨t.cost.become r2, fun y => Ev.then er2 (Ev.val (hb y).1), h.gs, (hb 0).2, fun y hy => (hm2 y).2 (Or.inl ⟨h.sub y hy, h.old y hy⟩), h.old, hin⟩
theorem ev_ok {s : Bs} (h : Goo s) (e : Evt) (x : Int) : Okk (fun k => evF k e x s) := by
 cases e with
 | cp d a => exact copyF_ok h d a x
 | mv d a => exact moveF_ok h d a x
 | ins i m => exact instrF_ok h i m x
theorem ev_sim {nl : Int} {s t s1 : Bs} (h : Rr nl s t) (e : Evt) (x : Int) (ho : okE nl e) (he : Ev (fun k => evF k e x s) (s1, none)) : ∃ t1, (∀ y, Ev (fun k => evF k e y t) (t1, none)) ∧ Rr nl s1 t1 := by
 cases e with
 | cp d a => exact copy_sim h d a x ho he
 | mv d a => exact move_sim h d a x ho.1 ho.2 he
 | ins i m => exact instr_sim h i m x ho he
theorem run_sim {nl : Int} {s2 : Bs} (K K' : Nat → Bs → OBs) (P : Bs → Prop) (hK : ∀ s1 t1, Rr nl s1 t1 → Ev (fun k => K k s1) (s2, none) → ∃ t2, Ev (fun k => K' k t1) (t2, none) ∧ P t2) : ∀ (E E' : List (Evt × Int)) (s t : Bs), era E = era E' → (∀ e ∈ era E, okE nl e) → Rr nl s t → Ev (fun k => runE k E s (K k)) (s2, none) →
    ∃ t2, Ev (fun k => runE k E' t (K' k)) (t2, none) ∧ P t2
 | [], [], s, t, _, _, h, e => hK s t h e
 | [], b :: E', s, t, he, _, h, e => by cases he
 | a :: E, [], s, t, he, _, h, e => by cases he
 | a :: E, b :: E', s, t, he, ho, h, e => by
  have h1 : a.1 = b.1 := (List.cons.inj he).1
  have h2 : era E = era E' := (List.cons.inj he).2
  obtain ⟨s1, e1, e2⟩ := then_inv ((ev_ok h.gs a.1 a.2).imp fun _ h => h.1) e
  obtain ⟨t1, e3, e4⟩ := ev_sim h a.1 a.2 (ho a.1 (by simp [era])) e1
  obtain ⟨t2, e5, e6⟩ := run_sim K K' P hK E E' s1 t1 h2 (fun x hx => ho x (by simp [era] at hx ⊢; exact Or.inr hx)) e4 e2
  exact ⟨t2, then_mk (f := fun k => evF k b.1 b.2 t) (h1 ▸ e3 b.2) e5, e6⟩
end Go.Proofs.YtchpkjgibloleaaGreat.Z
