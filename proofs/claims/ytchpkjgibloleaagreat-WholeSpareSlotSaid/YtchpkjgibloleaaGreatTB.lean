/- TB -/
import Derived.Test.YtchpkjgibloleaaGreatTA
import Derived.Shelf.SlSortCmp.WholeK
import Derived.Shelf.SlicesE.Clone
import Derived.Test.YtchpkjgibloleaaGreatProg
import Derived.Shelf.Abstract
import Derived.Lib.SliceRun
import Derived.Shelf.SlSortCmp.NoneTotal
import Derived.Deep.RegionWith
set_option linter.unusedVariables false
set_option linter.unusedSimpArgs false
namespace Go.Proofs.YtchpkjgibloleaaGreat.Z
set_option maxRecDepth 100000
set_option maxHeartbeats 8000000
open Go.RowKit Go.Proofs.YtchpkjgibloleaaGreatW.PrintWords Go.Proofs.YtchpkjgibloleaaGreatW.PrintLast Go.Proofs.YtchpkjgibloleaaGreatW.PrintMore
attribute [local go_sem] Qb3 Qb8
attribute [local go_sem high] eqA47
mutual
def Qae.l0 : Nat → List (S47) → List (S47) → List (S47) → Option ((List (S47)))
 | 0, _, _, _ => none
 | k + 1, x0, x1, x5 => if (x0.length : Int) > 0 then (Qae.j1 k x0 x1 x5 (decide ((x1.length : Int) > 0))) else (Qae.j1 k x0 x1 x5 false)
def Qae.j1 : Nat → List (S47) → List (S47) → List (S47) → Bool → Option ((List (S47)))
 | 0, _, _, _, _ => none
 | k + 1, x0, x1, x5, x20 => if x20 = true then (if 0 < (x0.length : Int) then (if 0 < (x1.length : Int) then ((Qa8.f ((Qaa x1 0).f0) ((Qaa x1 0).f1) ((Qaa x0 0).f0) ((Qaa x0 0).f1)).bind fun t118 => (if t118 = true then (Qae.j2 k x0 x1 x5 ((Qaa x1 0).f0) ((Qaa x1 0).f1)) else (Qae.j2 k x0 x1 x5 ((Qaa x0 0).f0) ((Qaa x0 0).f1)))) else (none)) else (none)) else (if x5.length + x0.length < 8796093022208 then ((some (x5 ++ x0 : List (S47))).bind fun y109 => (if y109.length + x1.length < 8796093022208 then (some (y109 ++ x1)) else (none))) else (none))
def Qae.j2 : Nat → List (S47) → List (S47) → List (S47) → Int → Int → Option ((List (S47)))
 | 0, _, _, _, _, _ => none
 | k + 1, x0, x1, x5, x117000, x117001 => if x5.length < 8796093022208 then ((some (x5 ++ [(⟨x117000, x117001⟩ : S47)] : List (S47))).bind fun y120 => (if 0 < (x0.length : Int) then (if (((Qaa x0 0).f0) == x117000 && (((Qaa x0 0).f1) == x117001)) = true then (if 1 ≤ (x0.length : Int) then (Qae.j3 k (x0.drop 1) x1 y120 x117000 x117001) else (none)) else (Qae.j3 k x0 x1 y120 x117000 x117001)) else (none))) else (none)
def Qae.j3 : Nat → List (S47) → List (S47) → List (S47) → Int → Int → Option ((List (S47)))
 | 0, _, _, _, _, _ => none
 | k + 1, x0, x1, x5, x117000, x117001 => if 0 < (x1.length : Int) then (if (((Qaa x1 0).f0) == x117000 && (((Qaa x1 0).f1) == x117001)) = true then (if 1 ≤ (x1.length : Int) then (Qae.l0 k x0 (x1.drop 1) x5) else (none)) else (Qae.l0 k x0 x1 x5)) else (none)
end
def Qae.f (k : Nat) (l0 : List (S47)) (l1 : List (S47)) : Option ((List (S47))) := if 0 ≤ (wrap64 ((l0.length : Int) + (l1.length : Int))) then (if (wrap64 ((l0.length : Int) + (l1.length : Int)) : Int).toNat ≤ 17592186044416 then (Qae.l0 k l0 l1 ([])) else (none)) else (none)
theorem Qae.calls (k : Nat) (P0_ : Nat → Prop) (A0 : Option Addr) (c0 : Nat) (l0 : List (S47)) (P1_ : Nat → Prop) (A1 : Option Addr) (c1 : Nat) (l1 : List (S47)) (r : List (S47)) (w : World) (hs0 : Kd.V k47 47 w w.heap.size (fun k_ => P0_ k_) (.slice A0 l0.length c0) l0) (hs1 : Kd.V k47 47 w w.heap.size (fun k_ => P1_ k_) (.slice A1 l1.length c1) l1) (h : Qae.f k l0 l1 = some r) :
 Calls Tryz.prog 204 #[.slice A0 l0.length c0, .slice A1 l1.length c1] w fun e w' => ∃ v0_ : Value, e = .returned (v0_) ∧ Kd.R k47 47 w' w.heap.size (fun k_ => (w.heap.size ≤ k_)) v0_ r ∧ Below w.heap.size w w' := by
 have hu47 := Tryz.underlying47
 have O0 := As0 (show Kd.V k47 47 w w.heap.size (fun k_ => ((P0_ k_ ∨ P1_ k_) ∨ w.heap.size ≤ k_)) (.slice A0 l0.length c0) l0 from Kd.V_mono hs0 (fun k_ hk => .inl (.inl hk)))
 have O1 := As0 (show Kd.V k47 47 w w.heap.size (fun k_ => ((P0_ k_ ∨ P1_ k_) ∨ w.heap.size ≤ k_)) (.slice A1 l1.length c1) l1 from Kd.V_mono hs1 (fun k_ hk => .inl (.inr hk)))
 have HB := As0 (Below.refl w.heap.size w)
 have H : (if 0 ≤ (wrap64 ((l0.length : Int) + (l1.length : Int))) then (if (wrap64 ((l0.length : Int) + (l1.length : Int)) : Int).toNat ≤ 17592186044416 then (Qae.l0 k l0 l1 ([])) else (none)) else (none)) = some r := h
 clear h
 obtain ⟨ji3, hji3⟩ : ∃ j_ : Int, (wrap64 ((l0.length : Int) + (l1.length : Int))) = j_ := ⟨_, rfl⟩
 replace H : (if 0 ≤ (ji3) then (if (ji3 : Int).toNat ≤ 17592186044416 then (Qae.l0 k l0 l1 ([])) else (none)) else (none)) = some r := by first | (rw [hji3] at H; exact H) | (simp only [hji3] at H ⊢; exact H)
 have hji3w : (IntKind.i64.wrap ((l0.length : Int) + (l1.length : Int))) = ji3 := (Qbu _).trans hji3
 by_cases c4 : 0 ≤ (ji3)
 rotate_left
 ·rw [if_neg c4] at H
  exact absurd H (by simp)
 rw [if_pos c4] at H
 have c4b0 := eq_true c4
 have c4b1 := decide_eq_true c4
 clear c4
 by_cases c5 : (ji3 : Int).toNat ≤ 17592186044416
 rotate_left
 ·rw [if_neg c5] at H
  exact absurd H (by simp)
 rw [if_pos c5] at H
 have c5b0 := eq_true c5
 have c5b1 := decide_eq_true c5
 clear c5
 obtain ⟨y106, hy106⟩ : ∃ y_ : List (S47), y_ = ([]) := ⟨_, rfl⟩
 replace H : (Qae.l0 k l0 l1 y106) = some r := by first | (rw [hy106]; exact H) | exact H
 have Ny106 := As0 hy106
 clear hy106
 have H' := As0 H
 clear H
 go_enter Tryz.func204, Tryz.ntmps204
 go_wp2_with (first | ((with_reducible refine gD 12 ?_); (try (refine Qcm (by rfl) ?_; dsimp only)); refine Kd.R_make0 k47 _ 47 rfl (N := 12) rfl 44 _ _ rfl ji3 rfl rfl Tryz.underlying44 (.agg #[(.int .i64 0), (.int .i64 0)]) 16 Qc5 rfl (by decide) (by omega) z47 (ok := fun _ => True) (okp := fun _ => True) (Qef _ _ _ z47 ) (fun _ hk => hk) trivial (qR) (Nat.le_trans (Nat.mul_le_mul_right _ (qR : ji3.toNat ≤ 17592186044416)) (by omega)) (Below.refl _ _) (Nat.le_refl _) ?_; intro v107 w6 ho7 hb hg_ hnew_; clear hg_ hnew_; (first | rw [← Ny106.out] at ho7 | (simp only [Int.reduceToNat] at ho7; rw [← Ny106.out] at ho7)); replace O0 := As0 (Kd.V_elder' (by (with_reducible repeat (first | apply Kd.V_alloc | apply Kd.V_drewN | apply Kd.V_drew)); exact O0.out) (Kd.R_base ho7) hb); replace O1 := As0 (Kd.V_elder' (by (with_reducible repeat (first | apply Kd.V_alloc | apply Kd.V_drewN | apply Kd.V_drew)); exact O1.out) (Kd.R_base ho7) hb); have O108 := As0 (Kd.R_lower (Kd.R_newM (M := fun k_ => (w.heap.size ≤ k_)) ho7 (Qbm (BU HB.out)) (fun k_ h_ => h_)) (Qbm (BU HB.out))); replace HB := sB HB hb; clear hb ho7))
 go_loopg [0, 1, 5] k (fun kq v0 v1 v5 w' => ∃ (x0_1 : List (S47)) (x1_1 : List (S47)) (x5_1 : List (S47)), Qbk (Qae.l0 kq x0_1 x1_1 x5_1 = some r) ∧ Qbk (kq ≤ k) ∧ Qbk (Kd.V k47 47 w' w.heap.size (fun k_ => ((P0_ k_ ∨ P1_ k_) ∨ w.heap.size ≤ k_) ∧ some k_ ≠ (v5 : Value).ownBlock) v0 x0_1) ∧ Qbk (Kd.V k47 47 w' w.heap.size (fun k_ => ((P0_ k_ ∨ P1_ k_) ∨ w.heap.size ≤ k_) ∧ some k_ ≠ (v5 : Value).ownBlock) v1 x1_1) ∧ Qbk (Kd.R k47 47 w' w.heap.size (fun k_ => (w.heap.size ≤ k_)) v5 x5_1) ∧ Qbk (Below w.heap.size w w'))
 case atStart => exact ⟨(l0), (l1), (y106), H', ⟨Nat.le_refl _⟩, ⟨by (with_reducible repeat (first | apply Kd.V_alloc | apply Kd.V_drewN | apply Kd.V_drew)); exact O0.out⟩, ⟨by (with_reducible repeat (first | apply Kd.V_alloc | apply Kd.V_drewN | apply Kd.V_drew)); exact O1.out⟩, ⟨RU (Kd.R_mono O108.out (fun _ hk => hk.1))⟩, ⟨BU HB.out⟩⟩
 case round =>
  clear H'
  obtain ⟨x0_1, x1_1, x5_1, HA, HK1, HO_0, HO_1, HO_5, HB⟩ := hrel
  cases gk with
  | zero => exact absurd HA.out (by simp [Qae.l0])
  | succ k1 =>
   have H := HA.out
   clear HA
   simp only [Qae.l0] at H
   have C8 := As0 H
   clear H
   go_upto_region 2 with (fail)
   go_cut [20] (fun v20 wc => ∃ (kq : Nat) (x20_7 : Bool), v20 = .bool x20_7 ∧ Qbk (Qae.j1 kq x0_1 x1_1 x5_1 x20_7 = some r) ∧ Qbk (kq ≤ k1) ∧ Qbk (Kd.V k47 47 wc w.heap.size (fun k_ => ((P0_ k_ ∨ P1_ k_) ∨ w.heap.size ≤ k_) ∧ some k_ ≠ (u5 : Value).ownBlock) u0 x0_1) ∧ Qbk (Kd.V k47 47 wc w.heap.size (fun k_ => ((P0_ k_ ∨ P1_ k_) ∨ w.heap.size ≤ k_) ∧ some k_ ≠ (u5 : Value).ownBlock) u1 x1_1) ∧ Qbk (Kd.R k47 47 wc w.heap.size (fun k_ => (w.heap.size ≤ k_)) u5 x5_1) ∧ Qbk (Below w.heap.size w wc))
   case first =>
    have H := C8.out
    clear C8
    by_cases c9 : (x0_1.length : Int) > 0
    rotate_left
    ·rw [if_neg c9] at H
     have c9b0 := decide_eq_false c9
     have c9b1 : decide (0 < x0_1.length) = false := decide_eq_false (by omega)
     clear c9
     (first | rw [c9b0] | (simp only [Qbu, Qbv]; rw [c9b0]) | skip)
     have H' := As0 H
     clear H
     obtain ⟨Ao12, co12, eo12⟩ := Kd.V_slice HO_0.out
     subst eo12
     go_wp2
     go_meet
     case rel => exact ⟨_, (false), eR, H', ⟨by have := HK1.out; first | omega | exact Nat.le_refl _⟩, ⟨by (with_reducible repeat (first | apply Kd.V_alloc | apply Kd.V_drewN | apply Kd.V_drew)); exact HO_0.out⟩, ⟨by (with_reducible repeat (first | apply Kd.V_alloc | apply Kd.V_drewN | apply Kd.V_drew)); exact HO_1.out⟩, ⟨RU HO_5.out⟩, ⟨BU HB.out⟩⟩
    rw [if_pos c9] at H
    have c9b0 := decide_eq_true c9
    have c9b1 : decide (0 < x0_1.length) = true := decide_eq_true (by omega)
    clear c9
    (first | rw [c9b0] | (simp only [Qbu, Qbv]; rw [c9b0]) | skip)
    have H' := As0 H
    clear H
    obtain ⟨Ao10, co10, eo10⟩ := Kd.V_slice HO_0.out
    subst eo10
    obtain ⟨Ao11, co11, eo11⟩ := Kd.V_slice HO_1.out
    subst eo11
    go_wp2
    go_meet
    case rel => exact ⟨_, (decide ((x1_1.length : Int) > 0)), eR, H', ⟨by have := HK1.out; first | omega | exact Nat.le_refl _⟩, ⟨by (with_reducible repeat (first | apply Kd.V_alloc | apply Kd.V_drewN | apply Kd.V_drew)); exact HO_0.out⟩, ⟨by (with_reducible repeat (first | apply Kd.V_alloc | apply Kd.V_drewN | apply Kd.V_drew)); exact HO_1.out⟩, ⟨RU HO_5.out⟩, ⟨BU HB.out⟩⟩
   case rest =>
    clear C8
    obtain ⟨kq, x20_7, rfl, HA, HJ7, HO_0, HO_1, HO_5, HB⟩ := hcut
    cases kq with
    | zero => exact absurd HA.out (by simp [Qae.j1])
    | succ kj7 =>
     have H := HA.out
     clear HA
     simp only [Qae.j1] at H
     by_cases c13 : x20_7 = true
     rotate_left
     ·replace c13 := Bool.eq_false_iff.mpr c13
      subst c13
      rw [if_neg bF] at H
      by_cases c42 : x5_1.length + x0_1.length < 8796093022208
      rotate_left
      ·rw [if_neg c42] at H
       exact absurd H (by simp)
      rw [if_pos c42] at H
      have LMc42 := As0 c42
      clear c42
      obtain ⟨y109, hy109⟩ : ∃ y_ : List (S47), y_ = (x5_1 ++ x0_1) := ⟨_, rfl⟩
      replace H : (if y109.length + x1_1.length < 8796093022208 then (some (y109 ++ x1_1)) else (none)) = some r := by first | (rw [hy109]; exact H) | exact H
      have Ny109 := As0 hy109
      clear hy109
      by_cases c43 : y109.length + x1_1.length < 8796093022208
      rotate_left
      ·rw [if_neg c43] at H
       exact absurd H (by simp)
      rw [if_pos c43] at H
      have LMc43 := As0 c43
      clear c43
      obtain ⟨y112, hy112⟩ : ∃ y_ : List (S47), y_ = (y109 ++ x1_1) := ⟨_, rfl⟩
      replace H : (some y112) = some r := by first | (rw [hy112]; exact H) | exact H
      have Ny112 := As0 hy112
      clear hy112
      obtain rfl := Option.some.inj H
      obtain ⟨Ao45, co45, eo45⟩ := Kd.V_slice HO_0.out
      subst eo45
      go_wp2_with (first | ((with_reducible refine Qce (b := .append) (xs := #[.tmp 50, .tmp 51]) rfl ?_); (try (refine Qcm (by rfl) ?_; dsimp only)); at_builtin; refine Kd.R_append_rows k47 (w0 := w) w.heap.size rfl (.tmp 50) (.tmp 51) 44 47 (.agg #[(.int .i64 0), (.int .i64 0)]) 16 rfl Tryz.underlying44 Qc5 rfl (by decide) (by omega) u5 x5_1 x0_1 _ _ _ (fun k_ => (w.heap.size ≤ k_)) (fun _ => False) rfl rfl ?aO ?aR (fun _ _ h => h) (fun _ h => h.elim) ?aF ?aB ?aS ?aL ?_; (case aR => exact CU (Kd.V_reads' HO_0.out).2.2); (case aB => exact (BU HB.out)); (case aF => exact (fun k_ hk => (Nat.le_trans (Qbm (BU HB.out)) hk))); (case aO => exact (RU HO_5.out)); (case aS => exact (Qbm (BU HB.out))); (case aL => have := LMc42.out; omega); intro v110 w44 ho hb hg hat; rw [← Ny109.out] at ho; replace HO_0 := As0 (Kd.V_afterv (ok := (fun k_ => ((P0_ k_ ∨ P1_ k_) ∨ w.heap.size ≤ k_))) (by (with_reducible repeat (first | apply Kd.V_alloc | apply Kd.V_drewN | apply Kd.V_drew)); exact HO_0.out) hg hat); replace HO_1 := As0 (Kd.V_afterv (ok := (fun k_ => ((P0_ k_ ∨ P1_ k_) ∨ w.heap.size ≤ k_))) (by (with_reducible repeat (first | apply Kd.V_alloc | apply Kd.V_drewN | apply Kd.V_drew)); exact HO_1.out) hg hat); replace HB := As0 (hb); have O111 := As0 (ho); clear HO_5 ho hb hg hat; obtain ⟨Ao47, co47, eo47⟩ := Kd.V_slice HO_1.out; subst eo47) | ((with_reducible refine Qce (b := .append) (xs := #[.tmp 52, .tmp 53]) rfl ?_); (try (refine Qcm (by rfl) ?_; dsimp only)); at_builtin; refine Kd.R_append_rows k47 (w0 := w) w.heap.size rfl (.tmp 52) (.tmp 53) 44 47 (.agg #[(.int .i64 0), (.int .i64 0)]) 16 rfl Tryz.underlying44 Qc5 rfl (by decide) (by omega) v110 y109 x1_1 _ _ _ (fun k_ => (w.heap.size ≤ k_)) (fun _ => False) rfl rfl ?aO ?aR (fun _ _ h => h) (fun _ h => h.elim) ?aF ?aB ?aS ?aL ?_; (case aR => exact CU (Kd.V_reads' HO_1.out).2.2); (case aB => exact (BU HB.out)); (case aF => exact (fun k_ hk => (Nat.le_trans (Qbm (BU HB.out)) hk))); (case aO => exact (RU O111.out)); (case aS => exact (Qbm (BU HB.out))); (case aL => have := LMc43.out; omega); intro v113 w46 ho hb hg hat; rw [← Ny112.out] at ho; replace HO_0 := As0 (Kd.V_afterv (ok := (fun k_ => ((P0_ k_ ∨ P1_ k_) ∨ w.heap.size ≤ k_))) (by (with_reducible repeat (first | apply Kd.V_alloc | apply Kd.V_drewN | apply Kd.V_drew)); exact HO_0.out) hg hat); replace HO_1 := As0 (Kd.V_afterv (ok := (fun k_ => ((P0_ k_ ∨ P1_ k_) ∨ w.heap.size ≤ k_))) (by (with_reducible repeat (first | apply Kd.V_alloc | apply Kd.V_drewN | apply Kd.V_drew)); exact HO_1.out) hg hat); replace HB := As0 (hb); have O114 := As0 (ho); clear O111 ho hb hg hat))
      go_ret
      exact ⟨_, by first | rfl | (simp [Qbe, Qbd] <;> rfl) | (simp only [← hji3]; first | rfl | (simp [Qbe, Qbd] <;> rfl)) | (simp [*, Qbe, Qbd] <;> rfl), RU O114.out, BU HB.out⟩
     subst c13
     rw [if_pos rfl] at H
     by_cases c14 : 0 < (x0_1.length : Int)
     rotate_left
     ·rw [if_neg c14] at H
      exact absurd H (by simp)
     rw [if_pos c14] at H
     have c14b0 := decide_eq_true c14
     have c14b1 : decide (0 < x0_1.length) = true := decide_eq_true (by omega)
     clear c14
     by_cases c15 : 0 < (x1_1.length : Int)
     rotate_left
     ·rw [if_neg c15] at H
      exact absurd H (by simp)
     rw [if_pos c15] at H
     have c15b0 := decide_eq_true c15
     have c15b1 : decide (0 < x1_1.length) = true := decide_eq_true (by omega)
     clear c15
     replace H := Option.bind_eq_some_iff.mp H
     obtain ⟨t118, A160, H⟩ := H
     have A16 := As0 A160
     clear A160
     have C17 := As0 H
     clear H
     obtain ⟨Ao18, co18, eo18⟩ := Kd.V_slice HO_0.out
     subst eo18
     have p115 : 0 ≤ (0 : Int) := (by omega)
     have q115 : 0 < (x0_1.length : Int) := qR
     obtain ⟨ad115, e115, hx115_0, hx115_1⟩ := Qcs (Kd.V_reads' HO_0.out).2.2 0 p115 q115
     cases e115
     have qi115 : (0 < x0_1.length) = True := eq_true (by omega)
     (try rw [show ((0 : Int)).toNat = 0 from rfl] at hx115_0)
     (try rw [show 0 * 2 = 0 from rfl] at hx115_0)
     (try rw [Addr.add_zero'] at hx115_0)
     (try rw [show ((0 : Int)).toNat = 0 from rfl] at hx115_1)
     (try rw [show 0 * 2 = 0 from rfl] at hx115_1)
     (try rw [Addr.add_zero'] at hx115_1)
     replace p115 := eq_true p115
     replace q115 := eq_true q115
     try go_wp2_with (first | ((with_reducible refine gD 6 ?_); (try (refine Qcm (by rfl) ?_; dsimp only)); refine bX ?_; intro gb116 hg w19 hbox hb; replace HO_0 := As0 (Kd.V_below (Kd.V_elderB (by (with_reducible repeat (first | apply Kd.V_alloc | apply Kd.V_drewN | apply Kd.V_drew)); exact HO_0.out) gb116 (Nat.le_of_eq hg.symm)) hb); replace HO_1 := As0 (Kd.V_below (Kd.V_elderB (by (with_reducible repeat (first | apply Kd.V_alloc | apply Kd.V_drewN | apply Kd.V_drew)); exact HO_1.out) gb116 (Nat.le_of_eq hg.symm)) hb); replace HO_5 := As0 (Kd.R_below (Kd.R_elderB (RU HO_5.out) gb116 (Nat.le_of_eq hg.symm)) hb); have K116 := As0 (hbox); have GW116 := gW hg HB.out; replace HB := sB HB hb; clear hb hbox hg; have q20_ := cN2 K116.out))
     have n0_ : Qbk (Kd.V k47 47 ((w19.setCell ⟨gb116, 0, none⟩ (.int .i64 ((Qaa x0_1 0).f0))).setCell ⟨gb116, 1, none⟩ (.int .i64 ((Qaa x0_1 0).f1))) w.heap.size (fun k_ => ((P0_ k_ ∨ P1_ k_) ∨ w.heap.size ≤ k_) ∧ some k_ ≠ (u5 : Value).ownBlock ∧ k_ ≠ gb116) (.slice (some ad115) x0_1.length co18) x0_1) := ⟨by (with_reducible repeat (first | apply Kd.V_alloc | apply Kd.V_drewN | apply Kd.V_drew)); exact Kd.V_mono (Kd.V_far (p := ⟨gb116, 1, none⟩) (Kd.V_far (p := ⟨gb116, 0, none⟩) (Kd.V_mono HO_0.out (fun k_ hk => (⟨hk, hk.2⟩ : _ ∧ k_ ≠ gb116))) (fun _ hk => hk.2) (.int .i64 ((Qaa x0_1 0).f0))) (fun _ hk => hk.2) (.int .i64 ((Qaa x0_1 0).f1))) (fun _ hk => ⟨hk.1.1.1, ⟨hk.1.1.2, hk.1.2⟩⟩)⟩
     have n1_ : Qbk (Kd.V k47 47 ((w19.setCell ⟨gb116, 0, none⟩ (.int .i64 ((Qaa x0_1 0).f0))).setCell ⟨gb116, 1, none⟩ (.int .i64 ((Qaa x0_1 0).f1))) w.heap.size (fun k_ => ((P0_ k_ ∨ P1_ k_) ∨ w.heap.size ≤ k_) ∧ some k_ ≠ (u5 : Value).ownBlock ∧ k_ ≠ gb116) u1 x1_1) := ⟨by (with_reducible repeat (first | apply Kd.V_alloc | apply Kd.V_drewN | apply Kd.V_drew)); exact Kd.V_mono (Kd.V_far (p := ⟨gb116, 1, none⟩) (Kd.V_far (p := ⟨gb116, 0, none⟩) (Kd.V_mono HO_1.out (fun k_ hk => (⟨hk, hk.2⟩ : _ ∧ k_ ≠ gb116))) (fun _ hk => hk.2) (.int .i64 ((Qaa x0_1 0).f0))) (fun _ hk => hk.2) (.int .i64 ((Qaa x0_1 0).f1))) (fun _ hk => ⟨hk.1.1.1, ⟨hk.1.1.2, hk.1.2⟩⟩)⟩
     have n2_ : Qbk (Kd.R k47 47 ((w19.setCell ⟨gb116, 0, none⟩ (.int .i64 ((Qaa x0_1 0).f0))).setCell ⟨gb116, 1, none⟩ (.int .i64 ((Qaa x0_1 0).f1))) w.heap.size (fun k_ => (w.heap.size ≤ k_) ∧ k_ ≠ gb116) u5 x5_1) := ⟨RU (Kd.R_mono (RF gb116 1 (RF gb116 0 (Kd.R_mono HO_5.out (fun k_ hk => (⟨hk, hk.2⟩ : _ ∧ k_ ≠ gb116))) (.int .i64 ((Qaa x0_1 0).f0))) (.int .i64 ((Qaa x0_1 0).f1))) (fun _ hk => ⟨hk.1.1, hk.1.2⟩))⟩
     have n3_ : Qbk (((w19.setCell ⟨gb116, 0, none⟩ (.int .i64 ((Qaa x0_1 0).f0))).setCell ⟨gb116, 1, none⟩ (.int .i64 ((Qaa x0_1 0).f1))).heap[gb116]? = some (.cells #[.int .i64 ((Qaa x0_1 0).f0), .int .i64 ((Qaa x0_1 0).f1)] 47 (0, 0))) := ⟨kV K116⟩
     have n4_ : Qbk (Below w.heap.size w ((w19.setCell ⟨gb116, 0, none⟩ (.int .i64 ((Qaa x0_1 0).f0))).setCell ⟨gb116, 1, none⟩ (.int .i64 ((Qaa x0_1 0).f1)))) := ⟨BU HB.out⟩
     (try clear HO_0)
     (try clear HO_1)
     (try clear HO_5)
     (try clear K116)
     (try clear HB)
     generalize ((w19.setCell ⟨gb116, 0, none⟩ (.int .i64 ((Qaa x0_1 0).f0))).setCell ⟨gb116, 1, none⟩ (.int .i64 ((Qaa x0_1 0).f1))) = w21 at n0_ n1_ n2_ n3_ n4_ ⊢
     have HO_0 := n0_
     have HO_1 := n1_
     have HO_5 := n2_
     have K116 := n3_
     have HB := n4_
     clear n0_ n1_ n2_ n3_ n4_
     replace HO_0 := As0 (Kd.V_drew HO_0.out)
     replace HO_1 := As0 (Kd.V_drew HO_1.out)
     replace HO_5 := As0 (Kd.R_drew HO_5.out)
     replace K116 := As0 (Qbr K116.out)
     replace HB := As0 (bd1 HB.out)
     obtain ⟨Ao23, co23, eo23⟩ := Kd.V_slice HO_1.out
     (first | subst eo23 | (injection eo23 with f1_ f2_ f3_; have f4_ := f1_.symm; have f5_ := f3_.symm; clear f1_ f2_ f3_; subst f4_; subst f5_))
     have p117 : 0 ≤ (0 : Int) := (by omega)
     have q117 : 0 < (x1_1.length : Int) := qR
     obtain ⟨ad117, e117, hx117_0, hx117_1⟩ := Qcs (Kd.V_reads' HO_1.out).2.2 0 p117 q117
     cases e117
     have qi117 : (0 < x1_1.length) = True := eq_true (by omega)
     (try rw [show ((0 : Int)).toNat = 0 from rfl] at hx117_0)
     (try rw [show 0 * 2 = 0 from rfl] at hx117_0)
     (try rw [Addr.add_zero'] at hx117_0)
     (try rw [show ((0 : Int)).toNat = 0 from rfl] at hx117_1)
     (try rw [show 0 * 2 = 0 from rfl] at hx117_1)
     (try rw [Addr.add_zero'] at hx117_1)
     replace p117 := eq_true p117
     replace q117 := eq_true q117
     refine Qcb (n := 5) (S := fun w' => w'.cell? ⟨gb116, 0, none⟩ = some (.int .i64 ((Qaa x0_1 0).f0)) ∧ w'.cell? ⟨gb116, 1, none⟩ = some (.int .i64 ((Qaa x0_1 0).f1)) ∧ w'.cell? ad117 = some (.int .i64 ((Qaa x1_1 0).f0)) ∧ w'.cell? ⟨ad117.block, ad117.off + 1, none⟩ = some (.int .i64 ((Qaa x1_1 0).f1))) (ds := []) (bb 5 0) (by kernel_rfl) rfl rfl ⟨bc K116 0, bc K116 1, hx117_0, hx117_1⟩ (fun hHeld => ?_)
     generalize w21.drew = w22 at HO_0 HO_1 HO_5 K116 HB hx117_0 hx117_1 hHeld ⊢
     refine pu 0 24 (bb 5 1) ?_
     refine pu 1 25 (bb 5 3) ?_
     refine tu hHeld 2 26 (bb 5 7) ?_
     refine tu hHeld 3 27 (bb 5 15) ?_
     refine one_ (i := 4) (N := some 28) (bb 5 31) rfl rfl (by kernel_rfl) (by decide) (fun K hK => ?_)
     refine gG Tryz.func122 #[.agg #[.int .i64 ((Qaa x1_1 0).f0), .int .i64 ((Qaa x1_1 0).f1)], .agg #[.int .i64 ((Qaa x0_1 0).f0), .int .i64 ((Qaa x0_1 0).f1)]] ?_
     with_reducible refine (Qa8.calls ((Qaa x1_1 0).f0) ((Qaa x1_1 0).f1) ((Qaa x0_1 0).f0) ((Qaa x0_1 0).f1) t118 _ A16.out).mono ?_
     rintro e w24 ⟨rfl, hb⟩
     have HS2_ := (hb.cell (World.block_lt_of_cell? _ _ (hHeld.2.2.1))).trans (hHeld.2.2.1)
     have HS3_ := (hb.cell (World.block_lt_of_cell? _ _ (hHeld.2.2.2))).trans (hHeld.2.2.2)
     refine ⟨_, rfl, ?_⟩
     replace HO_0 := As0 (Kd.V_below (by (with_reducible repeat (first | apply Kd.V_alloc | apply Kd.V_drewN | apply Kd.V_drew)); exact HO_0.out) hb)
     replace HO_1 := As0 (Kd.V_below (by (with_reducible repeat (first | apply Kd.V_alloc | apply Kd.V_drewN | apply Kd.V_drew)); exact HO_1.out) hb)
     replace HO_5 := As0 (Kd.R_below (RU HO_5.out) hb)
     replace K116 := kB K116 hb
     replace HB := sB HB hb
     (try clear hb)
     (try clear hb2)
     (try clear hk)
     (try clear hi)
     refine hK.out _ _ ⟨bc K116 0, bc K116 1, HS2_, HS3_⟩ (fun hHeld => ?_)
     clear hK K
     refine Qb1 (a' := ?_) ?_ ?_
     rotate_left
     ·show Act.put _ (some 28) _ = _
      simp only [Act.put, sL1, sL2, sL3, Qbu, Qbv]
      rfl
     refine Qcy (by kernel_rfl) ?_
     go_upto_if 28 with (fail)
     go_cut [] (fun wc => ∃ (kq : Nat) (x117000_16 : Int) (x117001_16 : Int), Qbk (Qae.j2 kq x0_1 x1_1 x5_1 x117000_16 x117001_16 = some r) ∧ Qbk (kq ≤ kj7) ∧ Qbk (Kd.V k47 47 wc w.heap.size (fun k_ => ((P0_ k_ ∨ P1_ k_) ∨ w.heap.size ≤ k_) ∧ some k_ ≠ (u5 : Value).ownBlock ∧ k_ ≠ gb116) (.slice (some ad115) x0_1.length co18) x0_1) ∧ Qbk (Kd.V k47 47 wc w.heap.size (fun k_ => ((P0_ k_ ∨ P1_ k_) ∨ w.heap.size ≤ k_) ∧ some k_ ≠ (u5 : Value).ownBlock ∧ k_ ≠ gb116) (.slice (some ad117) x1_1.length co23) x1_1) ∧ Qbk (Kd.R k47 47 wc w.heap.size (fun k_ => (w.heap.size ≤ k_) ∧ k_ ≠ gb116) u5 x5_1) ∧ Qbk (wc.heap[gb116]? = some (.cells #[.int .i64 x117000_16, .int .i64 x117001_16] 47 (0, 0))) ∧ Qbk (Below w.heap.size w wc))
     case first =>
      have H := C17.out
      clear C17
      by_cases c25 : t118 = true
      rotate_left
      ·replace c25 := Bool.eq_false_iff.mpr c25
       subst c25
       rw [if_neg bF] at H
       have H' := As0 H
       clear H
       go_wp2
       go_meet
       case rel => exact ⟨_, ((Qaa x0_1 0).f0), ((Qaa x0_1 0).f1), H', ⟨by have := HK1.out; have := HJ7.out; first | omega | exact Nat.le_refl _⟩, ⟨by (with_reducible repeat (first | apply Kd.V_alloc | apply Kd.V_drewN | apply Kd.V_drew)); exact HO_0.out⟩, ⟨by (with_reducible repeat (first | apply Kd.V_alloc | apply Kd.V_drewN | apply Kd.V_drew)); exact HO_1.out⟩, ⟨RU HO_5.out⟩, ⟨bU K116.out⟩, ⟨BU HB.out⟩⟩
      subst c25
      rw [if_pos rfl] at H
      have H' := As0 H
      clear H
      have p119 : 0 ≤ (0 : Int) := (by omega)
      have q119 : 0 < (x1_1.length : Int) := qR
      obtain ⟨ad119, e119, hx119_0, hx119_1⟩ := Qcs (Kd.V_reads' HO_1.out).2.2 0 p119 q119
      obtain rfl : ad117 = ad119 := (by injection e119)
      have qi119 : (0 < x1_1.length) = True := eq_true (by omega)
      (try rw [show ((0 : Int)).toNat = 0 from rfl] at hx119_0)
      (try rw [show 0 * 2 = 0 from rfl] at hx119_0)
      (try rw [Addr.add_zero'] at hx119_0)
      (try rw [show ((0 : Int)).toNat = 0 from rfl] at hx119_1)
      (try rw [show 0 * 2 = 0 from rfl] at hx119_1)
      (try rw [Addr.add_zero'] at hx119_1)
      replace p119 := eq_true p119
      replace q119 := eq_true q119
      have q26_ := cN2 K116.out
      go_wp2
      go_meet
      case rel => exact ⟨_, ((Qaa x1_1 0).f0), ((Qaa x1_1 0).f1), H', ⟨by have := HK1.out; have := HJ7.out; first | omega | exact Nat.le_refl _⟩, ⟨by (with_reducible repeat (first | apply Kd.V_alloc | apply Kd.V_drewN | apply Kd.V_drew)); exact Kd.V_mono (Kd.V_far (p := ⟨gb116, 1, none⟩) (Kd.V_far (p := ⟨gb116, 0, none⟩) (Kd.V_mono HO_0.out (fun k_ hk => (⟨hk, hk.2.2⟩ : _ ∧ k_ ≠ gb116))) (fun _ hk => hk.2) (.int .i64 ((Qaa x1_1 0).f0))) (fun _ hk => hk.2) (.int .i64 ((Qaa x1_1 0).f1))) (fun _ hk => ⟨hk.1.1, ⟨hk.1.2.1, hk.1.2.2⟩⟩)⟩, ⟨by (with_reducible repeat (first | apply Kd.V_alloc | apply Kd.V_drewN | apply Kd.V_drew)); exact Kd.V_mono (Kd.V_far (p := ⟨gb116, 1, none⟩) (Kd.V_far (p := ⟨gb116, 0, none⟩) (Kd.V_mono HO_1.out (fun k_ hk => (⟨hk, hk.2.2⟩ : _ ∧ k_ ≠ gb116))) (fun _ hk => hk.2) (.int .i64 ((Qaa x1_1 0).f0))) (fun _ hk => hk.2) (.int .i64 ((Qaa x1_1 0).f1))) (fun _ hk => ⟨hk.1.1, ⟨hk.1.2.1, hk.1.2.2⟩⟩)⟩, ⟨RU (Kd.R_mono (RF gb116 1 (RF gb116 0 (Kd.R_mono HO_5.out (fun k_ hk => (⟨hk, hk.2⟩ : _ ∧ k_ ≠ gb116))) (.int .i64 ((Qaa x1_1 0).f0))) (.int .i64 ((Qaa x1_1 0).f1))) (fun _ hk => ⟨hk.1.1, hk.1.2⟩))⟩, ⟨kV K116⟩, ⟨BU HB.out⟩⟩
     case rest =>
      clear C17
      obtain ⟨kq, x117000_16, x117001_16, HA, HJ16, HO_0, HO_1, HO_5, K116, HB⟩ := hcut
      cases kq with
      | zero => exact absurd HA.out (by simp [Qae.j2])
      | succ kj16 =>
       have H := HA.out
       clear HA
       simp only [Qae.j2] at H
       by_cases c27 : x5_1.length < 8796093022208
       rotate_left
       ·rw [if_neg c27] at H
        exact absurd H (by simp)
       rw [if_pos c27] at H
       have LMc27 := As0 c27
       clear c27
       obtain ⟨y120, hy120⟩ : ∃ y_ : List (S47), y_ = (x5_1 ++ [(⟨x117000_16, x117001_16⟩ : S47)]) := ⟨_, rfl⟩
       replace H : (if 0 < (x0_1.length : Int) then (if (((Qaa x0_1 0).f0) == x117000_16 && (((Qaa x0_1 0).f1) == x117001_16)) = true then (if 1 ≤ (x0_1.length : Int) then (Qae.j3 kj16 (x0_1.drop 1) x1_1 y120 x117000_16 x117001_16) else (none)) else (Qae.j3 kj16 x0_1 x1_1 y120 x117000_16 x117001_16)) else (none)) = some r := by first | (rw [hy120]; exact H) | exact H
       have Ny120 := As0 hy120
       clear hy120
       by_cases c28 : 0 < (x0_1.length : Int)
       rotate_left
       ·rw [if_neg c28] at H
        exact absurd H (by simp)
       rw [if_pos c28] at H
       have c28b0 := decide_eq_true c28
       have c28b1 : decide (0 < x0_1.length) = true := decide_eq_true (by omega)
       clear c28
       have C29 := As0 H
       clear H
       have q30_ := cN2 K116.out
       try go_wp2_with (first | ((with_reducible refine Qce (b := .append) (xs := #[.tmp 32, .tmp 34]) rfl ?_); (try (refine Qcm (by rfl) ?_; dsimp only)); at_builtin; refine Kd.R_append k47 (w0 := w) w.heap.size rfl (.tmp 32) (.tmp 34) 44 47 (.agg #[(.int .i64 0), (.int .i64 0)]) 16 rfl Tryz.underlying44 Qc5 rfl (by decide) (by omega) u5 x5_1 (⟨x117000_16, x117001_16⟩ : S47) [.int .i64 x117000_16, .int .i64 x117001_16] (fun k_ => (w.heap.size ≤ k_) ∧ k_ ≠ gb116) (fun _ => False) rfl rfl ?aP (fun _ hk => hk.elim) ?aF ?aO ?aB ?aS ?aL ?_; (case aP => exact Qef _ _ _ (⟨x117000_16, x117001_16⟩ : S47)); (case aB => exact (BU HB.out)); (case aF => exact (fun k_ hk => ⟨(Nat.le_trans (Qbm (BU HB.out)) hk), Kd.freshB (bU K116.out) k_ hk⟩)); (case aO => exact (RU HO_5.out)); (case aS => exact (Qbm (BU HB.out))); (case aL => have := LMc27.out; omega); intro v121 w31 ho hb hg hat; rw [← Ny120.out] at ho; replace HO_0 := As0 (Kd.V_afterv (ok := (fun k_ => ((P0_ k_ ∨ P1_ k_) ∨ w.heap.size ≤ k_) ∧ k_ ≠ gb116)) (by (with_reducible repeat (first | apply Kd.V_alloc | apply Kd.V_drewN | apply Kd.V_drew)); exact Kd.V_mono HO_0.out (fun _ hk => ⟨⟨hk.1, hk.2.2⟩, hk.2.1⟩)) hg hat); replace HO_1 := As0 (Kd.V_afterv (ok := (fun k_ => ((P0_ k_ ∨ P1_ k_) ∨ w.heap.size ≤ k_) ∧ k_ ≠ gb116)) (by (with_reducible repeat (first | apply Kd.V_alloc | apply Kd.V_drewN | apply Kd.V_drew)); exact Kd.V_mono HO_1.out (fun _ hk => ⟨⟨hk.1, hk.2.2⟩, hk.2.1⟩)) hg hat); replace K116 := As0 (Qbx (bU K116.out) hg (Kd.R_away HO_5.out (fun _ hk => hk.2))); replace HB := As0 (hb); have O122 := As0 (ho); clear HO_5 ho hb hg hat))
       replace HO_0 := As0 (Kd.V_drew HO_0.out)
       replace HO_1 := As0 (Kd.V_drew HO_1.out)
       replace O122 := As0 (Kd.R_drew O122.out)
       replace K116 := As0 (Qbr K116.out)
       replace HB := As0 (bd1 HB.out)
       have p123 : 0 ≤ (0 : Int) := (by omega)
       have q123 : 0 < (x0_1.length : Int) := qR
       obtain ⟨ad123, e123, hx123_0, hx123_1⟩ := Qcs (Kd.V_reads' HO_0.out).2.2 0 p123 q123
       obtain rfl : ad115 = ad123 := (by injection e123)
       have qi123 : (0 < x0_1.length) = True := eq_true (by omega)
       (try rw [show ((0 : Int)).toNat = 0 from rfl] at hx123_0)
       (try rw [show 0 * 2 = 0 from rfl] at hx123_0)
       (try rw [Addr.add_zero'] at hx123_0)
       (try rw [show ((0 : Int)).toNat = 0 from rfl] at hx123_1)
       (try rw [show 0 * 2 = 0 from rfl] at hx123_1)
       (try rw [Addr.add_zero'] at hx123_1)
       replace p123 := eq_true p123
       replace q123 := eq_true q123
       refine Qcb (n := 5) (S := fun w' => w'.cell? ⟨gb116, 0, none⟩ = some (.int .i64 x117000_16) ∧ w'.cell? ⟨gb116, 1, none⟩ = some (.int .i64 x117001_16) ∧ w'.cell? ad115 = some (.int .i64 ((Qaa x0_1 0).f0)) ∧ w'.cell? ⟨ad115.block, ad115.off + 1, none⟩ = some (.int .i64 ((Qaa x0_1 0).f1))) (ds := []) (bb 5 0) (by kernel_rfl) rfl rfl ⟨bc K116 0, bc K116 1, hx123_0, hx123_1⟩ (fun hHeld => ?_)
       generalize w31.drew = w32 at HO_0 HO_1 O122 K116 HB hx123_0 hx123_1 hHeld ⊢
       refine pu 0 36 (bb 5 1) ?_
       refine pu 1 37 (bb 5 3) ?_
       refine tu hHeld 2 38 (bb 5 7) ?_
       refine tu hHeld 3 39 (bb 5 15) ?_
       refine pu 4 40 (bb 5 31) ?_
       refine Qcy (by kernel_rfl) ?_
       go_upto_if 40 with (fail)
       go_cut [0] (fun v0 wc => ∃ (kq : Nat) (x0_28 : List (S47)), Qbk (Qae.j3 kq x0_28 x1_1 y120 x117000_16 x117001_16 = some r) ∧ Qbk (kq ≤ kj16) ∧ Qbk (Kd.V k47 47 wc w.heap.size (fun k_ => ((P0_ k_ ∨ P1_ k_) ∨ w.heap.size ≤ k_) ∧ some k_ ≠ (v121 : Value).ownBlock ∧ k_ ≠ gb116) v0 x0_28) ∧ Qbk (Kd.V k47 47 wc w.heap.size (fun k_ => ((P0_ k_ ∨ P1_ k_) ∨ w.heap.size ≤ k_) ∧ some k_ ≠ (v121 : Value).ownBlock ∧ k_ ≠ gb116) (.slice (some ad117) x1_1.length co23) x1_1) ∧ Qbk (Kd.R k47 47 wc w.heap.size (fun k_ => (w.heap.size ≤ k_) ∧ k_ ≠ gb116) v121 y120) ∧ Qbk (wc.heap[gb116]? = some (.cells #[.int .i64 x117000_16, .int .i64 x117001_16] 47 (0, 0))) ∧ Qbk (Below w.heap.size w wc))
       case first =>
        have H := C29.out
        clear C29
        by_cases c33 : (((Qaa x0_1 0).f0) == x117000_16 && (((Qaa x0_1 0).f1) == x117001_16)) = true
        rotate_left
        ·rw [if_neg c33] at H
         have c33b0 : (((Qaa x0_1 0).f0) == x117000_16 && (((Qaa x0_1 0).f1) == x117001_16)) = false := by simpa using c33
         (try (have c33b1 : decide (((Qaa x0_1 0).f0) = x117000_16 && (((Qaa x0_1 0).f1) == x117001_16)) = false := by simpa using c33))
         (try (have c33b2 : (((Qaa x0_1 0).f0) == x117000_16 && (((Qaa x0_1 0).f1) == x117001_16)) = false := by simpa using c33))
         (try (have c33b3 : ¬ (((Qaa x0_1 0).f0) = x117000_16 && (((Qaa x0_1 0).f1) == x117001_16)) := by simpa using c33))
         clear c33
         (first | rw [c33b0] | (simp only [Qbu, Qbv]; rw [c33b0]) | skip)
         have H' := As0 H
         clear H
         go_wp2
         go_meet
         case rel => exact ⟨_, (x0_1), H', ⟨by have := HK1.out; have := HJ7.out; have := HJ16.out; first | omega | exact Nat.le_refl _⟩, ⟨by (with_reducible repeat (first | apply Kd.V_alloc | apply Kd.V_drewN | apply Kd.V_drew)); exact Kd.V_mono HO_0.out (fun _ hk => ⟨hk.1.1, ⟨hk.2, hk.1.2⟩⟩)⟩, ⟨by (with_reducible repeat (first | apply Kd.V_alloc | apply Kd.V_drewN | apply Kd.V_drew)); exact Kd.V_mono HO_1.out (fun _ hk => ⟨hk.1.1, ⟨hk.2, hk.1.2⟩⟩)⟩, ⟨RU O122.out⟩, ⟨bU K116.out⟩, ⟨BU HB.out⟩⟩
        rw [if_pos c33] at H
        have c33b0 : (((Qaa x0_1 0).f0) == x117000_16 && (((Qaa x0_1 0).f1) == x117001_16)) = true := c33
        (try (have c33b1 : decide (((Qaa x0_1 0).f0) = x117000_16 && (((Qaa x0_1 0).f1) == x117001_16)) = true := by simpa using c33))
        (try (have c33b2 : (((Qaa x0_1 0).f0) == x117000_16 && (((Qaa x0_1 0).f1) == x117001_16)) = true := by simpa using c33))
        clear c33
        (first | rw [c33b0] | (simp only [Qbu, Qbv]; rw [c33b0]) | skip)
        by_cases c34 : 1 ≤ (x0_1.length : Int)
        rotate_left
        ·rw [if_neg c34] at H
         exact absurd H (by simp)
        rw [if_pos c34] at H
        have c34b0 := eq_true c34
        have c34b1 := decide_eq_true c34
        clear c34
        obtain ⟨y124, hy124⟩ : ∃ y_ : List (S47), y_ = (x0_1.drop 1) := ⟨_, rfl⟩
        replace H : (Qae.j3 kj16 y124 x1_1 y120 x117000_16 x117001_16) = some r := by first | (rw [hy124]; exact H) | exact H
        have Ny124 := As0 hy124
        clear hy124
        have H' := As0 H
        clear H
        have q35 : (1 : Int) ≤ ((x0_1.length : Int) : Int) := qR
        obtain ⟨i035, hi035, _, hsz35, _⟩ := info_parts Qc5
        have hroom35 : x0_1.length ≤ co18 := (Kd.V_reads' HO_0.out).2.1
        have hC35 : Kd.F k47 _ _ (some ad115) x0_1.length x0_1 := (Kd.V_at (base := w.heap.size) HO_0.out).2.2
        have hcut35 := cut_from (P := Tryz.prog) 44 47 .i64 Tryz.underlying44 hi035 2 hsz35 (some ad115) x0_1.length co18 1 (by omega) q35
        have hr35 := Kd.F_cut (m := (1 : Int).toNat) (c := co18) hC35 (by omega) hroom35
        obtain ⟨A35, hA35⟩ : ∃ Aq_, Aq_ = (if co18 = (1 : Int).toNat then (some ad115) else ((some ad115) : Option Addr).map (·.add ((1 : Int).toNat * 2))) := ⟨_, rfl⟩
        obtain ⟨c35, hc35⟩ : ∃ cq_, cq_ = co18 - (1 : Int).toNat := ⟨_, rfl⟩
        have hy35 : y124.length = x0_1.length - (1 : Int).toNat := (by rw [Ny124.out, List.length_drop] <;> omega)
        rw [show (x0_1).drop (1 : Int).toNat = y124 from Ny124.out.symm] at hr35
        replace hr35 : Kd.F k47 _ _ A35 y124.length y124 := (by rw [hA35]; exact hr35)
        rw [← hy35, ← hA35, ← hc35] at hcut35
        have O128 := As0 (show Kd.V k47 47 _ w.heap.size _ (.slice A35 y124.length c35) y124 from Kd.V_mk (by rw [hy35, hc35]; exact Nat.sub_le_sub_right hroom35 _) hr35)
        have C128 := As0 (show y124.length ≤ c35 from by rw [hy35, hc35]; exact Nat.sub_le_sub_right hroom35 _)
        clear hr35 hC35 hroom35 hi035 hsz35 hc35
        have KY35 := As0 hy35
        have KA35 := As0 hA35
        clear hy35 hA35
        replace q35 := eq_true q35
        go_wp2
        go_meet
        case rel => exact ⟨_, (y124), H', ⟨by have := HK1.out; have := HJ7.out; have := HJ16.out; first | omega | exact Nat.le_refl _⟩, ⟨by (with_reducible repeat (first | apply Kd.V_alloc | apply Kd.V_drewN | apply Kd.V_drew)); exact Kd.V_mono O128.out (fun _ hk => ⟨hk.1.1, ⟨hk.2, hk.1.2⟩⟩)⟩, ⟨by (with_reducible repeat (first | apply Kd.V_alloc | apply Kd.V_drewN | apply Kd.V_drew)); exact Kd.V_mono HO_1.out (fun _ hk => ⟨hk.1.1, ⟨hk.2, hk.1.2⟩⟩)⟩, ⟨RU O122.out⟩, ⟨bU K116.out⟩, ⟨BU HB.out⟩⟩
       case rest =>
        clear C29
        obtain ⟨kq, x0_28, HA, HJ28, HO_0, HO_1, HO_5, K116, HB⟩ := hcut
        cases kq with
        | zero => exact absurd HA.out (by simp [Qae.j3])
        | succ kj28 =>
         have H := HA.out
         clear HA
         simp only [Qae.j3] at H
         by_cases c36 : 0 < (x1_1.length : Int)
         rotate_left
         ·rw [if_neg c36] at H
          exact absurd H (by simp)
         rw [if_pos c36] at H
         have c36b0 := decide_eq_true c36
         have c36b1 : decide (0 < x1_1.length) = true := decide_eq_true (by omega)
         clear c36
         by_cases c37 : (((Qaa x1_1 0).f0) == x117000_16 && (((Qaa x1_1 0).f1) == x117001_16)) = true
         rotate_left
         ·rw [if_neg c37] at H
          have c37b0 : (((Qaa x1_1 0).f0) == x117000_16 && (((Qaa x1_1 0).f1) == x117001_16)) = false := by simpa using c37
          (try (have c37b1 : decide (((Qaa x1_1 0).f0) = x117000_16 && (((Qaa x1_1 0).f1) == x117001_16)) = false := by simpa using c37))
          (try (have c37b2 : (((Qaa x1_1 0).f0) == x117000_16 && (((Qaa x1_1 0).f1) == x117001_16)) = false := by simpa using c37))
          (try (have c37b3 : ¬ (((Qaa x1_1 0).f0) = x117000_16 && (((Qaa x1_1 0).f1) == x117001_16)) := by simpa using c37))
          clear c37
          have H' := As0 H
          clear H
          try go_wp2
          replace HO_0 := As0 (Kd.V_drew HO_0.out)
          replace HO_1 := As0 (Kd.V_drew HO_1.out)
          replace HO_5 := As0 (Kd.R_drew HO_5.out)
          replace K116 := As0 (Qbr K116.out)
          replace HB := As0 (bd1 HB.out)
          have p129 : 0 ≤ (0 : Int) := (by omega)
          have q129 : 0 < (x1_1.length : Int) := qR
          obtain ⟨ad129, e129, hx129_0, hx129_1⟩ := Qcs (Kd.V_reads' HO_1.out).2.2 0 p129 q129
          obtain rfl : ad117 = ad129 := (by injection e129)
          have qi129 : (0 < x1_1.length) = True := eq_true (by omega)
          (try rw [show ((0 : Int)).toNat = 0 from rfl] at hx129_0)
          (try rw [show 0 * 2 = 0 from rfl] at hx129_0)
          (try rw [Addr.add_zero'] at hx129_0)
          (try rw [show ((0 : Int)).toNat = 0 from rfl] at hx129_1)
          (try rw [show 0 * 2 = 0 from rfl] at hx129_1)
          (try rw [Addr.add_zero'] at hx129_1)
          replace p129 := eq_true p129
          replace q129 := eq_true q129
          refine Qcb (n := 5) (S := fun w' => w'.cell? ⟨gb116, 0, none⟩ = some (.int .i64 x117000_16) ∧ w'.cell? ⟨gb116, 1, none⟩ = some (.int .i64 x117001_16) ∧ w'.cell? ad117 = some (.int .i64 ((Qaa x1_1 0).f0)) ∧ w'.cell? ⟨ad117.block, ad117.off + 1, none⟩ = some (.int .i64 ((Qaa x1_1 0).f1))) (ds := []) (bb 5 0) (by kernel_rfl) rfl rfl ⟨bc K116 0, bc K116 1, hx129_0, hx129_1⟩ (fun hHeld => ?_)
          generalize wc.drew = w41 at HO_0 HO_1 HO_5 K116 HB hx129_0 hx129_1 hHeld ⊢
          refine pu 0 43 (bb 5 1) ?_
          refine pu 1 44 (bb 5 3) ?_
          refine tu hHeld 2 45 (bb 5 7) ?_
          refine tu hHeld 3 46 (bb 5 15) ?_
          refine pu 4 47 (bb 5 31) ?_
          refine Qcy (by kernel_rfl) ?_
          try go_wp2
          go_roundg kj28
          case measure => have := HK1.out; have := HJ7.out; have := HJ16.out; have := HJ28.out; omega
          case rel => exact ⟨(x0_28), (x1_1), (y120), H', ⟨by have := HK1.out; have := HJ7.out; have := HJ16.out; have := HJ28.out; omega⟩, ⟨by (with_reducible repeat (first | apply Kd.V_alloc | apply Kd.V_drewN | apply Kd.V_drew)); exact Kd.V_mono HO_0.out (fun _ hk => ⟨hk.1, hk.2.1⟩)⟩, ⟨by (with_reducible repeat (first | apply Kd.V_alloc | apply Kd.V_drewN | apply Kd.V_drew)); exact Kd.V_mono HO_1.out (fun _ hk => ⟨hk.1, hk.2.1⟩)⟩, ⟨RU (Kd.R_mono HO_5.out (fun _ hk => hk.1))⟩, ⟨BU HB.out⟩⟩
         rw [if_pos c37] at H
         have c37b0 : (((Qaa x1_1 0).f0) == x117000_16 && (((Qaa x1_1 0).f1) == x117001_16)) = true := c37
         (try (have c37b1 : decide (((Qaa x1_1 0).f0) = x117000_16 && (((Qaa x1_1 0).f1) == x117001_16)) = true := by simpa using c37))
         (try (have c37b2 : (((Qaa x1_1 0).f0) == x117000_16 && (((Qaa x1_1 0).f1) == x117001_16)) = true := by simpa using c37))
         clear c37
         by_cases c38 : 1 ≤ (x1_1.length : Int)
         rotate_left
         ·rw [if_neg c38] at H
          exact absurd H (by simp)
         rw [if_pos c38] at H
         have c38b0 := eq_true c38
         have c38b1 := decide_eq_true c38
         clear c38
         obtain ⟨y130, hy130⟩ : ∃ y_ : List (S47), y_ = (x1_1.drop 1) := ⟨_, rfl⟩
         replace H : (Qae.l0 kj28 x0_28 y130 y120) = some r := by first | (rw [hy130]; exact H) | exact H
         have Ny130 := As0 hy130
         clear hy130
         have H' := As0 H
         clear H
         try go_wp2
         replace HO_0 := As0 (Kd.V_drew HO_0.out)
         replace HO_1 := As0 (Kd.V_drew HO_1.out)
         replace HO_5 := As0 (Kd.R_drew HO_5.out)
         replace K116 := As0 (Qbr K116.out)
         replace HB := As0 (bd1 HB.out)
         have p129 : 0 ≤ (0 : Int) := (by omega)
         have q129 : 0 < (x1_1.length : Int) := qR
         obtain ⟨ad129, e129, hx129_0, hx129_1⟩ := Qcs (Kd.V_reads' HO_1.out).2.2 0 p129 q129
         obtain rfl : ad117 = ad129 := (by injection e129)
         have qi129 : (0 < x1_1.length) = True := eq_true (by omega)
         (try rw [show ((0 : Int)).toNat = 0 from rfl] at hx129_0)
         (try rw [show 0 * 2 = 0 from rfl] at hx129_0)
         (try rw [Addr.add_zero'] at hx129_0)
         (try rw [show ((0 : Int)).toNat = 0 from rfl] at hx129_1)
         (try rw [show 0 * 2 = 0 from rfl] at hx129_1)
         (try rw [Addr.add_zero'] at hx129_1)
         replace p129 := eq_true p129
         replace q129 := eq_true q129
         refine Qcb (n := 5) (S := fun w' => w'.cell? ⟨gb116, 0, none⟩ = some (.int .i64 x117000_16) ∧ w'.cell? ⟨gb116, 1, none⟩ = some (.int .i64 x117001_16) ∧ w'.cell? ad117 = some (.int .i64 ((Qaa x1_1 0).f0)) ∧ w'.cell? ⟨ad117.block, ad117.off + 1, none⟩ = some (.int .i64 ((Qaa x1_1 0).f1))) (ds := []) (bb 5 0) (by kernel_rfl) rfl rfl ⟨bc K116 0, bc K116 1, hx129_0, hx129_1⟩ (fun hHeld => ?_)
         generalize wc.drew = w39 at HO_0 HO_1 HO_5 K116 HB hx129_0 hx129_1 hHeld ⊢
         refine pu 0 43 (bb 5 1) ?_
         refine pu 1 44 (bb 5 3) ?_
         refine tu hHeld 2 45 (bb 5 7) ?_
         refine tu hHeld 3 46 (bb 5 15) ?_
         refine pu 4 47 (bb 5 31) ?_
         refine Qcy (by kernel_rfl) ?_
         have q40 : (1 : Int) ≤ ((x1_1.length : Int) : Int) := qR
         obtain ⟨i040, hi040, _, hsz40, _⟩ := info_parts Qc5
         have hroom40 : x1_1.length ≤ co23 := (Kd.V_reads' HO_1.out).2.1
         have hC40 : Kd.F k47 _ _ (some ad117) x1_1.length x1_1 := (Kd.V_at (base := w.heap.size) HO_1.out).2.2
         have hcut40 := cut_from (P := Tryz.prog) 44 47 .i64 Tryz.underlying44 hi040 2 hsz40 (some ad117) x1_1.length co23 1 (by omega) q40
         have hr40 := Kd.F_cut (m := (1 : Int).toNat) (c := co23) hC40 (by omega) hroom40
         obtain ⟨A40, hA40⟩ : ∃ Aq_, Aq_ = (if co23 = (1 : Int).toNat then (some ad117) else ((some ad117) : Option Addr).map (·.add ((1 : Int).toNat * 2))) := ⟨_, rfl⟩
         obtain ⟨c40, hc40⟩ : ∃ cq_, cq_ = co23 - (1 : Int).toNat := ⟨_, rfl⟩
         have hy40 : y130.length = x1_1.length - (1 : Int).toNat := (by rw [Ny130.out, List.length_drop] <;> omega)
         rw [show (x1_1).drop (1 : Int).toNat = y130 from Ny130.out.symm] at hr40
         replace hr40 : Kd.F k47 _ _ A40 y130.length y130 := (by rw [hA40]; exact hr40)
         rw [← hy40, ← hA40, ← hc40] at hcut40
         have O134 := As0 (show Kd.V k47 47 _ w.heap.size _ (.slice A40 y130.length c40) y130 from Kd.V_mk (by rw [hy40, hc40]; exact Nat.sub_le_sub_right hroom40 _) hr40)
         have C134 := As0 (show y130.length ≤ c40 from by rw [hy40, hc40]; exact Nat.sub_le_sub_right hroom40 _)
         clear hr40 hC40 hroom40 hi040 hsz40 hc40
         have KY40 := As0 hy40
         have KA40 := As0 hA40
         clear hy40 hA40
         replace q40 := eq_true q40
         try go_wp2
         go_roundg kj28
         case measure => have := HK1.out; have := HJ7.out; have := HJ16.out; have := HJ28.out; omega
         case rel => exact ⟨(x0_28), (y130), (y120), H', ⟨by have := HK1.out; have := HJ7.out; have := HJ16.out; have := HJ28.out; omega⟩, ⟨by (with_reducible repeat (first | apply Kd.V_alloc | apply Kd.V_drewN | apply Kd.V_drew)); exact Kd.V_mono HO_0.out (fun _ hk => ⟨hk.1, hk.2.1⟩)⟩, ⟨by (with_reducible repeat (first | apply Kd.V_alloc | apply Kd.V_drewN | apply Kd.V_drew)); exact Kd.V_mono O134.out (fun _ hk => ⟨hk.1, hk.2.1⟩)⟩, ⟨RU (Kd.R_mono HO_5.out (fun _ hk => hk.1))⟩, ⟨BU HB.out⟩⟩
def Qaj.j0 : Nat → List (S47) → Int → List (S47) → Bool → Option ((List (S47)))
 | 0, _, _, _, _ => none
 | k + 1, x0, x5, x6, x33 => if x33 = true then (if 0 ≤ (wrap64 (x5 + 1)) then (if (wrap64 (x5 + 1)) ≤ (x0.length : Int) then ((some (x0.drop ((wrap64 (x5 + 1)) : Int).toNat : List (S47))).bind fun y160 => (if x6.length + y160.length < 8796093022208 then (some (x6 ++ y160)) else (none))) else (none)) else (none)) else (if 0 ≤ x5 then (if x5 ≤ (x0.length : Int) then ((some (x0.drop (x5 : Int).toNat : List (S47))).bind fun y167 => (if x6.length + y167.length < 8796093022208 then (some (x6 ++ y167)) else (none))) else (none)) else (none))
def Qaj.f (k : Nat) (l0 : List (S47)) (a1_0 a1_1 : Int) : Option ((List (S47))) := (Qa5.f k l0 a1_0 a1_1).bind fun t139 => (if 0 ≤ (wrap64 ((l0.length : Int) + 1)) then (if (wrap64 ((l0.length : Int) + 1) : Int).toNat ≤ 17592186044416 then ((some ([] : List (S47))).bind fun y143 => (if 0 ≤ t139 then (if t139 ≤ (l0.length : Int) then ((some (l0.take (t139 : Int).toNat : List (S47))).bind fun y146 => (if y143.length + y146.length < 8796093022208 then ((some (y143 ++ y146 : List (S47))).bind fun y150 => ((some (([(⟨a1_0, a1_1⟩ : S47)] : List (S47)) : List (S47))).bind fun y153 => (if y150.length + y153.length < 8796093022208 then ((some (y150 ++ y153 : List (S47))).bind fun y156 => (if t139 < (l0.length : Int) then (Qaj.j0 k l0 t139 y156 (((Qaa l0 t139).f0) == a1_0 && (((Qaa l0 t139).f1) == a1_1))) else (Qaj.j0 k l0 t139 y156 false))) else (none)))) else (none))) else (none)) else (none))) else (none)) else (none))
def Qaj.T3 : Bool × List (List Nat × List Nat) := (true, [([], []), ([], []), ([], []), ([1, 2], [1, 2]), ([0, 3], [0, 3]), ([], []), ([5], [5]), ([4, 6, 4], [4, 6]), ([7, 7, 0, 1, 2, 3, 4, 5, 6, 7], [0, 7])])
def Qaj.B3 : List Nat := [0, 0, 0, 6, 15, 0, 32, 127, 255]
theorem Qaj.tab3 : rtab .any (opsOf Tryz.f208 3) = Qaj.T3 := by kernel_rfl
theorem Qaj.bits3 : Qcr Qaj.T3.2 Qaj.B3 = true := by kernel_rfl
def Qaj.T4 : Bool × List (List Nat × List Nat) := (true, [([], []), ([], []), ([1], [1]), ([0, 2], [0, 2]), ([3], [3]), ([4], [4]), ([4], [4]), ([5, 6, 4], [4, 5, 6]), ([7, 4], [4, 7]), ([4], [4]), ([8, 9, 4], [4, 8, 9]), ([4, 10], [4, 10])])
def Qaj.B4 : List Nat := [0, 0, 2, 7, 15, 31, 31, 127, 255, 31, 1023, 2047]
theorem Qaj.tab4 : rtab .any (opsOf Tryz.f208 4) = Qaj.T4 := by kernel_rfl
theorem Qaj.bits4 : Qcr Qaj.T4.2 Qaj.B4 = true := by kernel_rfl
theorem Qaj.calls (k : Nat) (A0 : Option Addr) (c0 : Nat) (l0 : List (S47)) (a1_0 a1_1 : Int) (r : List (S47)) (w : World) (hr0 : Kd.C k47 w A0 l0.length l0) (hc0 : l0.length ≤ c0) (h : Qaj.f k l0 a1_0 a1_1 = some r) :
 Calls Tryz.prog 208 #[.slice A0 l0.length c0, .agg #[.int .i64 a1_0, .int .i64 a1_1]] w fun e w' => ∃ v0_ : Value, e = .returned (v0_) ∧ Kd.R k47 47 w' w.heap.size (fun _ => True) v0_ r ∧ Below w.heap.size w w' := by
 have hu47 := Tryz.underlying47
 have R0 := As0 hr0
 have C0 := As0 hc0
 clear hr0 hc0
 have HB := As0 (Below.refl w.heap.size w)
 have H : ((Qa5.f k l0 a1_0 a1_1).bind fun t139 => (if 0 ≤ (wrap64 ((l0.length : Int) + 1)) then (if (wrap64 ((l0.length : Int) + 1) : Int).toNat ≤ 17592186044416 then ((some ([] : List (S47))).bind fun y143 => (if 0 ≤ t139 then (if t139 ≤ (l0.length : Int) then ((some (l0.take (t139 : Int).toNat : List (S47))).bind fun y146 => (if y143.length + y146.length < 8796093022208 then ((some (y143 ++ y146 : List (S47))).bind fun y150 => ((some (([(⟨a1_0, a1_1⟩ : S47)] : List (S47)) : List (S47))).bind fun y153 => (if y150.length + y153.length < 8796093022208 then ((some (y150 ++ y153 : List (S47))).bind fun y156 => (if t139 < (l0.length : Int) then (Qaj.j0 k l0 t139 y156 (((Qaa l0 t139).f0) == a1_0 && (((Qaa l0 t139).f1) == a1_1))) else (Qaj.j0 k l0 t139 y156 false))) else (none)))) else (none))) else (none)) else (none))) else (none)) else (none))) = some r := h
 clear h
 replace H := Option.bind_eq_some_iff.mp H
 obtain ⟨t139, A30, H⟩ := H
 have A3 := As0 A30
 clear A30
 obtain ⟨ji4, hji4⟩ : ∃ j_ : Int, (wrap64 ((l0.length : Int) + 1)) = j_ := ⟨_, rfl⟩
 replace H : (if 0 ≤ (ji4) then (if (ji4 : Int).toNat ≤ 17592186044416 then ((some ([] : List (S47))).bind fun y143 => (if 0 ≤ t139 then (if t139 ≤ (l0.length : Int) then ((some (l0.take (t139 : Int).toNat : List (S47))).bind fun y146 => (if y143.length + y146.length < 8796093022208 then ((some (y143 ++ y146 : List (S47))).bind fun y150 => ((some (([(⟨a1_0, a1_1⟩ : S47)] : List (S47)) : List (S47))).bind fun y153 => (if y150.length + y153.length < 8796093022208 then ((some (y150 ++ y153 : List (S47))).bind fun y156 => (if t139 < (l0.length : Int) then (Qaj.j0 k l0 t139 y156 (((Qaa l0 t139).f0) == a1_0 && (((Qaa l0 t139).f1) == a1_1))) else (Qaj.j0 k l0 t139 y156 false))) else (none)))) else (none))) else (none)) else (none))) else (none)) else (none)) = some r := by first | (rw [hji4] at H; exact H) | (simp only [hji4] at H ⊢; exact H)
 (try rw [hji4] at A3)
 have hji4w : (IntKind.i64.wrap ((l0.length : Int) + 1)) = ji4 := (Qbu _).trans hji4
 by_cases c5 : 0 ≤ (ji4)
 rotate_left
 ·rw [if_neg c5] at H
  exact absurd H (by simp)
 rw [if_pos c5] at H
 have c5b0 := eq_true c5
 have c5b1 := decide_eq_true c5
 clear c5
 by_cases c6 : (ji4 : Int).toNat ≤ 17592186044416
 rotate_left
 ·rw [if_neg c6] at H
  exact absurd H (by simp)
 rw [if_pos c6] at H
 have c6b0 := eq_true c6
 have c6b1 := decide_eq_true c6
 clear c6
 obtain ⟨y143, hy143⟩ : ∃ y_ : List (S47), y_ = ([]) := ⟨_, rfl⟩
 replace H : (if 0 ≤ t139 then (if t139 ≤ (l0.length : Int) then ((some (l0.take (t139 : Int).toNat : List (S47))).bind fun y146 => (if y143.length + y146.length < 8796093022208 then ((some (y143 ++ y146 : List (S47))).bind fun y150 => ((some (([(⟨a1_0, a1_1⟩ : S47)] : List (S47)) : List (S47))).bind fun y153 => (if y150.length + y153.length < 8796093022208 then ((some (y150 ++ y153 : List (S47))).bind fun y156 => (if t139 < (l0.length : Int) then (Qaj.j0 k l0 t139 y156 (((Qaa l0 t139).f0) == a1_0 && (((Qaa l0 t139).f1) == a1_1))) else (Qaj.j0 k l0 t139 y156 false))) else (none)))) else (none))) else (none)) else (none)) = some r := by first | (rw [hy143]; exact H) | exact H
 have Ny143 := As0 hy143
 clear hy143
 by_cases c7 : 0 ≤ t139
 rotate_left
 ·rw [if_neg c7] at H
  exact absurd H (by simp)
 rw [if_pos c7] at H
 have c7b0 := eq_true c7
 have c7b1 := decide_eq_true c7
 clear c7
 by_cases c8 : t139 ≤ (l0.length : Int)
 rotate_left
 ·rw [if_neg c8] at H
  exact absurd H (by simp)
 rw [if_pos c8] at H
 have c8b0 := eq_true c8
 have c8b1 := decide_eq_true c8
 clear c8
 obtain ⟨y146, hy146⟩ : ∃ y_ : List (S47), y_ = (l0.take (t139 : Int).toNat) := ⟨_, rfl⟩
 replace H : (if y143.length + y146.length < 8796093022208 then ((some (y143 ++ y146 : List (S47))).bind fun y150 => ((some (([(⟨a1_0, a1_1⟩ : S47)] : List (S47)) : List (S47))).bind fun y153 => (if y150.length + y153.length < 8796093022208 then ((some (y150 ++ y153 : List (S47))).bind fun y156 => (if t139 < (l0.length : Int) then (Qaj.j0 k l0 t139 y156 (((Qaa l0 t139).f0) == a1_0 && (((Qaa l0 t139).f1) == a1_1))) else (Qaj.j0 k l0 t139 y156 false))) else (none)))) else (none)) = some r := by first | (rw [hy146]; exact H) | exact H
 have Ny146 := As0 hy146
 clear hy146
 by_cases c9 : y143.length + y146.length < 8796093022208
 rotate_left
 ·rw [if_neg c9] at H
  exact absurd H (by simp)
 rw [if_pos c9] at H
 have LMc9 := As0 c9
 clear c9
 obtain ⟨y150, hy150⟩ : ∃ y_ : List (S47), y_ = (y143 ++ y146) := ⟨_, rfl⟩
 replace H : ((some (([(⟨a1_0, a1_1⟩ : S47)] : List (S47)) : List (S47))).bind fun y153 => (if y150.length + y153.length < 8796093022208 then ((some (y150 ++ y153 : List (S47))).bind fun y156 => (if t139 < (l0.length : Int) then (Qaj.j0 k l0 t139 y156 (((Qaa l0 t139).f0) == a1_0 && (((Qaa l0 t139).f1) == a1_1))) else (Qaj.j0 k l0 t139 y156 false))) else (none))) = some r := by first | (rw [hy150]; exact H) | exact H
 have Ny150 := As0 hy150
 clear hy150
 obtain ⟨y153, hy153⟩ : ∃ y_ : List (S47), y_ = (([(⟨a1_0, a1_1⟩ : S47)] : List (S47))) := ⟨_, rfl⟩
 replace H : (if y150.length + y153.length < 8796093022208 then ((some (y150 ++ y153 : List (S47))).bind fun y156 => (if t139 < (l0.length : Int) then (Qaj.j0 k l0 t139 y156 (((Qaa l0 t139).f0) == a1_0 && (((Qaa l0 t139).f1) == a1_1))) else (Qaj.j0 k l0 t139 y156 false))) else (none)) = some r := by first | (rw [hy153]; exact H) | exact H
 have Ny153 := As0 hy153
 clear hy153
 by_cases c10 : y150.length + y153.length < 8796093022208
 rotate_left
 ·rw [if_neg c10] at H
  exact absurd H (by simp)
 rw [if_pos c10] at H
 have LMc10 := As0 c10
 clear c10
 obtain ⟨y156, hy156⟩ : ∃ y_ : List (S47), y_ = (y150 ++ y153) := ⟨_, rfl⟩
 replace H : (if t139 < (l0.length : Int) then (Qaj.j0 k l0 t139 y156 (((Qaa l0 t139).f0) == a1_0 && (((Qaa l0 t139).f1) == a1_1))) else (Qaj.j0 k l0 t139 y156 false)) = some r := by first | (rw [hy156]; exact H) | exact H
 have Ny156 := As0 hy156
 clear hy156
 have C11 := As0 H
 clear H
 go_enter Tryz.func208, Tryz.ntmps208
 try go_wp2_with (first | ((with_reducible refine gD 3 ?_); refine bY HB.out ?_; intro gb138 w12 hg hb K138 GW138 HB; clear hb hg; have q13_ := cN2 K138.out) | ((with_reducible refine Qbo (f := 190) rfl ?_); refine gL (some 9) Tryz.func190 #[.slice A0 l0.length c0, .agg #[.int .i64 a1_0, .int .i64 a1_1]] ?_; (with_reducible refine (Qa5.calls k _ _ l0 a1_0 a1_1 t139 _ ?side1 ?side2 A3.out).mono ?_); (case side1 => exact CU (Kd.C_below R0.out HB.out)); (case side2 => exact C0.out); rintro e w14 ⟨rfl, hb⟩; refine ⟨_, rfl, ?_⟩; replace K138 := kB K138 hb; replace HB := sB HB hb; (try clear hb)) | ((with_reducible refine gD 13 ?_); refine Kd.R_make0 k47 _ 47 rfl (N := 13) rfl 44 _ _ rfl ji4 rfl rfl Tryz.underlying44 (.agg #[(.int .i64 0), (.int .i64 0)]) 16 Qc5 rfl (by decide) (by omega) z47 (ok := fun _ => True) (okp := fun _ => True) (Qef _ _ _ z47 ) (fun _ hk => hk) trivial (qR) (Nat.le_trans (Nat.mul_le_mul_right _ (qR : ji4.toNat ≤ 17592186044416)) (by omega)) (Below.refl _ _) (Nat.le_refl _) ?_; intro v144 w15 ho16 hb hg_ hnew_; clear hg_ hnew_; (first | rw [← Ny143.out] at ho16 | (simp only [Int.reduceToNat] at ho16; rw [← Ny143.out] at ho16)); have O145 := As0 (Kd.R_lower (Kd.R_newB ho16 (bU K138.out)) (Qbm (BU HB.out))); replace K138 := kB K138 hb; replace HB := sB HB hb; clear hb ho16; obtain ⟨Ao17, co17, eo17⟩ := Kd.R_slice O145.out; subst eo17))
 replace O145 := As0 (Kd.R_drew O145.out)
 replace K138 := As0 (Qbr K138.out)
 replace HB := As0 (bd1 HB.out)
 have q19 : (t139 : Int) ≤ ((l0.length : Int) : Int) := qR
 obtain ⟨i019, hi019, _, hsz19, _⟩ := info_parts Qc5
 have hroom19 : l0.length ≤ c0 := C0.out
 have hC19 : Kd.C k47 _ A0 l0.length l0 := R0.out
 have hcut19 := cut_to (P := Tryz.prog) 44 47 .i64 Tryz.underlying44 hi019 A0 l0.length c0 t139 (qR) q19 hroom19
 have hr19 := Kd.C_take (m := (t139 : Int).toNat) hC19 (by omega)
 have hy19 : y146.length = (t139 : Int).toNat := (by rw [Ny146.out, List.length_take]; omega)
 rw [← Ny146.out] at hr19
 rw [← hy19] at hcut19
 have R149 := As0 hr19
 have C149 := As0 (show y146.length ≤ c0 from by omega)
 clear hr19 hC19 hroom19 hi019 hsz19
 have KY19 := As0 hy19
 clear hy19
 replace q19 := eq_true q19
 refine Qcb (n := 9) (S := fun w' => w'.cell? ⟨gb138, 0, none⟩ = some (.int .i64 a1_0) ∧ w'.cell? ⟨gb138, 1, none⟩ = some (.int .i64 a1_1)) (ds := []) (bb 9 0) (by kernel_rfl) rfl rfl ⟨bc K138 0, bc K138 1⟩ (fun hHeld => ?_); refine Qca Qaj.tab3 Qaj.bits3 (fun HT_ HW_ => ?_)
 generalize w15.drew = w18 at O145 K138 HB R149 hHeld ⊢
 refine pv HT_.out 0 14 (bb 9 1) ?_
 refine pv HT_.out 1 15 (bb 9 3) ?_
 refine pv HT_.out 2 16 (bb 9 7) ?_
 refine pv HT_.out 3 17 (bb 9 15) ?_
 refine tv hHeld HT_.out HW_.out 5 19 (bb 9 47) ?_
 refine join_ (σ := Value × Value) 2 (bb 9 127) (fun s_ => [(18, s_.1), (20, s_.2)]) (fun s_ w' => (w'.cell? ⟨gb138, 0, none⟩ = some (.int .i64 a1_0) ∧ w'.cell? ⟨gb138, 1, none⟩ = some (.int .i64 a1_1)) ∧ (Kd.R k47 47 w' w.heap.size (fun k_ => some k_ ≠ (s_.2 : Value).ownBlock ∧ k_ ≠ gb138) s_.1 y150) ∧ (Kd.R k47 47 w' w.heap.size (fun k_ => some k_ ≠ (s_.1 : Value).ownBlock ∧ k_ ≠ gb138) s_.2 y153) ∧ (w'.heap[gb138]? = some (.cells #[.int .i64 a1_0, .int .i64 a1_1] 47 (0, 0))) ∧ (Below w.heap.size w w')) ?_ ?_
 rotate_left
 ·intro hCont
  refine two_ (i := 4) (j := 6) (Ni := some 18) (Nj := some 20) (bb 9 63) (bb 9 111) rfl rfl rfl rfl (two_of HT_.out (by kernel_rfl)) (by decide) (by decide) (fun K hK => ?_) (fun K hK => ?_)
  ·skip
   refine Kd.R_append_rows_step k47 (w0 := w) w.heap.size (by rfl) (.tmp 14) (.tmp 17) 44 47 (.agg #[(.int .i64 0), (.int .i64 0)]) 16 rfl Tryz.underlying44 Qc5 rfl (by decide) (by omega) (.slice Ao17 y143.length co17) y143 y146 _ _ _ (fun k_ => k_ ≠ gb138) (fun _ => False) rfl rfl ?aO ?aR (fun _ _ h => h) (fun _ h => h.elim) ?aF ?aB ?aS ?aL ?_
   (case aR => exact CU (Kd.C_below R149.out HB.out))
   (case aB => exact (BU HB.out))
   (case aF => exact (fun k_ hk => Kd.freshB (bU K138.out) k_ hk))
   (case aO => exact (RU (Kd.R_mono O145.out (fun _ hk => hk.2))))
   (case aS => exact (Qbm (BU HB.out)))
   (case aL => have := LMc9.out; omega)
   intro v151 w20 ho hb hg hat
   rw [← Ny150.out] at ho
   replace K138 := As0 (Qbx (bU K138.out) hg (Kd.R_away O145.out (fun _ hk => hk.2)))
   replace HB := As0 (hb)
   have O152 := As0 (ho)
   clear O145 ho hb hg hat
   refine hK.out _ _ ⟨bc K138 0, bc K138 1⟩ (fun hHeld => ?_)
   clear hK K
   refine Qb1 (a' := ?_) ?_ ?_
   rotate_left
   ·show Act.put _ (some 18) _ = _
    simp only [Act.put, sL1, sL2, sL3, Qbu, Qbv]
    rfl
   refine one_ (i := 6) (N := some 20) (bb 9 127) rfl rfl (Qcd HT_.out (by kernel_rfl)) (by decide) (fun K hK => ?_)
   refine Kd.R_lit_step k47 _ 47 ?hg (N := 20) ?hd (xs := ([(⟨a1_0, a1_1⟩ : S47)] : List (S47))) (inner := [.int .i64 a1_0, .int .i64 a1_1]) (ok := fun _ => True) (okp := fun _ => True) ?hr ?hp (fun _ hk => hk) trivial (Below.refl _ _) (Nat.le_refl _) (by simp) ?_; (case hd => rfl); (case hg => rfl); (case hr => first | (go_simp; done) | (go_simp; rfl)); (case hp => exact (Reps.c2 (Qef _ _ _ (⟨a1_0, a1_1⟩ : S47)) (Reps.none _ _)))
   intro v154 w21 ho22 hb hg_ hnew_
   clear hg_ hnew_
   (first | rw [← Ny153.out] at ho22 | (simp only [Int.reduceToNat] at ho22; rw [← Ny153.out] at ho22))
   have O155 := As0 (Kd.R_lower (Kd.R_newB (Kd.R_new' ho22 (Kd.R_lt (RU O152.out))) (bU K138.out)) (Qbm (BU HB.out)))
   replace O152 := As0 (Kd.R_elder' (RU O152.out) (Kd.R_base ho22) hb)
   replace K138 := kB K138 hb
   replace HB := sB HB hb
   clear hb ho22
   refine hK.out _ _ ⟨bc K138 0, bc K138 1⟩ (fun hHeld => ?_)
   clear hK K
   refine Qb1 (a' := ?_) ?_ ?_
   rotate_left
   ·show Act.put _ (some 20) _ = _
    simp only [Act.put, sL1, sL2, sL3, Qbu, Qbv]
    rfl
   exact Qb1 (by simp only [Qc4, Act.put, sL1, sL2, sL3]) (hCont (v151, v154) _ ⟨hHeld, (RU (Kd.R_mono O152.out (fun _ hk => ⟨hk.2, hk.1⟩))), (RU (Kd.R_mono O155.out (fun _ hk => ⟨hk.1.2, hk.2⟩))), (bU K138.out), (BU HB.out)⟩)
  ·skip
   refine Kd.R_lit_step k47 _ 47 ?hg (N := 20) ?hd (xs := ([(⟨a1_0, a1_1⟩ : S47)] : List (S47))) (inner := [.int .i64 a1_0, .int .i64 a1_1]) (ok := fun _ => True) (okp := fun _ => True) ?hr ?hp (fun _ hk => hk) trivial (Below.refl _ _) (Nat.le_refl _) (by simp) ?_; (case hd => rfl); (case hg => rfl); (case hr => first | (go_simp; done) | (go_simp; rfl)); (case hp => exact (Reps.c2 (Qef _ _ _ (⟨a1_0, a1_1⟩ : S47)) (Reps.none _ _)))
   intro v154 w20 ho21 hb hg_ hnew_
   clear hg_ hnew_
   (first | rw [← Ny153.out] at ho21 | (simp only [Int.reduceToNat] at ho21; rw [← Ny153.out] at ho21))
   have O155 := As0 (Kd.R_lower (Kd.R_newB (Kd.R_new' ho21 (Kd.R_lt (RU O145.out))) (bU K138.out)) (Qbm (BU HB.out)))
   replace O145 := As0 (Kd.R_elder' (RU O145.out) (Kd.R_base ho21) hb)
   replace K138 := kB K138 hb
   replace HB := sB HB hb
   clear hb ho21
   refine hK.out _ _ ⟨bc K138 0, bc K138 1⟩ (fun hHeld => ?_)
   clear hK K
   refine Qb1 (a' := ?_) ?_ ?_
   rotate_left
   ·show Act.put _ (some 20) _ = _
    simp only [Act.put, sL1, sL2, sL3, Qbu, Qbv]
    rfl
   refine one_ (i := 4) (N := some 18) (bb 9 127) rfl rfl (Qcd HT_.out (by kernel_rfl)) (by decide) (fun K hK => ?_)
   refine Kd.R_append_rows_step k47 (w0 := w) w.heap.size (by rfl) (.tmp 14) (.tmp 17) 44 47 (.agg #[(.int .i64 0), (.int .i64 0)]) 16 rfl Tryz.underlying44 Qc5 rfl (by decide) (by omega) (.slice Ao17 y143.length co17) y143 y146 _ _ _ (fun k_ => some k_ ≠ (v154 : Value).ownBlock ∧ k_ ≠ gb138) (fun _ => False) rfl rfl ?aO ?aR (fun _ _ h => h) (fun _ h => h.elim) ?aF ?aB ?aS ?aL ?_
   (case aR => exact CU (Kd.C_below R149.out HB.out))
   (case aB => exact (BU HB.out))
   (case aF => exact (fun k_ hk => ⟨Kd.fresh' (Kd.R_lt (RU O155.out)) k_ hk, Kd.freshB (bU K138.out) k_ hk⟩))
   (case aO => exact (RU (Kd.R_mono O145.out (fun _ hk => ⟨hk.2, hk.1.2⟩))))
   (case aS => exact (Qbm (BU HB.out)))
   (case aL => have := LMc9.out; omega)
   intro v151 w22 ho hb hg hat
   rw [← Ny150.out] at ho
   replace K138 := As0 (Qbx (bU K138.out) hg (Kd.R_away O145.out (fun _ hk => hk.1.2)))
   replace O155 := As0 (Kd.R_after (ok := (fun k_ => k_ ≠ gb138)) (RU (Kd.R_mono O155.out (fun _ hk => ⟨hk.2, hk.1.2⟩))) hg hat)
   replace HB := As0 (hb)
   have O152 := As0 (ho)
   clear O145 ho hb hg hat
   refine hK.out _ _ ⟨bc K138 0, bc K138 1⟩ (fun hHeld => ?_)
   clear hK K
   refine Qb1 (a' := ?_) ?_ ?_
   rotate_left
   ·show Act.put _ (some 18) _ = _
    simp only [Act.put, sL1, sL2, sL3, Qbu, Qbv]
    rfl
   exact Qb1 (by simp only [Qc4, Act.put, sL1, sL2, sL3]) (hCont (v151, v154) _ ⟨hHeld, (RU O152.out), (RU (Kd.R_mono O155.out (fun _ hk => ⟨hk.2, hk.1⟩))), (bU K138.out), (BU HB.out)⟩)
 rintro ⟨v151, v154⟩ w23 ⟨hS_, h0_, h1_, h2_, h3_⟩
 have O152 : Qbk (Kd.R k47 47 w23 w.heap.size (fun k_ => some k_ ≠ (v154 : Value).ownBlock ∧ k_ ≠ gb138) v151 y150) := ⟨h0_⟩
 have O155 : Qbk (Kd.R k47 47 w23 w.heap.size (fun k_ => some k_ ≠ (v151 : Value).ownBlock ∧ k_ ≠ gb138) v154 y153) := ⟨h1_⟩
 replace K138 : Qbk (w23.heap[gb138]? = some (.cells #[.int .i64 a1_0, .int .i64 a1_1] 47 (0, 0))) := ⟨h2_⟩
 replace HB : Qbk (Below w.heap.size w w23) := ⟨h3_⟩
 clear O145 h0_ h1_ h2_ h3_
 have hHeld : w23.cell? ⟨gb138, 0, none⟩ = some (.int .i64 a1_0) ∧ w23.cell? ⟨gb138, 1, none⟩ = some (.int .i64 a1_1) := hS_
 obtain ⟨Ao25, co25, eo25⟩ := Kd.R_slice O155.out
 (first | subst eo25 | (injection eo25 with f1_ f2_ f3_; have f4_ := f1_.symm; have f5_ := f3_.symm; clear f1_ f2_ f3_; subst f4_; subst f5_))
 refine Qb1 (a' := ?_) ?_ ?_
 rotate_left
 ·simp only [Qc4, Act.put, sL1, sL2, sL3]
  rfl
 refine one_ (i := 7) (N := some 21) (bb 9 255) rfl rfl (Qcd HT_.out (by kernel_rfl)) (by decide) (fun K hK => ?_)
 refine Kd.R_append_rows_step k47 (w0 := w) w.heap.size (by rfl) (.tmp 18) (.tmp 20) 44 47 (.agg #[(.int .i64 0), (.int .i64 0)]) 16 rfl Tryz.underlying44 Qc5 rfl (by decide) (by omega) v151 y150 y153 _ _ _ (fun k_ => some k_ ≠ (.slice Ao25 y153.length co25 : Value).ownBlock ∧ k_ ≠ gb138) (fun _ => False) rfl rfl ?aO ?aR (fun _ _ h => h) (fun _ h => h.elim) ?aF ?aB ?aS ?aL ?_
 (case aR => exact CU (Kd.R_reads' O155.out).2.2)
 (case aB => exact (BU HB.out))
 (case aF => exact (fun k_ hk => ⟨Kd.fresh' (Kd.R_lt (RU O155.out)) k_ hk, Kd.freshB (bU K138.out) k_ hk⟩))
 (case aO => exact (RU O152.out))
 (case aS => exact (Qbm (BU HB.out)))
 (case aL => have := LMc10.out; omega)
 intro v157 w24 ho hb hg hat
 rw [← Ny156.out] at ho
 replace K138 := As0 (Qbx (bU K138.out) hg (Kd.R_away O152.out (fun _ hk => hk.2)))
 replace O155 := As0 (Kd.R_after (ok := (fun k_ => k_ ≠ gb138)) (RU (Kd.R_mono O155.out (fun _ hk => ⟨hk.2, hk.1⟩))) hg hat)
 replace HB := As0 (hb)
 have O158 := As0 (ho)
 clear O152 ho hb hg hat
 refine hK.out _ _ ⟨bc K138 0, bc K138 1⟩ (fun hHeld => ?_)
 clear hK K
 refine Qb1 (a' := ?_) ?_ ?_
 rotate_left
 ·show Act.put _ (some 21) _ = _
  simp only [Act.put, sL1, sL2, sL3, Qbu, Qbv]
  rfl
 refine pv HT_.out 8 6 (bb 9 511) ?_
 refine Qcy (Qco HT_.out (by kernel_rfl)) ?_
 go_upto_region 4 with (fail)
 go_cut [33] (fun v33 wc => ∃ (kq : Nat) (x33_10 : Bool), v33 = .bool x33_10 ∧ Qbk (Qaj.j0 kq l0 t139 y156 x33_10 = some r) ∧ Qbk (kq ≤ k) ∧ Qbk (Kd.R k47 47 wc w.heap.size (fun k_ => k_ ≠ gb138) v157 y156) ∧ Qbk (wc.heap[gb138]? = some (.cells #[.int .i64 a1_0, .int .i64 a1_1] 47 (0, 0))) ∧ Qbk (Below w.heap.size w wc))
 case first =>
  have H := C11.out
  clear C11
  by_cases c26 : t139 < (l0.length : Int)
  rotate_left
  ·rw [if_neg c26] at H
   have c26b0 := decide_eq_false c26
   clear c26
   (first | rw [c26b0] | (simp only [Qbu, Qbv]; rw [c26b0]) | skip)
   have H' := As0 H
   clear H
   try go_wp2
   replace O155 := As0 (Kd.R_drew O155.out)
   replace O158 := As0 (Kd.R_drew O158.out)
   replace K138 := As0 (Qbr K138.out)
   replace HB := As0 (bd1 HB.out)
   refine Qcb (n := 12) (S := fun w' => True) (ds := []) (bb 12 0) (by kernel_rfl) rfl rfl trivial (fun hHeld => ?_); refine Qca Qaj.tab4 Qaj.bits4 (fun HT_ HW_ => ?_)
   generalize w24.drew = w28 at O155 O158 K138 HB hHeld ⊢
   refine pv HT_.out 0 22 (bb 12 1) ?_
   refine pv HT_.out 1 23 (bb 12 3) ?_
   refine pv HT_.out 2 24 (bb 12 7) ?_
   refine pv HT_.out 3 25 (bb 12 15) ?_
   refine pv HT_.out 4 26 (bb 12 31) ?_
   refine py HT_.out 5 27 (bb 12 63) ?_
   refine py HT_.out 6 28 (bb 12 127) ?_
   refine py HT_.out 7 29 (bb 12 255) ?_
   refine py HT_.out 8 30 (bb 12 511) ?_
   refine py HT_.out 9 31 (bb 12 1023) ?_
   refine py HT_.out 10 32 (bb 12 2047) ?_
   refine pv HT_.out 11 33 (bb 12 4095) ?_
   refine Qcy (Qco HT_.out (by kernel_rfl)) ?_
   try go_wp2
   go_meet
   case rel => exact ⟨_, (false), eR, H', ⟨by first | omega | exact Nat.le_refl _⟩, ⟨RU (Kd.R_mono O158.out (fun _ hk => hk.2))⟩, ⟨bU K138.out⟩, ⟨BU HB.out⟩⟩
  rw [if_pos c26] at H
  have c26b0 := decide_eq_true c26
  clear c26
  (first | rw [c26b0] | (simp only [Qbu, Qbv]; rw [c26b0]) | skip)
  have H' := As0 H
  clear H
  try go_wp2
  replace O155 := As0 (Kd.R_drew O155.out)
  replace O158 := As0 (Kd.R_drew O158.out)
  replace K138 := As0 (Qbr K138.out)
  replace HB := As0 (bd1 HB.out)
  have p159 : 0 ≤ (t139 : Int) := qR
  have q159 : t139 < (l0.length : Int) := qR
  obtain ⟨ad159, e159, hx159_0, hx159_1⟩ := Qcs R0.out t139 p159 q159
  have hw159_1 := hx159_1
  have hw159_0 := hx159_0
  cases e159
  replace hx159_0 := cl HB hx159_0
  replace hx159_1 := cl HB hx159_1
  replace p159 := eq_true p159
  replace q159 := eq_true q159
  refine Qcb (n := 12) (S := fun w' => w'.cell? ⟨gb138, 0, none⟩ = some (.int .i64 a1_0) ∧ w'.cell? ⟨gb138, 1, none⟩ = some (.int .i64 a1_1) ∧ w'.cell? (ad159.add ((t139).toNat * 2)) = some (.int .i64 ((Qaa l0 t139).f0)) ∧ w'.cell? ⟨(ad159.add ((t139).toNat * 2)).block, (ad159.add ((t139).toNat * 2)).off + 1, none⟩ = some (.int .i64 ((Qaa l0 t139).f1))) (ds := []) (bb 12 0) (by kernel_rfl) rfl rfl ⟨bc K138 0, bc K138 1, (cl HB hw159_0), (cl HB hw159_1)⟩ (fun hHeld => ?_); refine Qca Qaj.tab4 Qaj.bits4 (fun HT_ HW_ => ?_)
  generalize w24.drew = w27 at O155 O158 K138 HB hx159_0 hx159_1 hHeld ⊢
  refine pv HT_.out 0 22 (bb 12 1) ?_
  refine pv HT_.out 1 23 (bb 12 3) ?_
  refine pv HT_.out 2 24 (bb 12 7) ?_
  refine pv HT_.out 3 25 (bb 12 15) ?_
  refine pv HT_.out 4 26 (bb 12 31) ?_
  refine pv HT_.out 5 27 (bb 12 63) ?_
  refine pv HT_.out 6 28 (bb 12 127) ?_
  refine pv HT_.out 7 29 (bb 12 255) ?_
  refine tv hHeld HT_.out HW_.out 8 30 (bb 12 511) ?_
  refine tv hHeld HT_.out HW_.out 9 31 (bb 12 1023) ?_
  refine pv HT_.out 10 32 (bb 12 2047) ?_
  refine pv HT_.out 11 33 (bb 12 4095) ?_
  refine Qcy (Qco HT_.out (by kernel_rfl)) ?_
  try go_wp2
  go_meet
  case rel => exact ⟨_, ((((Qaa l0 t139).f0) == a1_0 && (((Qaa l0 t139).f1) == a1_1))), eR, H', ⟨by first | omega | exact Nat.le_refl _⟩, ⟨RU (Kd.R_mono O158.out (fun _ hk => hk.2))⟩, ⟨bU K138.out⟩, ⟨BU HB.out⟩⟩
 case rest =>
  clear C11
  obtain ⟨kq, x33_10, rfl, HA, HJ10, HO_6, K138, HB⟩ := hcut
  cases kq with
  | zero => exact absurd HA.out (by simp [Qaj.j0])
  | succ kj10 =>
   have H := HA.out
   clear HA
   simp only [Qaj.j0] at H
   by_cases c29 : x33_10 = true
   rotate_left
   ·replace c29 := Bool.eq_false_iff.mpr c29
    subst c29
    rw [if_neg bF] at H
    by_cases c36 : 0 ≤ t139
    rotate_left
    ·rw [if_neg c36] at H
     exact absurd H (by simp)
    rw [if_pos c36] at H
    have c36b0 := eq_true c36
    have c36b1 := decide_eq_true c36
    clear c36
    by_cases c37 : t139 ≤ (l0.length : Int)
    rotate_left
    ·rw [if_neg c37] at H
     exact absurd H (by simp)
    rw [if_pos c37] at H
    have c37b0 := eq_true c37
    have c37b1 := decide_eq_true c37
    clear c37
    obtain ⟨y167, hy167⟩ : ∃ y_ : List (S47), y_ = (l0.drop (t139 : Int).toNat) := ⟨_, rfl⟩
    replace H : (if y156.length + y167.length < 8796093022208 then (some (y156 ++ y167)) else (none)) = some r := by first | (rw [hy167]; exact H) | exact H
    have Ny167 := As0 hy167
    clear hy167
    by_cases c38 : y156.length + y167.length < 8796093022208
    rotate_left
    ·rw [if_neg c38] at H
     exact absurd H (by simp)
    rw [if_pos c38] at H
    have LMc38 := As0 c38
    clear c38
    obtain ⟨y171, hy171⟩ : ∃ y_ : List (S47), y_ = (y156 ++ y167) := ⟨_, rfl⟩
    replace H : (some y171) = some r := by first | (rw [hy171]; exact H) | exact H
    have Ny171 := As0 hy171
    clear hy171
    obtain rfl := Option.some.inj H
    have q39 : (t139 : Int) ≤ ((l0.length : Int) : Int) := qR
    obtain ⟨i039, hi039, _, hsz39, _⟩ := info_parts Qc5
    have hroom39 : l0.length ≤ c0 := C0.out
    have hC39 : Kd.C k47 _ A0 l0.length l0 := R0.out
    have q039 : (0 : Int) ≤ (t139 : Int) := qR
    have hcut39 := cut_from (P := Tryz.prog) 44 47 .i64 Tryz.underlying44 hi039 2 hsz39 A0 l0.length c0 t139 q039 q39
    have hr39 := Kd.C_drop (m := (t139 : Int).toNat) (c := c0) hC39 (by omega) hroom39
    obtain ⟨A39, hA39⟩ : ∃ Aq_, Aq_ = (if c0 = (t139 : Int).toNat then A0 else (A0 : Option Addr).map (·.add ((t139 : Int).toNat * 2))) := ⟨_, rfl⟩
    obtain ⟨c39, hc39⟩ : ∃ cq_, cq_ = c0 - (t139 : Int).toNat := ⟨_, rfl⟩
    have hy39 : y167.length = l0.length - (t139 : Int).toNat := (by rw [Ny167.out, List.length_drop] <;> omega)
    rw [show (l0).drop (t139 : Int).toNat = y167 from Ny167.out.symm] at hr39
    replace hr39 : Kd.C k47 _ A39 y167.length y167 := (by rw [hA39]; exact hr39)
    rw [← hy39, ← hA39, ← hc39] at hcut39
    have R170 := As0 hr39
    have C170 := As0 (show y167.length ≤ c39 from by rw [hy39, hc39]; exact Nat.sub_le_sub_right hroom39 _)
    clear hr39 hC39 hroom39 hi039 hsz39 hc39
    have KY39 := As0 hy39
    have KA39 := As0 hA39
    clear hy39 hA39
    replace q39 := eq_true q39
    go_wp2_with (first | ((with_reducible refine Qce (b := .append) (xs := #[.tmp 36, .tmp 39]) rfl ?_); at_builtin; refine Kd.R_append_rows k47 (w0 := w) w.heap.size rfl (.tmp 36) (.tmp 39) 44 47 (.agg #[(.int .i64 0), (.int .i64 0)]) 16 rfl Tryz.underlying44 Qc5 rfl (by decide) (by omega) v157 y156 y167 _ _ _ (fun k_ => k_ ≠ gb138) (fun _ => False) rfl rfl ?aO ?aR (fun _ _ h => h) (fun _ h => h.elim) ?aF ?aB ?aS ?aL ?_; (case aR => exact CU (Kd.C_below R170.out HB.out)); (case aB => exact (BU HB.out)); (case aF => exact (fun k_ hk => Kd.freshB (bU K138.out) k_ hk)); (case aO => exact (RU HO_6.out)); (case aS => exact (Qbm (BU HB.out))); (case aL => have := LMc38.out; omega); intro v172 w40 ho hb hg hat; rw [← Ny171.out] at ho; replace K138 := As0 (Qbx (bU K138.out) hg (Kd.R_away HO_6.out (fun _ hk => hk))); replace HB := As0 (hb); have O173 := As0 (ho); clear HO_6 ho hb hg hat))
    go_ret
    exact ⟨_, by first | rfl | (simp [Qbe, Qbd] <;> rfl) | (simp only [← hji4]; first | rfl | (simp [Qbe, Qbd] <;> rfl)) | (simp [*, Qbe, Qbd] <;> rfl), RU (Kd.R_mono O173.out (fun _ hk => trivial)), BU HB.out⟩
   subst c29
   rw [if_pos rfl] at H
   obtain ⟨ji30, hji30⟩ : ∃ j_ : Int, (wrap64 (t139 + 1)) = j_ := ⟨_, rfl⟩
   replace H : (if 0 ≤ (ji30) then (if (ji30) ≤ (l0.length : Int) then ((some (l0.drop ((ji30) : Int).toNat : List (S47))).bind fun y160 => (if y156.length + y160.length < 8796093022208 then (some (y156 ++ y160)) else (none))) else (none)) else (none)) = some r := by first | (rw [hji30] at H; exact H) | (simp only [hji30] at H ⊢; exact H)
   have hji30w : (IntKind.i64.wrap (t139 + 1)) = ji30 := (Qbu _).trans hji30
   by_cases c31 : 0 ≤ (ji30)
   rotate_left
   ·rw [if_neg c31] at H
    exact absurd H (by simp)
   rw [if_pos c31] at H
   have c31b0 := eq_true c31
   have c31b1 := decide_eq_true c31
   clear c31
   by_cases c32 : (ji30) ≤ (l0.length : Int)
   rotate_left
   ·rw [if_neg c32] at H
    exact absurd H (by simp)
   rw [if_pos c32] at H
   have c32b0 := eq_true c32
   have c32b1 := decide_eq_true c32
   clear c32
   obtain ⟨y160, hy160⟩ : ∃ y_ : List (S47), y_ = (l0.drop ((ji30) : Int).toNat) := ⟨_, rfl⟩
   replace H : (if y156.length + y160.length < 8796093022208 then (some (y156 ++ y160)) else (none)) = some r := by first | (rw [hy160]; exact H) | exact H
   have Ny160 := As0 hy160
   clear hy160
   by_cases c33 : y156.length + y160.length < 8796093022208
   rotate_left
   ·rw [if_neg c33] at H
    exact absurd H (by simp)
   rw [if_pos c33] at H
   have LMc33 := As0 c33
   clear c33
   obtain ⟨y164, hy164⟩ : ∃ y_ : List (S47), y_ = (y156 ++ y160) := ⟨_, rfl⟩
   replace H : (some y164) = some r := by first | (rw [hy164]; exact H) | exact H
   have Ny164 := As0 hy164
   clear hy164
   obtain rfl := Option.some.inj H
   have q34 : ((ji30) : Int) ≤ ((l0.length : Int) : Int) := qR
   obtain ⟨i034, hi034, _, hsz34, _⟩ := info_parts Qc5
   have hroom34 : l0.length ≤ c0 := C0.out
   have hC34 : Kd.C k47 _ A0 l0.length l0 := R0.out
   have q034 : (0 : Int) ≤ ((ji30) : Int) := qR
   have hcut34 := cut_from (P := Tryz.prog) 44 47 .i64 Tryz.underlying44 hi034 2 hsz34 A0 l0.length c0 (ji30) q034 q34
   have hr34 := Kd.C_drop (m := ((ji30) : Int).toNat) (c := c0) hC34 (by omega) hroom34
   obtain ⟨A34, hA34⟩ : ∃ Aq_, Aq_ = (if c0 = ((ji30) : Int).toNat then A0 else (A0 : Option Addr).map (·.add (((ji30) : Int).toNat * 2))) := ⟨_, rfl⟩
   obtain ⟨c34, hc34⟩ : ∃ cq_, cq_ = c0 - ((ji30) : Int).toNat := ⟨_, rfl⟩
   have hy34 : y160.length = l0.length - ((ji30) : Int).toNat := (by rw [Ny160.out, List.length_drop] <;> omega)
   rw [show (l0).drop ((ji30) : Int).toNat = y160 from Ny160.out.symm] at hr34
   replace hr34 : Kd.C k47 _ A34 y160.length y160 := (by rw [hA34]; exact hr34)
   rw [← hy34, ← hA34, ← hc34] at hcut34
   have R163 := As0 hr34
   have C163 := As0 (show y160.length ≤ c34 from by rw [hy34, hc34]; exact Nat.sub_le_sub_right hroom34 _)
   clear hr34 hC34 hroom34 hi034 hsz34 hc34
   have KY34 := As0 hy34
   have KA34 := As0 hA34
   clear hy34 hA34
   replace q34 := eq_true q34
   go_wp2_with (first | ((with_reducible refine Qce (b := .append) (xs := #[.tmp 36, .tmp 39]) rfl ?_); at_builtin; refine Kd.R_append_rows k47 (w0 := w) w.heap.size rfl (.tmp 36) (.tmp 39) 44 47 (.agg #[(.int .i64 0), (.int .i64 0)]) 16 rfl Tryz.underlying44 Qc5 rfl (by decide) (by omega) v157 y156 y160 _ _ _ (fun k_ => k_ ≠ gb138) (fun _ => False) rfl rfl ?aO ?aR (fun _ _ h => h) (fun _ h => h.elim) ?aF ?aB ?aS ?aL ?_; (case aR => exact CU (Kd.C_below R163.out HB.out)); (case aB => exact (BU HB.out)); (case aF => exact (fun k_ hk => Kd.freshB (bU K138.out) k_ hk)); (case aO => exact (RU HO_6.out)); (case aS => exact (Qbm (BU HB.out))); (case aL => have := LMc33.out; omega); intro v165 w35 ho hb hg hat; rw [← Ny164.out] at ho; replace K138 := As0 (Qbx (bU K138.out) hg (Kd.R_away HO_6.out (fun _ hk => hk))); replace HB := As0 (hb); have O166 := As0 (ho); clear HO_6 ho hb hg hat))
   go_ret
   exact ⟨_, by first | rfl | (simp [Qbe, Qbd] <;> rfl) | (simp only [← hji4, ← hji30]; first | rfl | (simp [Qbe, Qbd] <;> rfl)) | (simp [*, Qbe, Qbd] <;> rfl), RU (Kd.R_mono O166.out (fun _ hk => trivial)), BU HB.out⟩
end Go.Proofs.YtchpkjgibloleaaGreat.Z
namespace Go.Proofs
set_option maxRecDepth 100000
set_option maxHeartbeats 8000000
open Go.Shelf
def Tryz.tzSort_ren : Go.Shelf.Ren := ⟨fun | 6 => 116 | 15 => 154 | 14 => 153 | 28 => 182 | 29 => 183 | 20 => 174 | 21 => 175 | 22 => 176 | 23 => 177 | 24 => 178 | 25 => 179 | 26 => 180 | 27 => 181 | 46 => 199 | 47 => 200 | 48 => 201 | 49 => 202 | 50 => 203 | 57 => 223 | n => n, fun | 22 => 44 | 24 => 47 | 25 => 183 | 3 => 3 | 39 => 222 | 0 => 0 | 53 => 250 | 55 => 136 | 4 => 4 | 46 => 243 | 45 => 242 | 50 => 247 | 5 => 5 | 9 => 9 | 66 => 268 | 70 => 204 | 76 => 279 | 77 => 280 | n => n, fun | n => n⟩
theorem Tryz.tzSort : Go.Proofs.SlLaysF0.n6 Tryz.prog Tryz.tzSort_ren := {
 mixed := by kernel_rfl
 f6 := ⟨Tryz.f116.name, by decide, Tryz.func116.trans (congrArg some (by kernel_rfl))⟩
 f14 := ⟨Tryz.f153.name, by decide, Tryz.func153.trans (congrArg some (by kernel_rfl))⟩
 f15 := Tryz.func154.trans (congrArg some (by kernel_rfl))
 f20 := ⟨Tryz.f174.name, by decide, Tryz.func174.trans (congrArg some (by kernel_rfl))⟩
 f21 := ⟨Tryz.f175.name, by decide, Tryz.func175.trans (congrArg some (by kernel_rfl))⟩
 f22 := ⟨Tryz.f176.name, by decide, Tryz.func176.trans (congrArg some (by kernel_rfl))⟩
 f23 := ⟨Tryz.f177.name, by decide, Tryz.func177.trans (congrArg some (by kernel_rfl))⟩
 f24 := ⟨Tryz.f178.name, by decide, Tryz.func178.trans (congrArg some (by kernel_rfl))⟩
 f25 := ⟨Tryz.f179.name, by decide, Tryz.func179.trans (congrArg some (by kernel_rfl))⟩
 f26 := ⟨Tryz.f180.name, by decide, Tryz.func180.trans (congrArg some (by kernel_rfl))⟩
 f27 := ⟨Tryz.f181.name, by decide, Tryz.func181.trans (congrArg some (by kernel_rfl))⟩
 f28 := Tryz.func182.trans (congrArg some (by kernel_rfl))
 f29 := Tryz.func183.trans (congrArg some (by kernel_rfl))
 f46 := ⟨Tryz.f199.name, by decide, Tryz.func199.trans (congrArg some (by kernel_rfl))⟩
 f47 := Tryz.func200.trans (congrArg some (by kernel_rfl))
 f48 := Tryz.func201.trans (congrArg some (by kernel_rfl))
 f49 := ⟨Tryz.f202.name, by decide, Tryz.func202.trans (congrArg some (by kernel_rfl))⟩
 f50 := ⟨Tryz.f203.name, by decide, Tryz.func203.trans (congrArg some (by kernel_rfl))⟩
 f57 := ⟨Tryz.f223.name, by decide, Tryz.func223.trans (congrArg some (by kernel_rfl))⟩
 t0 := Tryz.underlying0
 a0 := Tryz.isAgg0
 z0 := Tryz.sizeOf0
 v0 := Tryz.zeroValue0
 t3 := Tryz.underlying3
 a3 := Tryz.isAgg3
 z3 := Tryz.sizeOf3
 v3 := Tryz.zeroValue3
 t4 := Tryz.underlying4
 a4 := Tryz.isAgg4
 z4 := Tryz.sizeOf4
 v4 := Tryz.zeroValue4
 t5 := Tryz.underlying5
 a5 := Tryz.isAgg5
 z5 := Tryz.sizeOf5
 v5 := Tryz.zeroValue5
 t9 := Tryz.underlying9
 a9 := Tryz.isAgg9
 z9 := Tryz.sizeOf9
 v9 := Tryz.zeroValue9
 t22 := Tryz.underlying44
 a22 := Tryz.isAgg44
 z22 := Tryz.sizeOf44
 v22 := Tryz.zeroValue44
 t25 := Tryz.underlying183
 a25 := Tryz.isAgg183
 z25 := Tryz.sizeOf183
 v25 := Tryz.zeroValue183
 t39 := Tryz.underlying222
 a39 := Tryz.isAgg222
 z39 := Tryz.sizeOf222
 v39 := Tryz.zeroValue222
 t45 := Tryz.underlying242
 a45 := Tryz.isAgg242
 z45 := Tryz.sizeOf242
 v45 := Tryz.zeroValue242
 t46 := Tryz.underlying243
 a46 := Tryz.isAgg243
 z46 := Tryz.sizeOf243
 v46 := Tryz.zeroValue243
 t50 := Tryz.underlying247
 a50 := Tryz.isAgg247
 z50 := Tryz.sizeOf247
 v50 := Tryz.zeroValue247
 t53 := Tryz.underlying250
 a53 := Tryz.isAgg250
 z53 := Tryz.sizeOf250
 v53 := Tryz.zeroValue250
 t55 := Tryz.underlying136
 a55 := Tryz.isAgg136
 z55 := Tryz.sizeOf136
 v55 := Tryz.zeroValue136
 t66 := Tryz.underlying268
 a66 := Tryz.isAgg268
 z66 := Tryz.sizeOf268
 v66 := Tryz.zeroValue268
 t70 := Tryz.underlying204
 a70 := Tryz.isAgg204
 z70 := Tryz.sizeOf204
 v70 := Tryz.zeroValue204
 t76 := Tryz.underlying279
 a76 := Tryz.isAgg279
 z76 := Tryz.sizeOf279
 v76 := Tryz.zeroValue279
 t77 := Tryz.underlying280
 a77 := Tryz.isAgg280
 z77 := Tryz.sizeOf280
 v77 := Tryz.zeroValue280 }
end Go.Proofs
namespace Go.Proofs.YtchpkjgibloleaaGreat.Z
set_option maxRecDepth 100000
set_option maxHeartbeats 8000000
open Go.RowKit Go.Proofs.YtchpkjgibloleaaGreatW.PrintWords Go.Proofs.YtchpkjgibloleaaGreatW.PrintLast Go.Proofs.YtchpkjgibloleaaGreatW.PrintMore
attribute [local go_sem] Qb3 Qb8
theorem bXe {P : Program} {OPS : Array Oper} {rest : List Oper} {o : Oper} {a : Act} {Q : Exit → Act → World → Prop} {W : World} {N : Tmp} {cs : Array Value} {t : TypeId}
    (h : ∀ g, g = W.heap.size → ∀ w1, w1 = W.alloc (.cells cs t (0, 0)) → w1.heap[g]? = some (.cells cs t (0, 0)) → wpList P OPS Q rest (a.put o.dst (.pointer (some ⟨g, 0, none⟩))) w1)
    (hd : o.dst = some N := by rfl) (hgd : o.guard = none := by rfl)
    (hrun : (execOp a.eval o).run P W = .ok (.value (.pointer (some ⟨W.heap.size, 0, none⟩))) (W.alloc (.cells cs t (0, 0))) := by first | (go_simp; done) | (go_simp; rfl)) : wpList P OPS Q (o :: rest) a W :=
 Kd.event_run hgd hrun (h _ rfl _ rfl (Qdm W _))
def Gr (w w' : World) : Prop := ∃ os, w' = Sort.grow w os
theorem Gr.alloc {w w1 : World} (h : Gr w w1) (o : Obj) : Gr w (w1.alloc o) := by
 obtain ⟨os, rfl⟩ := h
 exact ⟨os ++ #[o], by rw [Sort.alloc_eq_grow, Sort.grow_grow]⟩
theorem Gr.trans {w w1 w2 : World} (h : Gr w w1) (k : Gr w1 w2) : Gr w w2 := by
 obtain ⟨os, rfl⟩ := h
 obtain ⟨os', rfl⟩ := k
 exact ⟨os ++ os', by rw [Sort.grow_grow]⟩
theorem Gr.refl (w : World) : Gr w w := ⟨#[], (Sort.grow_empty w).symm⟩
theorem Gr.below {w w1 : World} (h : Gr w w1) : Below w.heap.size w w1 := by
 obtain ⟨os, rfl⟩ := h
 exact ⟨rfl, rfl, rfl, by rw [Sort.size_grow]; omega, fun k hk => Sort.heap_grow_old w os hk⟩
def lessI (x0 x1 y0 y1 : Int) : Bool := decide (x0 < y0) || (decide (x0 = y0) && decide (x1 < y1))
def cmpI (x0 x1 y0 y1 : Int) : Int := if lessI x0 x1 y0 y1 = true then -1 else if lessI y0 y1 x0 x1 = true then 1 else 0
theorem less_w (x0 x1 y0 y1 : Int) (W : World) : Calls Tryz.prog 122 #[.agg #[.int .i64 x0, .int .i64 x1], .agg #[.int .i64 y0, .int .i64 y1]] W fun e w' => e = .returned (.bool (lessI x0 x1 y0 y1)) ∧ Gr W w' := by
 have hu47 := Tryz.underlying47
 have GR := As0 (Gr.refl W)
 by_cases c3 : x0 < y0
 ·have r : lessI x0 x1 y0 y1 = true := by simp [lessI, c3]
  have c3b0 := decide_eq_true c3
  rw [r]
  clear c3
  go_enter Tryz.func122, Tryz.ntmps122
  go_wp2_with (first | ((with_reducible refine gD 2 ?_); refine bXe (N := 2) (cs := #[.int .i64 x0, .int .i64 x1]) (t := 47) ?_; intro gX hg w1 he hbox; have X := As0 hbox; (obtain ⟨z0, z1, u0, u1⟩ := cN2 X.out); replace GR := As0 (he ▸ GR.out.alloc _); clear he hbox hg) | ((with_reducible refine gD 3 ?_); refine bXe (N := 3) (cs := #[.int .i64 y0, .int .i64 y1]) (t := 47) ?_; intro gY hg w1 he hbox; (try (replace X := As0 (he ▸ Qbw X.out _); clear z0 z1 u0 u1; (obtain ⟨z0, z1, u0, u1⟩ := cN2 X.out))); have Y := As0 hbox; (obtain ⟨e0, e1, d0, d1⟩ := cN2 Y.out); replace GR := As0 (he ▸ GR.out.alloc _); clear he hbox hg))
  go_ret
  exact ⟨rfl, GR.out⟩
 ·have c3b0 := decide_eq_false c3
  by_cases c9 : x0 = y0
  ·have r : lessI x0 x1 y0 y1 = decide (x1 < y1) := by simp [lessI, c9]
   have c9b0 : (x0 == y0) = true := beq_iff_eq.mpr c9
   rw [r]
   clear c3 c9
   go_enter Tryz.func122, Tryz.ntmps122
   go_wp2_with (first | ((with_reducible refine gD 2 ?_); refine bXe (N := 2) (cs := #[.int .i64 x0, .int .i64 x1]) (t := 47) ?_; intro gX hg w1 he hbox; have X := As0 hbox; (obtain ⟨z0, z1, u0, u1⟩ := cN2 X.out); replace GR := As0 (he ▸ GR.out.alloc _); clear he hbox hg) | ((with_reducible refine gD 3 ?_); refine bXe (N := 3) (cs := #[.int .i64 y0, .int .i64 y1]) (t := 47) ?_; intro gY hg w1 he hbox; (try (replace X := As0 (he ▸ Qbw X.out _); clear z0 z1 u0 u1; (obtain ⟨z0, z1, u0, u1⟩ := cN2 X.out))); have Y := As0 hbox; (obtain ⟨e0, e1, d0, d1⟩ := cN2 Y.out); replace GR := As0 (he ▸ GR.out.alloc _); clear he hbox hg))
   go_ret
   exact ⟨rfl, GR.out⟩
  ·have r : lessI x0 x1 y0 y1 = false := by simp [lessI, c3, c9]
   have c9b0 : (x0 == y0) = false := beq_eq_false_iff_ne.mpr c9
   rw [r]
   clear c3 c9
   go_enter Tryz.func122, Tryz.ntmps122
   go_wp2_with (first | ((with_reducible refine gD 2 ?_); refine bXe (N := 2) (cs := #[.int .i64 x0, .int .i64 x1]) (t := 47) ?_; intro gX hg w1 he hbox; have X := As0 hbox; (obtain ⟨z0, z1, u0, u1⟩ := cN2 X.out); replace GR := As0 (he ▸ GR.out.alloc _); clear he hbox hg) | ((with_reducible refine gD 3 ?_); refine bXe (N := 3) (cs := #[.int .i64 y0, .int .i64 y1]) (t := 47) ?_; intro gY hg w1 he hbox; (try (replace X := As0 (he ▸ Qbw X.out _); clear z0 z1 u0 u1; (obtain ⟨z0, z1, u0, u1⟩ := cN2 X.out))); have Y := As0 hbox; (obtain ⟨e0, e1, d0, d1⟩ := cN2 Y.out); replace GR := As0 (he ▸ GR.out.alloc _); clear he hbox hg))
   go_ret
   exact ⟨rfl, GR.out⟩
theorem compare_w (x0 x1 y0 y1 : Int) (W : World) : Calls Tryz.prog 117 #[.agg #[.int .i64 x0, .int .i64 x1], .agg #[.int .i64 y0, .int .i64 y1]] W fun e w' => e = .returned (.int .i64 (cmpI x0 x1 y0 y1)) ∧ Gr W w' := by
 have hu47 := Tryz.underlying47
 have GR := As0 (Gr.refl W)
 cases c3 : lessI x0 x1 y0 y1 with
 | true =>
  have r : cmpI x0 x1 y0 y1 = -1 := by simp [cmpI, c3]
  rw [r]
  go_enter Tryz.func117, Tryz.ntmps117
  go_wp2_with (first | ((with_reducible refine gD 2 ?_); refine bXe (N := 2) (cs := #[.int .i64 x0, .int .i64 x1]) (t := 47) ?_; intro gX hg w1 he hbox; have X := As0 hbox; (obtain ⟨z0, z1, u0, u1⟩ := cN2 X.out); replace GR := As0 (he ▸ GR.out.alloc _); clear he hbox hg) | ((with_reducible refine gD 3 ?_); refine bXe (N := 3) (cs := #[.int .i64 y0, .int .i64 y1]) (t := 47) ?_; intro gY hg w1 he hbox; (try (replace X := As0 (he ▸ Qbw X.out _); clear z0 z1 u0 u1; (obtain ⟨z0, z1, u0, u1⟩ := cN2 X.out))); have Y := As0 hbox; (obtain ⟨e0, e1, d0, d1⟩ := cN2 Y.out); replace GR := As0 (he ▸ GR.out.alloc _); clear he hbox hg) | (go_at_call 122; refine (less_w _ _ _ _ _).mono ?_; rintro e w2 ⟨rfl, hb⟩; (first | rw [c3] | rw [c4]); clear z0 z1 u0 u1 e0 e1 d0 d1; replace X := As0 (Qbl X.out hb.below); replace Y := As0 (Qbl Y.out hb.below); (obtain ⟨z0, z1, u0, u1⟩ := cN2 X.out); (obtain ⟨e0, e1, d0, d1⟩ := cN2 Y.out); replace GR := As0 (GR.out.trans hb); clear hb))
  go_ret
  exact ⟨rfl, GR.out⟩
 | false =>
  cases c4 : lessI y0 y1 x0 x1 with
  | true =>
   have r : cmpI x0 x1 y0 y1 = 1 := by simp [cmpI, c3, c4]
   rw [r]
   go_enter Tryz.func117, Tryz.ntmps117
   go_wp2_with (first | ((with_reducible refine gD 2 ?_); refine bXe (N := 2) (cs := #[.int .i64 x0, .int .i64 x1]) (t := 47) ?_; intro gX hg w1 he hbox; have X := As0 hbox; (obtain ⟨z0, z1, u0, u1⟩ := cN2 X.out); replace GR := As0 (he ▸ GR.out.alloc _); clear he hbox hg) | ((with_reducible refine gD 3 ?_); refine bXe (N := 3) (cs := #[.int .i64 y0, .int .i64 y1]) (t := 47) ?_; intro gY hg w1 he hbox; (try (replace X := As0 (he ▸ Qbw X.out _); clear z0 z1 u0 u1; (obtain ⟨z0, z1, u0, u1⟩ := cN2 X.out))); have Y := As0 hbox; (obtain ⟨e0, e1, d0, d1⟩ := cN2 Y.out); replace GR := As0 (he ▸ GR.out.alloc _); clear he hbox hg) | (go_at_call 122; refine (less_w _ _ _ _ _).mono ?_; rintro e w2 ⟨rfl, hb⟩; (first | rw [c3] | rw [c4]); clear z0 z1 u0 u1 e0 e1 d0 d1; replace X := As0 (Qbl X.out hb.below); replace Y := As0 (Qbl Y.out hb.below); (obtain ⟨z0, z1, u0, u1⟩ := cN2 X.out); (obtain ⟨e0, e1, d0, d1⟩ := cN2 Y.out); replace GR := As0 (GR.out.trans hb); clear hb) | (go_at_call 122; refine (less_w _ _ _ _ _).mono ?_; rintro e w2 ⟨rfl, hb⟩; (first | rw [c3] | rw [c4]); clear z0 z1 u0 u1 e0 e1 d0 d1; replace X := As0 (Qbl X.out hb.below); replace Y := As0 (Qbl Y.out hb.below); (obtain ⟨z0, z1, u0, u1⟩ := cN2 X.out); (obtain ⟨e0, e1, d0, d1⟩ := cN2 Y.out); replace GR := As0 (GR.out.trans hb); clear hb))
   go_ret
   exact ⟨rfl, GR.out⟩
  | false =>
   have r : cmpI x0 x1 y0 y1 = 0 := by simp [cmpI, c3, c4]
   rw [r]
   go_enter Tryz.func117, Tryz.ntmps117
   go_wp2_with (first | ((with_reducible refine gD 2 ?_); refine bXe (N := 2) (cs := #[.int .i64 x0, .int .i64 x1]) (t := 47) ?_; intro gX hg w1 he hbox; have X := As0 hbox; (obtain ⟨z0, z1, u0, u1⟩ := cN2 X.out); replace GR := As0 (he ▸ GR.out.alloc _); clear he hbox hg) | ((with_reducible refine gD 3 ?_); refine bXe (N := 3) (cs := #[.int .i64 y0, .int .i64 y1]) (t := 47) ?_; intro gY hg w1 he hbox; (try (replace X := As0 (he ▸ Qbw X.out _); clear z0 z1 u0 u1; (obtain ⟨z0, z1, u0, u1⟩ := cN2 X.out))); have Y := As0 hbox; (obtain ⟨e0, e1, d0, d1⟩ := cN2 Y.out); replace GR := As0 (he ▸ GR.out.alloc _); clear he hbox hg) | (go_at_call 122; refine (less_w _ _ _ _ _).mono ?_; rintro e w2 ⟨rfl, hb⟩; (first | rw [c3] | rw [c4]); clear z0 z1 u0 u1 e0 e1 d0 d1; replace X := As0 (Qbl X.out hb.below); replace Y := As0 (Qbl Y.out hb.below); (obtain ⟨z0, z1, u0, u1⟩ := cN2 X.out); (obtain ⟨e0, e1, d0, d1⟩ := cN2 Y.out); replace GR := As0 (GR.out.trans hb); clear hb) | (go_at_call 122; refine (less_w _ _ _ _ _).mono ?_; rintro e w2 ⟨rfl, hb⟩; (first | rw [c3] | rw [c4]); clear z0 z1 u0 u1 e0 e1 d0 d1; replace X := As0 (Qbl X.out hb.below); replace Y := As0 (Qbl Y.out hb.below); (obtain ⟨z0, z1, u0, u1⟩ := cN2 X.out); (obtain ⟨e0, e1, d0, d1⟩ := cN2 Y.out); replace GR := As0 (GR.out.trans hb); clear hb))
   go_ret
   exact ⟨rfl, GR.out⟩
attribute [local go_sem high] eqA47
def Qci (x y : S47) : Bool := lessI x.f0 x.f1 y.f0 y.f1
theorem Qdh (x y : S47) : Qci x y = true ↔ x.f0 < y.f0 ∨ (x.f0 = y.f0 ∧ x.f1 < y.f1) := by simp [Qci, lessI]
theorem Qed (x y : S47) : Qci x y = false ↔ ¬ (x.f0 < y.f0 ∨ (x.f0 = y.f0 ∧ x.f1 < y.f1)) := by rw [← Qdh]; simp
def Asc (l : List S47) : Prop := l.Pairwise (fun x y => Qci x y = true)
instance : Inhabited S47 := ⟨z47⟩
def enc47 (x : S47) : List Value := [.int .i64 x.f0, .int .i64 x.f1]
def cmp47 (x y : S47) : Int := cmpI x.f0 x.f1 y.f0 y.f1
theorem lt47 (x y : S47) : ltOf cmp47 x y = Qci x y := by
 unfold ltOf cmp47 cmpI
 show decide ((if Qci x y = true then (-1 : Int) else if Qci y x = true then 1 else 0) < 0) = Qci x y
 cases h : Qci x y with
 | true => simp
 | false => cases h2 : Qci y x <;> simp
theorem swo47 : Sort.SWO (ltOf cmp47) where
 irrefl x := by rw [lt47, Qed]; omega
 trans x y z h1 h2 := by rw [lt47, Qdh] at *; omega
 ntrans x y z h1 h2 := by rw [lt47, Qed] at *; omega
theorem tot47 (x y : S47) (h1 : ltOf cmp47 x y = false) (h2 : ltOf cmp47 y x = false) : x = y := by
 rw [lt47, Qed] at *
 cases x; cases y
 simp only [S47.mk.injEq]
 constructor <;> (simp only at h1 h2; omega)
theorem Asc.merge {l : List S47} (h : Asc l) : (l.mergeSort fun x y => !(ltOf cmp47) y x) = l := by
 refine List.mergeSort_of_pairwise (List.Pairwise.imp (fun {x y} hxy => ?_) h)
 rw [lt47]
 have : Qci y x = false := by rw [Qed]; rw [Qdh] at hxy; omega
 rw [this]; rfl
theorem Gr.drewN {w : World} (n : Nat) (os : Array Obj) : Below w.heap.size w (Sort.grow (w.drewN n) os) :=
 ⟨rfl, rfl, rfl, by rw [Sort.size_grow]; show w.heap.size ≤ w.heap.size + os.size; omega, fun k hk => Sort.heap_grow_old (w.drewN n) os hk⟩
theorem cmpLays47 (blk off size : Nat) (w : World) : CmpLays Tryz.prog 117 #[] enc47 2 cmp47 blk off size w :=
 fun _ _ _ _ x y => (compare_w x.f0 x.f1 y.f0 y.f1 _).mono fun _ _ ⟨he, os, hw⟩ => ⟨he, 0, os, hw⟩
theorem holds47 {w : World} {g cap : Nat} {cur : Array Value} {l : List S47} (hg : w.heap[g]? = some (.cells cur 47 (0, 0))) (hC : Kd.C k47 w (some ⟨g, 0, none⟩) l.length l) : Go.Sort.HoldsK enc47 2 w g 0 l.toArray := by
 intro j hj
 rw [Go.Sort.size_flatK] at hj
 simp only [List.size_toArray] at hj
 have hi : j / 2 < l.length := by omega
 obtain ⟨ad, e, h0, h1⟩ := Qcs hC ((j / 2 : Nat) : Int) (Int.natCast_nonneg _) (by omega)
 cases e
 simp only [Int.toNat_natCast] at h0 h1
 have key : ∀ q : Nat, q < l.length → Qaa l (q : Int) = l.toArray[q]! := by
  intro q hq
  have h2 : (l.toArray)[q]! = l[q] := by simp [hq]
  rw [h2]; simp [Qaa, List.getD_eq_getElem?_getD, hq]
 rw [key _ hi, Addr.add_lit] at h0
 rw [key _ hi, Addr.add_lit] at h1
 dsimp only at h1
 rw [Nat.zero_add] at h0 h1
 rw [Go.Sort.get_flatK _ _ _ _ (by simpa using hj)]
 refine ⟨?_, Qbp hg _⟩
 rcases Nat.mod_two_eq_zero_or_one j with h | h
 ·rw [h, show 0 + j = j / 2 * 2 by omega]
  exact h0
 ·rw [h, show 0 + j = j / 2 * 2 + 1 by omega]
  exact h1
theorem agg47 : ∀ w, (isAgg (Tryz.tzSort_ren.t 24)).run Tryz.prog w = .ok true w := Tryz.isAgg47
theorem siz47 : ∀ w, (Go.sizeOf (Tryz.tzSort_ren.t 24)).run Tryz.prog w = .ok 2 w := Tryz.sizeOf47
theorem sort_calls {base : Nat} {ok : Nat → Prop} (v : Value) (l : List S47) (w : World) (hR : Kd.R k47 47 w base ok v l) (hs : Asc l) (hl : l.length < 8796093022208) :
    Calls Tryz.prog 116 #[v, .func (.func 117) #[] #[]] w fun e w' => e = .returned (.tuple #[]) ∧ Below w.heap.size w w' := by
 obtain ⟨inner, hlen, h | ⟨g, cap, cur, rfl, hb, hg, hle, hmx, hsz, htk⟩⟩ := Kd.R_own hR
 ·obtain ⟨rfl, h0⟩ := h
  have := AnyF.slices_SortFunc_none (P := Tryz.prog) (ρ := Tryz.tzSort_ren) Tryz.tzSort none 0 (.func (.func 117) #[] #[]) w
  exact this.mono fun _ _ ⟨he, hw⟩ => ⟨he, by rw [hw]; exact Below.refl _ _⟩
 ·have hC := (Kd.R_reads' hR).2.2
  have hH := holds47 (cap := cap) hg hC
  have hblk : g < w.heap.size := Qby hg
  have := AnyQ.slices_SortFunc_total (P := Tryz.prog) (ρ := Tryz.tzSort_ren) Tryz.tzSort 2 agg47 siz47 enc47 (fun _ => rfl) (fun x v hv => by simp [enc47] at hv; rcases hv with rfl | rfl <;> rfl) cmp47 swo47 117 #[] g 0 cap l.toArray w (enters_of Tryz.func117 (by kernel_rfl) rfl) (cmpLays47 g 0 l.toArray.size w) hH hblk (by simp; omega) tot47
  change Calls Tryz.prog 116 _ _ _ at this
  rw [show l.toArray.toList = l from rfl, hs.merge] at this
  simp only [List.size_toArray] at this
  refine this.mono ?_
  rintro e w' ⟨he, n, os, rfl⟩
  refine ⟨he, ?_⟩
  unfold sortWorldK
  rw [Go.Sort.putRowK_self enc47 2 _ _ _ _ (Go.Sort.holdsK_ahead enc47 2 w n g 0 _ hH)]
  exact Gr.drewN n os
theorem clone_calls (w : World) (A : Option Addr) (c : Nat) (l : List S47) (hC : Kd.C k47 w A l.length l) (hl : l.length < 8796093022208) :
    Calls Tryz.prog 115 #[.slice A l.length c] w fun e w' => ∃ v, e = .returned v ∧ Kd.R k47 47 w' w.heap.size (fun _ => True) v l ∧ Below w.heap.size w w' := by
 have hu44 := Tryz.underlying44
 have hu47 := Tryz.underlying47
 have HC := Qbk.mk hC
 have hq : ∀ (w : World) (a : Option Addr) (n c : Nat), (binOp .eql 44 (.slice a n c) (.slice none 0 0)).run Tryz.prog w = .ok (.bool a.isNone) w := fun w a n c => Lib.run_eql_slice_nil w 44 47 a n c 0 0 Tryz.underlying44
 cases A with
 | none =>
  have h0 : l = [] := by
   rcases l with _ | ⟨x, xs⟩
   ·rfl
   ·obtain ⟨ad, h, _⟩ := hC.2.2 (by simp)
    cases h
  subst h0
  clear hC
  go_enter Tryz.func115, Tryz.ntmps115
  go_wp2
  go_ret
  exact ⟨_, rfl, Kd.R_nil _ _ _ _ _, Below.refl _ _⟩
 | some ad =>
  clear hC
  go_enter Tryz.func115, Tryz.ntmps115
  go_wp2_with (first
   | ((with_reducible refine gD 5 ?_); refine Kd.R_lit k47 w.heap.size 47 rfl (N := 5) rfl (xs := ([] : List S47)) (inner := []) (ok := fun _ => True) (okp := fun _ => True) (by first | (go_simp; done) | (go_simp; rfl)) (Reps.none _ _) (fun _ hk => hk) trivial (Below.refl _ _) (Nat.le_refl _) (by simp) ?_; intro v1 w1 R1 HB1 HG1 HA1)
   | ((with_reducible refine Qce (b := .append) rfl ?_); go_loud (refine Kd.R_append_rows k47 (w0 := w) w.heap.size rfl (.tmp 5) (.tmp 6) 44 47 (.agg #[(.int .i64 0), (.int .i64 0)]) 16 rfl Tryz.underlying44 Qc5 rfl (by decide) (by decide) v1 [] l _ _ _ (fun _ => True) (fun _ => False) rfl rfl R1 (Kd.C_below HC.out HB1) (fun _ _ h => h) (fun _ h => h.elim) (fun _ _ => trivial) HB1 HB1.size (by simp only [List.length_nil]; omega) ?_); intro v2 w2 R2 HB2 HG2 HA2))
  all_goals go_ret
  all_goals exact ⟨_, rfl, R2, HB2⟩
theorem compact_calls (w : World) (A : Option Addr) (c : Nat) (l : List S47) (hC : Kd.C k47 w A l.length l) (hc : l.length ≤ c) (hs : Asc l) (hl : l.length < 8796093022208) :
    Calls Tryz.prog 118 #[.slice A l.length c] w fun e w' => e = .returned (.slice A l.length c) ∧ Below w.heap.size w w' := by
 have hu44 := Tryz.underlying44
 have hu47 := Tryz.underlying47
 have HC := As0 hC
 have HS := As0 hs
 have HL := As0 hl
 have HB := As0 (Below.refl w.heap.size w)
 clear hC hs hl
 by_cases h2 : l.length < 2
 ·have h2' : (l.length : Int) < 2 := by omega
  clear HC
  go_enter Tryz.func118, Tryz.ntmps118
  go_wp2
  go_ret
  exact ⟨rfl, HB.out⟩
 ·have h2' : ¬ (l.length : Int) < 2 := by omega
  go_enter Tryz.func118, Tryz.ntmps118
  go_wp2
  go_loopg [3] (l.length + 1) (fun g v3 w' => ∃ i : Nat, v3 = .int .i64 (i : Int) ∧ Qbk (1 ≤ i ∧ i ≤ l.length ∧ l.length - i < g) ∧ Qbk (Below w.heap.size w w'))
  case atStart => exact ⟨1, rfl, ⟨by omega, by omega, by omega⟩, ⟨BU HB.out⟩⟩
  case round =>
   clear HB
   obtain ⟨i, rfl, HI, HB⟩ := hrel
   have hi1 := HI.out.1
   by_cases hi : i < l.length
   ·have hlt : (i : Int) < (l.length : Int) := by omega
    have hlt1 : (i : Int) - 1 < (l.length : Int) := by omega
    have h0 : (0 : Int) ≤ (i : Int) := by omega
    have h01 : (0 : Int) ≤ (i : Int) - 1 := by omega
    obtain ⟨ad, e, hx0, hx1⟩ := Qcs HC.out i h0 hlt
    cases e
    obtain ⟨ad', e', hy0, hy1⟩ := Qcs HC.out ((i : Int) - 1) h01 hlt1
    cases e'
    replace hx0 := cl HB hx0
    replace hx1 := cl HB hx1
    replace hy0 := cl HB hy0
    replace hy1 := cl HB hy1
    have hw : wrap64 ((i : Int) + 1) = ((i + 1 : Nat) : Int) := by have := HL.out; unfold wrap64; omega
    have hw1 : wrap64 ((i : Int) - 1) = (i : Int) - 1 := by have := HL.out; unfold wrap64; omega
    have hne : ((Qaa l i).f0 == (Qaa l ((i : Int) - 1)).f0 && ((Qaa l i).f1 == (Qaa l ((i : Int) - 1)).f1)) = false := by
     have h1 := (List.pairwise_iff_getElem.mp HS.out) (i - 1) i (by omega) hi (by omega)
     have e1 : Qaa l (i : Int) = l[i] := by simp [Qaa, List.getD_eq_getElem?_getD, hi]
     have e2 : Qaa l ((i : Int) - 1) = l[i - 1] := by
      have : ((i : Int) - 1).toNat = i - 1 := by omega
      simp [Qaa, List.getD_eq_getElem?_getD, this, show i - 1 < l.length by omega]
     rw [e1, e2]
     rw [Qdh] at h1
     simp
     omega
    have e3 : ((i : Int) - 1).toNat = i - 1 := by omega
    rw [e3] at hy0 hy1
    simp only [Int.toNat_natCast] at hx0 hx1
    generalize Qaa l (i : Int) = p at hx0 hx1 hne
    generalize Qaa l ((i : Int) - 1) = q at hy0 hy1 hne
    go_wp2
    go_region
    go_wp2
    go_roundg (l.length - i)
    case measure => have := HI.out; omega
    case rel => exact ⟨i + 1, by rw [hw], ⟨by omega, by omega, by omega⟩, ⟨BU HB.out⟩⟩
   ·have hi' : i = l.length := by have := HI.out; omega
    subst hi'
    go_wp2
    go_ret
    exact ⟨rfl, BU HB.out⟩
theorem Qes (w : World) (A : Option Addr) (c : Nat) (l : List S47) (hC : Kd.C k47 w A l.length l) (hs : Asc l) (hl : l.length < 8796093022208) :
    Calls Tryz.prog 65 #[.slice A l.length c] w fun e w' => ∃ v, e = .returned v ∧ Kd.R k47 47 w' w.heap.size (fun _ => True) v l ∧ Below w.heap.size w w' := by
 have HC := As0 hC
 clear hC
 go_enter Tryz.func65, Tryz.ntmps65
 go_wp2_with (first
  | (go_at_call 115; refine (clone_calls _ A c l HC.out hl).mono ?_; rintro e w1 ⟨v1, rfl, ho, hb⟩; have HO := As0 ho; have HB := As0 hb; clear ho hb)
  | (go_at_call 116; refine (sort_calls v1 l _ HO.out hs hl).mono ?_; rintro e w2 ⟨rfl, hb⟩; replace HO := As0 (Kd.R_below HO.out hb); replace HB := sB HB hb; (obtain ⟨A1, c1, e1, hc1, C1⟩ := Kd.R_reads HO.out); subst e1; replace C1 := As0 C1; clear hb)
  | (go_at_call 118; refine (compact_calls _ A1 c1 l C1.out hc1 hs hl).mono ?_; rintro e w3 ⟨rfl, hb⟩; replace HO := As0 (Kd.R_below HO.out hb); replace HB := sB HB hb; clear hb))
 go_ret
 exact ⟨_, rfl, RU HO.out, BU HB.out⟩
theorem put2 {w : World} {g t : Nat} {a0 a1 b0 b1 : Value} (h : w.heap[g]? = some (.cells #[a0, a1] t (0, 0))) : ((w.setCell ⟨g, 0, none⟩ b0).setCell ⟨g, 1, none⟩ b1).heap[g]? = some (.cells #[b0, b1] t (0, 0)) :=
 Qbt (cs := #[b0, a1]) (Qbt (cs := #[a0, a1]) h 0 _ rfl) 1 _ rfl
theorem copy1 (d a p0 p1 : Int) (g1 g2 : Nat) (W : World) (h1 : W.heap[g1]? = some (.cells #[.int .i64 d] 3 (0, 0))) (h2 : W.heap[g2]? = some (.cells #[.int .i64 a] 3 (0, 0))) :
    Calls Tryz.prog 186 #[.agg #[.int .i64 p0, .int .i64 p1], .pointer (some ⟨g1, 0, none⟩), .pointer (some ⟨g2, 0, none⟩)] W fun e w' => e = .returned (.tuple #[.agg #[.int .i64 d, .int .i64 p1], .bool (p0 == a)]) ∧ Below W.heap.size W w' := by
 have hu47 := Tryz.underlying47
 have H1 := As0 h1
 have H2 := As0 h2
 clear h1 h2
 have HB := As0 (Below.refl W.heap.size W)
 go_enter Tryz.func186, Tryz.ntmps186
 go_wp2_with (first
  | ((with_reducible refine gD 3 ?_); refine bX ?_; intro gb hg w1 hbox hb; have X := As0 hbox; replace HB := sB HB hb; replace H1 := As0 (Qbl H1.out hb); replace H2 := As0 (Qbl H2.out hb); clear hb hbox hg)
  | ((with_reducible refine gD 4 ?_); go_loud (refine bX ?_); intro gc hg w2 hbox hb; have nb : gb ≠ gc := (by have q := Qby X.out; omega); have n1 : g1 ≠ gc := (by have q := Qby H1.out; omega); have n2 : g2 ≠ gc := (by have q := Qby H2.out; omega); have mb := nb.symm; have m1 := n1.symm; have m2 := n2.symm; have Y := As0 hbox; have GY := As0 (by have q := Qbm HB.out; omega : W.heap.size ≤ gc); replace HB := sB HB hb; replace H1 := As0 (Qbl H1.out hb); replace H2 := As0 (Qbl H2.out hb); replace X := As0 (Qbl X.out hb); (obtain ⟨z0, z1, y0, y1⟩ := cN2 X.out); (obtain ⟨e0, e1, f0, f1⟩ := cN2 Y.out); have c0 := (Qbn H1.out 0).trans rfl; have c1 := (Qbn H2.out 0).trans rfl; clear hb hbox hg))
 go_region
 go_wp2
 exact bodyPost_ret (Qch rfl _ _ gc 47 #[.int .i64 d, .int .i64 p1] (0, 0) _ rfl (by repeat (refine Qbr ?_); exact put2 Y.out) Tryz.underlying47 rfl (by kernel_rfl)) rfl ⟨rfl, BU HB.out⟩
theorem move1 (d a p0 p1 : Int) (g1 g2 : Nat) (W : World) (h1 : W.heap[g1]? = some (.cells #[.int .i64 d] 45 (0, 0))) (h2 : W.heap[g2]? = some (.cells #[.int .i64 a] 45 (0, 0))) :
    Calls Tryz.prog 188 #[.agg #[.int .i64 p0, .int .i64 p1], .pointer (some ⟨g1, 0, none⟩), .pointer (some ⟨g2, 0, none⟩)] W fun e w' => e = .returned (.tuple #[.agg #[.int .i64 p0, .int .i64 d], .bool (p1 == a)]) ∧ Below W.heap.size W w' := by
 have hu47 := Tryz.underlying47
 have H1 := As0 h1
 have H2 := As0 h2
 clear h1 h2
 have HB := As0 (Below.refl W.heap.size W)
 go_enter Tryz.func188, Tryz.ntmps188
 go_wp2_with (first
  | ((with_reducible refine gD 3 ?_); refine bX ?_; intro gb hg w1 hbox hb; have X := As0 hbox; replace HB := sB HB hb; replace H1 := As0 (Qbl H1.out hb); replace H2 := As0 (Qbl H2.out hb); clear hb hbox hg)
  | ((with_reducible refine gD 4 ?_); go_loud (refine bX ?_); intro gc hg w2 hbox hb; have nb : gb ≠ gc := (by have q := Qby X.out; omega); have n1 : g1 ≠ gc := (by have q := Qby H1.out; omega); have n2 : g2 ≠ gc := (by have q := Qby H2.out; omega); have mb := nb.symm; have m1 := n1.symm; have m2 := n2.symm; have Y := As0 hbox; have GY := As0 (by have q := Qbm HB.out; omega : W.heap.size ≤ gc); replace HB := sB HB hb; replace H1 := As0 (Qbl H1.out hb); replace H2 := As0 (Qbl H2.out hb); replace X := As0 (Qbl X.out hb); (obtain ⟨z0, z1, y0, y1⟩ := cN2 X.out); (obtain ⟨e0, e1, f0, f1⟩ := cN2 Y.out); have c0 := (Qbn H1.out 0).trans rfl; have c1 := (Qbn H2.out 0).trans rfl; clear hb hbox hg))
 go_region
 go_wp2
 exact bodyPost_ret (Qch rfl _ _ gc 47 #[.int .i64 p0, .int .i64 d] (0, 0) _ rfl (by repeat (refine Qbr ?_); exact put2 Y.out) Tryz.underlying47 rfl (by kernel_rfl)) rfl ⟨rfl, BU HB.out⟩
theorem rename_calls (k : Nat) (K1 : S47 → S47) (K2 : S47 → Bool) (fv : Nat) (cap : Array Value) (vk : Value) (kept : List S47) (b0 : Nat) (ok0 : Nat → Prop) (A : Option Addr) (c : Nat) (l r : List S47) (w : World) (hk : Kd.R k47 47 w b0 ok0 vk kept) (hr : Kd.C k47 w A l.length l) (hc : l.length ≤ c) (hl : l.length < 8796093022208)
    (eg : ∀ args w, (callFunc fv args).run Tryz.prog w = .ok (.enter fv args) w)
    (hK : ∀ W, Below w.heap.size w W → ∀ p : S47, Calls Tryz.prog fv (#[.agg #[.int .i64 p.f0, .int .i64 p.f1]] ++ cap) W fun e w' => e = .returned (.tuple #[.agg #[.int .i64 (K1 p).f0, .int .i64 (K1 p).f1], .bool (K2 p)]) ∧ Below W.heap.size W w')
    (hs : Asc ((l.filter K2).map K1)) (hu : Qae.f k kept ((l.filter K2).map K1) = some r) :
    Calls Tryz.prog 184 #[vk, .slice A l.length c, .func (.func fv) #[] cap] w fun e w' => ∃ v, e = .returned v ∧ Kd.R k47 47 w' w.heap.size (fun _ => True) v r ∧ Below w.heap.size w w' := by
 have hu47 := Tryz.underlying47
 have hu44 := Tryz.underlying44
 have HV := As0 hk
 have HR := As0 hr
 have HL := As0 hl
 have HK := As0 hK
 have HS := As0 hs
 have HU := As0 hu
 clear hk hr hl hK hs hu
 have HB := As0 (Below.refl w.heap.size w)
 go_enter Tryz.func184, Tryz.ntmps184
 go_wp2
 go_loopg [7, 14] (l.length + 1) (fun g v7 v14 w' => ∃ i : Nat, v14 = .int .i64 (i : Int) ∧ Qbk (i ≤ l.length ∧ l.length - i < g) ∧ Qbk (Kd.R k47 47 w' w.heap.size (fun _ => True) v7 (((l.take i).filter K2).map K1)) ∧ Qbk (Below w.heap.size w w'))
 case atStart => exact ⟨0, rfl, ⟨by omega, by omega⟩, ⟨Kd.R_nil _ _ _ _ _⟩, ⟨BU HB.out⟩⟩
 case round =>
  clear HB
  obtain ⟨i, rfl, HI, HO, HB⟩ := hrel
  by_cases hi : i < l.length
  ·have hlt : (i : Int) < (l.length : Int) := by omega
   have h0 : (0 : Int) ≤ (i : Int) := by omega
   obtain ⟨ad, e, hx0, hx1⟩ := Qcs HR.out i h0 hlt
   cases e
   replace hx0 := cl HB hx0
   replace hx1 := cl HB hx1
   have hw : wrap64 ((i : Int) + 1) = ((i + 1 : Nat) : Int) := by have := HL.out; unfold wrap64; omega
   have hp : Qaa l (i : Int) = l[i] := by simp [Qaa, List.getD_eq_getElem?_getD, hi]
   rw [hp] at hx0 hx1
   simp only [Int.toNat_natCast] at hx0 hx1
   have htk : l.take (i + 1) = l.take i ++ [l[i]] := by simp [List.take_append_getElem, hi]
   generalize l[i] = p at hx0 hx1 htk
   clear hp
   have HT := As0 htk
   clear htk
   cases hq : K2 p with
   | true =>
    go_wp2_with (first
     | ((with_reducible refine gD 9 ?_); refine bX ?_; intro gb hg w2 hbox hb; have X := As0 hbox; have GE := As0 (by rw [hg]; exact Qbm (BU HB.out) : w.heap.size ≤ gb); replace HO := As0 (Kd.R_mono (Kd.R_below (Kd.R_elderB (RU HO.out) gb (Nat.le_of_eq hg.symm)) hb) (fun _ hk => hk.2) : Kd.R k47 47 w2 w.heap.size (fun k_ => k_ ≠ gb) u7 (((l.take i).filter K2).map K1)); replace HB := sB HB hb; clear hb hbox hg)
     | ((with_reducible refine Qdb (.store 47 (.tmp 9) (.tmp 17)) rfl ?_); go_loud (refine Qau rfl rfl 47 _ _ rfl gb #[.int .i64 p.f0, .int .i64 p.f1] rfl rfl 47 #[.int .i64 0, .int .i64 0] X.out (by kernel_rfl) rfl (by kernel_rfl) ?_); intro w3 hg ho hB; replace HO := As0 (Kd.R_step (RU HO.out) (fun k hk _ => ho k hk)); replace X := As0 hg; replace HB := As0 (hB _ _ GE.out HB.out); (obtain ⟨z0, z1, y0, y1⟩ := cN2 X.out); clear hg ho hB)
     | (go_at_fn fv; refine (HK.out _ (BU HB.out) p).mono ?_; rintro e w4 ⟨rfl, hb⟩; rw [hq]; clear z0 z1 y0 y1; replace HO := As0 (Kd.R_below (RU HO.out) hb); replace HB := sB HB hb; clear X hb)
     | ((with_reducible refine gD 10 ?_); refine bX ?_; intro gd hg w5 hbox hb; have Y := As0 hbox; have GF := As0 (by rw [hg]; exact Qbm (BU HB.out) : w.heap.size ≤ gd); replace HO := As0 (Kd.R_mono (Kd.R_below (Kd.R_elderB (RU HO.out) gd (Nat.le_of_eq hg.symm)) hb) (fun _ hk => hk.2) : Kd.R k47 47 w5 w.heap.size (fun k_ => k_ ≠ gd) u7 (((l.take i).filter K2).map K1)); replace HB := sB HB hb; clear hb hbox hg)
     | ((with_reducible refine Qdb (.store 47 (.tmp 10) (.tmp 22)) rfl ?_); go_loud (refine Qau rfl rfl 47 _ _ rfl gd #[.int .i64 (K1 p).f0, .int .i64 (K1 p).f1] rfl rfl 47 #[.int .i64 0, .int .i64 0] Y.out (by kernel_rfl) rfl (by kernel_rfl) ?_); intro w6 hg ho hB; replace HO := As0 (Kd.R_step (RU HO.out) (fun k hk _ => ho k hk)); replace Y := As0 hg; replace HB := As0 (hB _ _ GF.out HB.out); (obtain ⟨e0, e1, f0, f1⟩ := cN2 Y.out); clear hg ho hB)
     | ((with_reducible refine Qce (b := .append) (xs := #[.tmp 25, .tmp 27]) rfl ?_); (try (refine Qcm (by rfl) ?_; dsimp only)); at_builtin; refine Kd.R_append k47 (w0 := w) w.heap.size rfl (.tmp 25) (.tmp 27) 44 47 (.agg #[(.int .i64 0), (.int .i64 0)]) 16 rfl Tryz.underlying44 Qc5 rfl (by decide) (by omega) u7 (((l.take i).filter K2).map K1) (K1 p) [.int .i64 (K1 p).f0, .int .i64 (K1 p).f1] (fun k_ => k_ ≠ gd) (fun _ => False) rfl rfl (Qef _ _ _ (K1 p)) (fun _ hk => hk.elim) ?aF (RU HO.out) (BU HB.out) (Qbm (BU HB.out)) ?aL ?_; (case aF => exact (fun k_ hk => Kd.freshB (g := gd) (bU Y.out) k_ hk)); (case aL => have := HL.out; have := List.length_filter_le K2 (l.take i); have := List.length_take_le i l; rw [List.length_map]; omega); intro v7 w7 ho hb hg hat; replace HO := As0 ho; replace HB := As0 hb; clear ho hb hg hat))
    go_roundg (l.length - i)
    case measure => have := HI.out; omega
    case rel => exact ⟨i + 1, by rw [hw], ⟨by omega, by omega⟩, ⟨by rw [HT.out, List.filter_append, List.map_append, List.filter_cons_of_pos (by exact hq)]; exact Kd.R_mono (RU HO.out) (fun _ _ => trivial)⟩, ⟨BU HB.out⟩⟩
   | false =>
    go_wp2_with (first
     | ((with_reducible refine gD 9 ?_); refine bX ?_; intro gb hg w2 hbox hb; have X := As0 hbox; have GE := As0 (by rw [hg]; exact Qbm (BU HB.out) : w.heap.size ≤ gb); replace HO := As0 (Kd.R_mono (Kd.R_below (Kd.R_elderB (RU HO.out) gb (Nat.le_of_eq hg.symm)) hb) (fun _ hk => hk.2) : Kd.R k47 47 w2 w.heap.size (fun k_ => k_ ≠ gb) u7 (((l.take i).filter K2).map K1)); replace HB := sB HB hb; clear hb hbox hg)
     | ((with_reducible refine Qdb (.store 47 (.tmp 9) (.tmp 17)) rfl ?_); go_loud (refine Qau rfl rfl 47 _ _ rfl gb #[.int .i64 p.f0, .int .i64 p.f1] rfl rfl 47 #[.int .i64 0, .int .i64 0] X.out (by kernel_rfl) rfl (by kernel_rfl) ?_); intro w3 hg ho hB; replace HO := As0 (Kd.R_step (RU HO.out) (fun k hk _ => ho k hk)); replace X := As0 hg; replace HB := As0 (hB _ _ GE.out HB.out); (obtain ⟨z0, z1, y0, y1⟩ := cN2 X.out); clear hg ho hB)
     | (go_at_fn fv; refine (HK.out _ (BU HB.out) p).mono ?_; rintro e w4 ⟨rfl, hb⟩; rw [hq]; clear z0 z1 y0 y1; replace HO := As0 (Kd.R_below (RU HO.out) hb); replace HB := sB HB hb; clear X hb)
     | ((with_reducible refine gD 10 ?_); refine bX ?_; intro gd hg w5 hbox hb; have Y := As0 hbox; have GF := As0 (by rw [hg]; exact Qbm (BU HB.out) : w.heap.size ≤ gd); replace HO := As0 (Kd.R_mono (Kd.R_below (Kd.R_elderB (RU HO.out) gd (Nat.le_of_eq hg.symm)) hb) (fun _ hk => hk.2) : Kd.R k47 47 w5 w.heap.size (fun k_ => k_ ≠ gd) u7 (((l.take i).filter K2).map K1)); replace HB := sB HB hb; clear hb hbox hg)
     | ((with_reducible refine Qdb (.store 47 (.tmp 10) (.tmp 22)) rfl ?_); go_loud (refine Qau rfl rfl 47 _ _ rfl gd #[.int .i64 (K1 p).f0, .int .i64 (K1 p).f1] rfl rfl 47 #[.int .i64 0, .int .i64 0] Y.out (by kernel_rfl) rfl (by kernel_rfl) ?_); intro w6 hg ho hB; replace HO := As0 (Kd.R_step (RU HO.out) (fun k hk _ => ho k hk)); replace Y := As0 hg; replace HB := As0 (hB _ _ GF.out HB.out); (obtain ⟨e0, e1, f0, f1⟩ := cN2 Y.out); clear hg ho hB))
    go_roundg (l.length - i)
    case measure => have := HI.out; omega
    case rel => exact ⟨i + 1, by rw [hw], ⟨by omega, by omega⟩, ⟨by rw [HT.out, List.filter_append, List.map_append, List.filter_cons_of_neg (by rw [hq]; decide), List.filter_nil, List.map_nil, List.append_nil]; exact Kd.R_mono (RU HO.out) (fun _ _ => trivial)⟩, ⟨BU HB.out⟩⟩
  ·have hi' : i = l.length := by have := HI.out.1; omega
   subst hi'
   have O1 := HO.out
   rw [List.take_length] at O1
   obtain ⟨A1, c1, e1, hc1, C1⟩ := Kd.R_reads O1
   replace HO := As0 O1
   replace C1 := As0 C1
   clear O1
   subst e1
   replace HV := As0 (Kd.R_below HV.out HB.out)
   have HLM : ((l.filter K2).map K1).length < 8796093022208 := by have := HL.out; have := List.length_filter_le K2 l; rw [List.length_map]; omega
   generalize ((l.filter K2).map K1) = mr at *
   obtain ⟨A0, c0, e0⟩ := Kd.R_slice HV.out
   subst e0
   go_wp2_with (first
    | (go_at_call 65; refine (Qes _ A1 c1 mr C1.out HS.out HLM).mono ?_; rintro e w8 ⟨v8, rfl, ho, hb⟩; replace HO := As0 (Kd.R_lower ho (Qbm (BU HB.out))); replace HV := As0 (Kd.R_below (RU HV.out) hb); replace HB := sB HB hb; (obtain ⟨A2, c2, e2⟩ := Kd.R_slice HO.out); subst e2; clear ho hb)
    | (go_at_call 204; refine (Qae.calls k (fun _ => True) A0 c0 kept (fun _ => True) A2 c2 mr r _ (Kd.V_mono (Kd.R_V HV.out) (fun _ _ => trivial)) (Kd.V_mono (Kd.R_V HO.out) (fun _ _ => trivial)) HU.out).mono ?_; rintro e w9 ⟨v9, rfl, ho, hb⟩; replace HO := As0 (Kd.R_lower ho (Qbm (BU HB.out))); replace HB := sB HB hb; clear ho hb))
   go_ret
   exact ⟨_, rfl, Kd.R_mono (RU HO.out) (fun _ _ => trivial), BU HB.out⟩
theorem copy_same (A : Option Addr) (c : Nat) (l : List S47) (d : Int) (w : World) (hr : Kd.C k47 w A l.length l) (hs : Asc l) (hl : l.length < 8796093022208) :
    Calls Tryz.prog 157 #[.slice A l.length c, .int .i64 d, .int .i64 d] w fun e w' => ∃ u, e = .returned u ∧ Kd.R k47 47 w' w.heap.size (fun _ => True) u l ∧ Below w.heap.size w w' := by
 have hu44 := Tryz.underlying44
 have hu47 := Tryz.underlying47
 have HR := As0 hr
 have HS := As0 hs
 clear hr hs
 have HB := As0 (Below.refl w.heap.size w)
 have hq : (d == d) = true := beq_self_eq_true d
 go_enter Tryz.func157, Tryz.ntmps157
 go_wp2_with (first
  | ((with_reducible refine gD 4 ?_); refine bX ?_; intro g1 hg w1 hbox hb; have Xg1 := As0 hbox; replace HB := sB HB hb; replace HR := As0 (Kd.C_below HR.out hb); have cg1 := (Qbn Xg1.out 0).trans rfl; clear hb hbox hg)
  | ((with_reducible refine gD 5 ?_); refine bX ?_; intro g2 hg w2 hbox hb; have Xg2 := As0 hbox; replace HB := sB HB hb; replace HR := As0 (Kd.C_below HR.out hb); replace Xg1 := As0 (Qbl Xg1.out hb); clear cg1; have cg1 := (Qbn Xg1.out 0).trans rfl; have cg2 := (Qbn Xg2.out 0).trans rfl; clear hb hbox hg)
  | (go_at_call 65; refine (Qes _ A c l HR.out HS.out hl).mono ?_; rintro e w3 ⟨u, rfl, ho, hb⟩; have HO := As0 (Kd.R_lower ho (Qbm (BU HB.out))); replace HB := sB HB hb; clear ho hb))
 go_ret
 exact ⟨_, rfl, RU HO.out, BU HB.out⟩
theorem copy_other (k : Nat) (A : Option Addr) (c : Nat) (l r : List S47) (d a : Int) (w : World) (hda : d ≠ a) (hr : Kd.C k47 w A l.length l) (hc : l.length ≤ c) (hl : l.length < 8796093022208)
    (hs : Asc ((l.filter fun p => p.f0 == a).map fun p => (⟨d, p.f1⟩ : S47))) (hu : Qae.f k (l.filter fun p => p.f0 != d) ((l.filter fun p => p.f0 == a).map fun p => (⟨d, p.f1⟩ : S47)) = some r) :
    Calls Tryz.prog 157 #[.slice A l.length c, .int .i64 d, .int .i64 a] w fun e w' => ∃ u, e = .returned u ∧ Kd.R k47 47 w' w.heap.size (fun _ => True) u r ∧ Below w.heap.size w w' := by
 have hu44 := Tryz.underlying44
 have hu47 := Tryz.underlying47
 have HR := As0 hr
 have HS := As0 hs
 have HU := As0 hu
 clear hr hs hu
 have HB := As0 (Below.refl w.heap.size w)
 have hq : (d == a) = false := beq_eq_false_iff_ne.mpr hda
 have hmf : ∀ (fn : Fn) (first cap : Array Value) (w : World), (Instr.makeFunc fn first cap).run Tryz.prog w = .ok (.func fn first cap) w := fun _ _ _ _ => rfl
 go_enter Tryz.func157, Tryz.ntmps157
 go_wp2_with (first
  | ((with_reducible refine gD 4 ?_); refine bX ?_; intro g1 hg w1 hbox hb; have Xg1 := As0 hbox; replace HB := sB HB hb; replace HR := As0 (Kd.C_below HR.out hb); have cg1 := (Qbn Xg1.out 0).trans rfl; clear hb hbox hg)
  | ((with_reducible refine gD 5 ?_); refine bX ?_; intro g2 hg w2 hbox hb; have Xg2 := As0 hbox; replace HB := sB HB hb; replace HR := As0 (Kd.C_below HR.out hb); replace Xg1 := As0 (Qbl Xg1.out hb); clear cg1; have cg1 := (Qbn Xg1.out 0).trans rfl; have cg2 := (Qbn Xg2.out 0).trans rfl; clear hb hbox hg)
  | (go_at_call 185; refine (dropV_calls A c l d _ HR.out hc hl).mono ?_; rintro e w3 ⟨u, rfl, ho, hb⟩; have HO := As0 ho; replace HR := As0 (Kd.C_below HR.out hb); replace Xg1 := As0 (Qbl Xg1.out hb); replace Xg2 := As0 (Qbl Xg2.out hb); replace HB := sB HB hb; clear ho hb cg1 cg2; have cg1 := (Qbn Xg1.out 0).trans rfl; have cg2 := (Qbn Xg2.out 0).trans rfl)
  | (go_at_call 184; refine (rename_calls k (fun p => (⟨d, p.f1⟩ : S47)) (fun p => p.f0 == a) 186 #[.pointer (some ⟨g1, 0, none⟩), .pointer (some ⟨g2, 0, none⟩)] u _ _ _ A c l r _ HO.out HR.out hc hl (enters_of Tryz.func186 (by kernel_rfl) rfl) (fun W hW p => copy1 d a p.f0 p.f1 g1 g2 W (Qbl Xg1.out hW) (Qbl Xg2.out hW)) HS.out HU.out).mono ?_; rintro e w4 ⟨u2, rfl, ho, hb⟩; replace HO := As0 (Kd.R_lower ho (Qbm (BU HB.out))); replace HB := sB HB hb; clear ho hb))
 go_ret
 exact ⟨_, rfl, RU HO.out, BU HB.out⟩
theorem move_same (A : Option Addr) (c : Nat) (l : List S47) (d : Int) (w : World) (hr : Kd.C k47 w A l.length l) (hs : Asc l) (hl : l.length < 8796093022208) :
    Calls Tryz.prog 158 #[.slice A l.length c, .int .i64 d, .int .i64 d] w fun e w' => ∃ u, e = .returned u ∧ Kd.R k47 47 w' w.heap.size (fun _ => True) u l ∧ Below w.heap.size w w' := by
 have hu44 := Tryz.underlying44
 have hu47 := Tryz.underlying47
 have HR := As0 hr
 have HS := As0 hs
 clear hr hs
 have HB := As0 (Below.refl w.heap.size w)
 have hq : (d == d) = true := beq_self_eq_true d
 go_enter Tryz.func158, Tryz.ntmps158
 go_wp2_with (first
  | ((with_reducible refine gD 4 ?_); refine bX ?_; intro g1 hg w1 hbox hb; have Xg1 := As0 hbox; replace HB := sB HB hb; replace HR := As0 (Kd.C_below HR.out hb); have cg1 := (Qbn Xg1.out 0).trans rfl; clear hb hbox hg)
  | ((with_reducible refine gD 5 ?_); refine bX ?_; intro g2 hg w2 hbox hb; have Xg2 := As0 hbox; replace HB := sB HB hb; replace HR := As0 (Kd.C_below HR.out hb); replace Xg1 := As0 (Qbl Xg1.out hb); clear cg1; have cg1 := (Qbn Xg1.out 0).trans rfl; have cg2 := (Qbn Xg2.out 0).trans rfl; clear hb hbox hg)
  | (go_at_call 65; refine (Qes _ A c l HR.out HS.out hl).mono ?_; rintro e w3 ⟨u, rfl, ho, hb⟩; have HO := As0 (Kd.R_lower ho (Qbm (BU HB.out))); replace HB := sB HB hb; clear ho hb))
 go_ret
 exact ⟨_, rfl, RU HO.out, BU HB.out⟩
theorem move_other (k : Nat) (A : Option Addr) (c : Nat) (l r : List S47) (d a : Int) (w : World) (hda : d ≠ a) (hr : Kd.C k47 w A l.length l) (hc : l.length ≤ c) (hl : l.length < 8796093022208)
    (hs : Asc ((l.filter fun p => p.f1 == a).map fun p => (⟨p.f0, d⟩ : S47))) (hu : Qae.f k (l.filter fun p => p.f1 != d) ((l.filter fun p => p.f1 == a).map fun p => (⟨p.f0, d⟩ : S47)) = some r) :
    Calls Tryz.prog 158 #[.slice A l.length c, .int .i64 d, .int .i64 a] w fun e w' => ∃ u, e = .returned u ∧ Kd.R k47 47 w' w.heap.size (fun _ => True) u r ∧ Below w.heap.size w w' := by
 have hu44 := Tryz.underlying44
 have hu47 := Tryz.underlying47
 have HR := As0 hr
 have HS := As0 hs
 have HU := As0 hu
 clear hr hs hu
 have HB := As0 (Below.refl w.heap.size w)
 have hq : (d == a) = false := beq_eq_false_iff_ne.mpr hda
 have hmf : ∀ (fn : Fn) (first cap : Array Value) (w : World), (Instr.makeFunc fn first cap).run Tryz.prog w = .ok (.func fn first cap) w := fun _ _ _ _ => rfl
 go_enter Tryz.func158, Tryz.ntmps158
 go_wp2_with (first
  | ((with_reducible refine gD 4 ?_); refine bX ?_; intro g1 hg w1 hbox hb; have Xg1 := As0 hbox; replace HB := sB HB hb; replace HR := As0 (Kd.C_below HR.out hb); have cg1 := (Qbn Xg1.out 0).trans rfl; clear hb hbox hg)
  | ((with_reducible refine gD 5 ?_); refine bX ?_; intro g2 hg w2 hbox hb; have Xg2 := As0 hbox; replace HB := sB HB hb; replace HR := As0 (Kd.C_below HR.out hb); replace Xg1 := As0 (Qbl Xg1.out hb); clear cg1; have cg1 := (Qbn Xg1.out 0).trans rfl; have cg2 := (Qbn Xg2.out 0).trans rfl; clear hb hbox hg)
  | (go_at_call 187; refine (dropL_calls A c l d _ HR.out hc hl).mono ?_; rintro e w3 ⟨u, rfl, ho, hb⟩; have HO := As0 ho; replace HR := As0 (Kd.C_below HR.out hb); replace Xg1 := As0 (Qbl Xg1.out hb); replace Xg2 := As0 (Qbl Xg2.out hb); replace HB := sB HB hb; clear ho hb cg1 cg2; have cg1 := (Qbn Xg1.out 0).trans rfl; have cg2 := (Qbn Xg2.out 0).trans rfl)
  | (go_at_call 184; refine (rename_calls k (fun p => (⟨p.f0, d⟩ : S47)) (fun p => p.f1 == a) 188 #[.pointer (some ⟨g1, 0, none⟩), .pointer (some ⟨g2, 0, none⟩)] u _ _ _ A c l r _ HO.out HR.out hc hl (enters_of Tryz.func188 (by kernel_rfl) rfl) (fun W hW p => move1 d a p.f0 p.f1 g1 g2 W (Qbl Xg1.out hW) (Qbl Xg2.out hW)) HS.out HU.out).mono ?_; rintro e w4 ⟨u2, rfl, ho, hb⟩; replace HO := As0 (Kd.R_lower ho (Qbm (BU HB.out))); replace HB := sB HB hb; clear ho hb))
 go_ret
 exact ⟨_, rfl, RU HO.out, BU HB.out⟩
theorem define_aux (k : Nat) (A : Option Addr) (c : Nat) (l l1 l2 r : List S47) (d a : Int) (w : World) (hr : Kd.C k47 w A l.length l) (hc : l.length ≤ c) (hl : l.length < 8796093022208)
    (e1 : (l.filter fun p => p.f0 != d) = l1) (e2 : (l1.filter fun p => p.f1 != a) = l2) (hl1 : l1.length < 8796093022208) (hu : Qaj.f k l2 d a = some r) :
    Calls Tryz.prog 189 #[.slice A l.length c, .int .i64 d, .int .i64 a] w fun e w' => ∃ u, e = .returned u ∧ Kd.R k47 47 w' w.heap.size (fun _ => True) u r ∧ Below w.heap.size w w' := by
 have hu44 := Tryz.underlying44
 have hu47 := Tryz.underlying47
 have HB := As0 (Below.refl w.heap.size w)
 have H1 := As0 (dropV_calls A c l d w hr hc hl)
 rw [e1] at H1
 have H2 := As0 (fun (A1 : Option Addr) (c1 : Nat) (W : World) (h1 : Kd.C k47 W A1 l1.length l1) (h2 : l1.length ≤ c1) => dropL_calls A1 c1 l1 a W h1 h2 hl1)
 rw [e2] at H2
 have HU := As0 hu
 clear hr hu e1 e2 hc hl hl1
 go_enter Tryz.func189, Tryz.ntmps189
 go_wp2_with (first
  | (go_at_call 185; refine H1.out.mono ?_; rintro e w3 ⟨u, rfl, ho, hb⟩; (obtain ⟨A1, c1, e1, hc1, C1⟩ := Kd.R_reads ho); subst e1; replace C1 := As0 C1; replace HB := sB HB hb; clear ho hb)
  | (go_at_call 187; refine (H2.out A1 c1 _ C1.out hc1).mono ?_; rintro e w4 ⟨u, rfl, ho, hb⟩; (obtain ⟨A2, c2, e2, hc2, C2⟩ := Kd.R_reads ho); subst e2; replace C2 := As0 C2; replace HB := sB HB hb; clear ho hb)
  | (go_at_call 208; refine (Qaj.calls k A2 c2 l2 d a r _ C2.out hc2 HU.out).mono ?_; rintro e w5 ⟨u, rfl, ho, hb⟩; have HO := As0 (Kd.R_lower ho (Qbm (BU HB.out))); replace HB := sB HB hb; clear ho hb))
 go_ret
 exact ⟨_, rfl, RU HO.out, BU HB.out⟩
theorem define_calls (k : Nat) (A : Option Addr) (c : Nat) (l r : List S47) (d a : Int) (w : World) (hr : Kd.C k47 w A l.length l) (hc : l.length ≤ c) (hl : l.length < 8796093022208)
    (hu : Qaj.f k ((l.filter fun p => p.f0 != d).filter fun p => p.f1 != a) d a = some r) :
    Calls Tryz.prog 189 #[.slice A l.length c, .int .i64 d, .int .i64 a] w fun e w' => ∃ u, e = .returned u ∧ Kd.R k47 47 w' w.heap.size (fun _ => True) u r ∧ Below w.heap.size w w' :=
 define_aux k A c l _ _ r d a w hr hc hl rfl rfl (Nat.lt_of_le_of_lt (List.length_filter_le _ _) hl) hu
def Qaq.f (a0 : Int) : Option (Bool) := some ((Int.tmod a0 2) == 1)
theorem Qaq.calls (a0 : Int) (r : Bool) (w : World) (h : Qaq.f a0 = some r) :
 Calls Tryz.prog 135 #[.int .i64 a0] w fun e w' => e = .returned (.bool r) ∧ Qbz w w' := by
 have H : (some ((Int.tmod a0 2) == 1)) = some r := h
 clear h
 obtain rfl := Option.some.inj H
 go_enter Tryz.func135, Tryz.ntmps135
 go_wp2
 go_ret
 exact dR
def Qbb.f (a0 : Int) : Option (Int) := some (wrap64 (Int.tdiv a0 2))
theorem Qbb.calls (a0 r : Int) (w : World) (h : Qbb.f a0 = some r) :
 Calls Tryz.prog 152 #[.int .i64 a0] w fun e w' => e = .returned (.int .i64 r) ∧ Qbz w w' := by
 have H : (some (wrap64 (Int.tdiv a0 2))) = some r := h
 clear h
 obtain rfl := Option.some.inj H
 go_enter Tryz.func152, Tryz.ntmps152
 go_wp2
 go_ret
 exact dR
def Qa9.f (a0 a1 a2 : Int) : Option (Bool) := (Qaq.f a0).bind fun t179 => (if t179 = true then (if a0 ≥ 0 then ((Qbb.f a0).bind fun t180 => (some (decide (t180 < a2)))) else (some false)) else (if a0 ≥ 0 then ((Qbb.f a0).bind fun t181 => (some (decide (t181 < a1)))) else (some false)))
theorem Qa9.calls (a0 a1 a2 : Int) (r : Bool) (w : World) (h : Qa9.f a0 a1 a2 = some r) :
 Calls Tryz.prog 138 #[.int .i64 a0, .int .i64 a1, .int .i64 a2] w fun e w' => e = .returned (.bool r) ∧ Qbz w w' := by
 have H : ((Qaq.f a0).bind fun t179 => (if t179 = true then (if a0 ≥ 0 then ((Qbb.f a0).bind fun t180 => (some (decide (t180 < a2)))) else (some false)) else (if a0 ≥ 0 then ((Qbb.f a0).bind fun t181 => (some (decide (t181 < a1)))) else (some false)))) = some r := h
 clear h
 replace H := Option.bind_eq_some_iff.mp H
 obtain ⟨t179, A40, H⟩ := H
 have A4 := As0 A40
 clear A40
 by_cases c5 : t179 = true
 ·subst c5
  rw [if_pos rfl] at H
  by_cases c6 : a0 ≥ 0
  rotate_left
  ·rw [if_neg c6] at H
   have c6b0 := decide_eq_false c6
   clear c6
   obtain rfl := Option.some.inj H
   go_enter Tryz.func138, Tryz.ntmps138
   go_wp2_with (first | ((with_reducible refine Qbo (f := 135) rfl ?_); refine gL (some 8) Tryz.func135 #[.int .i64 a0] ?_; (with_reducible refine (Qaq.calls a0 true _ A4.out).mono ?_); rintro e w' ⟨rfl, ⟨nd, rfl⟩⟩; refine ⟨_, rfl, ?_⟩))
   go_ret
   exact dR
  rw [if_pos c6] at H
  have c6b0 := decide_eq_true c6
  clear c6
  replace H := Option.bind_eq_some_iff.mp H
  obtain ⟨t180, A70, H⟩ := H
  have A7 := As0 A70
  clear A70
  obtain rfl := Option.some.inj H
  go_enter Tryz.func138, Tryz.ntmps138
  go_wp2_with (first | ((with_reducible refine Qbo (f := 135) rfl ?_); refine gL (some 8) Tryz.func135 #[.int .i64 a0] ?_; (with_reducible refine (Qaq.calls a0 true _ A4.out).mono ?_); rintro e w' ⟨rfl, ⟨nd, rfl⟩⟩; refine ⟨_, rfl, ?_⟩) | (go_at_call 152; (with_reducible refine (Qbb.calls a0 t180 _ A7.out).mono ?_); rintro e w' ⟨rfl, ⟨nd, rfl⟩⟩))
  go_ret
  exact dR
 replace c5 := Bool.eq_false_iff.mpr c5
 subst c5
 rw [if_neg bF] at H
 by_cases c8 : a0 ≥ 0
 rotate_left
 ·rw [if_neg c8] at H
  have c8b0 := decide_eq_false c8
  clear c8
  obtain rfl := Option.some.inj H
  go_enter Tryz.func138, Tryz.ntmps138
  go_wp2_with (first | ((with_reducible refine Qbo (f := 135) rfl ?_); refine gL (some 8) Tryz.func135 #[.int .i64 a0] ?_; (with_reducible refine (Qaq.calls a0 false _ A4.out).mono ?_); rintro e w' ⟨rfl, ⟨nd, rfl⟩⟩; refine ⟨_, rfl, ?_⟩))
  go_ret
  exact dR
 rw [if_pos c8] at H
 have c8b0 := decide_eq_true c8
 clear c8
 replace H := Option.bind_eq_some_iff.mp H
 obtain ⟨t181, A90, H⟩ := H
 have A9 := As0 A90
 clear A90
 obtain rfl := Option.some.inj H
 go_enter Tryz.func138, Tryz.ntmps138
 go_wp2_with (first | ((with_reducible refine Qbo (f := 135) rfl ?_); refine gL (some 8) Tryz.func135 #[.int .i64 a0] ?_; (with_reducible refine (Qaq.calls a0 false _ A4.out).mono ?_); rintro e w' ⟨rfl, ⟨nd, rfl⟩⟩; refine ⟨_, rfl, ?_⟩) | (go_at_call 152; (with_reducible refine (Qbb.calls a0 t181 _ A9.out).mono ?_); rintro e w' ⟨rfl, ⟨nd, rfl⟩⟩))
 go_ret
 exact dR
def location_Slot.f (a0 : Int) : Option (Int) := some (wrap64 ((wrap64 (2 * a0)) + 1))
theorem location_Slot.calls (a0 r : Int) (w : World) (h : location_Slot.f a0 = some r) :
 Calls Tryz.prog 151 #[.int .i64 a0] w fun e w' => e = .returned (.int .i64 r) ∧ Qbz w w' := by
 have H : (some (wrap64 ((wrap64 (2 * a0)) + 1))) = some r := h
 clear h
 obtain rfl := Option.some.inj H
 go_enter Tryz.func151, Tryz.ntmps151
 go_wp2
 go_ret
 exact dR
def location_Reg.f (a0 : Int) : Option (Int) := some (wrap64 (2 * a0))
theorem location_Reg.calls (a0 r : Int) (w : World) (h : location_Reg.f a0 = some r) :
 Calls Tryz.prog 161 #[.int .i64 a0] w fun e w' => e = .returned (.int .i64 r) ∧ Qbz w w' := by
 have H : (some (wrap64 (2 * a0))) = some r := h
 clear h
 obtain rfl := Option.some.inj H
 go_enter Tryz.func161, Tryz.ntmps161
 go_wp2
 go_ret
 exact dR
structure Fr (g : Nat) (w w' : World) : Prop where
 os : w'.os = w.os
 tape : w'.tape = w.tape
 output : w'.output = w.output
 size : w.heap.size ≤ w'.heap.size
 block : ∀ k, k < w.heap.size → k ≠ g → w'.heap[k]? = w.heap[k]?
theorem Fr.of {g : Nat} {w w' : World} (h : Below w.heap.size w w') : Fr g w w' := ⟨h.os, h.tape, h.output, h.size, fun k hk _ => h.block k hk⟩
theorem Fr.refl (g : Nat) (w : World) : Fr g w w := Fr.of (Below.refl _ _)
theorem Fr.trans {g : Nat} {a b c : World} (h : Fr g a b) (k : Fr g b c) : Fr g a c :=
 ⟨k.os.trans h.os, k.tape.trans h.tape, k.output.trans h.output, Nat.le_trans h.size k.size, fun i hi hg => (k.block i (Nat.lt_of_lt_of_le hi h.size) hg).trans (h.block i hi hg)⟩
theorem Fr.then {g : Nat} {a b c : World} (h : Fr g a b) (k : Below b.heap.size b c) : Fr g a c := h.trans (Fr.of k)
theorem Fr.set {g : Nat} {w w' : World} (h : Fr g w w') (j : Nat) (u : Value) : Fr g w (w'.setCell ⟨g, j, none⟩ u) :=
 h.trans ⟨rfl, rfl, rfl, by simp, fun k hk hg => Below.heap_setCell w' _ u k hg⟩
theorem Fr.drew {g : Nat} {w w' : World} (h : Fr g w w') : Fr g w w'.drew := h.then (Qc7 (Below.refl _ _))
theorem Fr.base {B g : Nat} {w0 w w' : World} (h : Fr g w w') (hb : Below B w0 w) (hg : B ≤ g) (hB : B ≤ w.heap.size) : Below B w0 w' :=
 ⟨h.os.trans hb.os, h.tape.trans hb.tape, h.output.trans hb.output, Nat.le_trans hb.size h.size, fun k hk => (h.block k (Nat.lt_of_lt_of_le hk hB) (by omega)).trans (hb.block k hk)⟩
theorem Fr.blk {g i : Nat} {w w' : World} {o : Obj} (h : Fr g w w') (hi : w.heap[i]? = some o) (hne : i ≠ g) : w'.heap[i]? = some o := (h.block i (Qby hi) hne).trans hi
theorem C47_fr {g : Nat} {w w' : World} {A : Option Addr} {l : List S47} (h : Fr g w w') (hC : Kd.C k47 w A l.length l) (hne : ∀ ad, A = some ad → ad.block ≠ g) : Kd.C k47 w' A l.length l := by
 obtain ⟨h1, h2, h3⟩ := hC
 refine ⟨h1, h2, fun hn => ?_⟩
 obtain ⟨ad, rfl, hc⟩ := h3 hn
 refine ⟨ad, rfl, fun j p hj => ?_⟩
 obtain ⟨c, hs, hK, hcell⟩ := hc j p hj
 obtain rfl := k47_open hK
 refine ⟨_, hs, k47_mk w' p, fun i u hu => ?_⟩
 have hq := hcell i u hu
 have hlt := wblt w hq
 have hbl : ∀ n, (ad.add n).block = ad.block := fun n => by unfold Addr.add; split <;> rfl
 exact (World.cell?_of_block (h.block _ hlt (by rw [hbl]; exact hne ad rfl))).trans hq
structure Bs where
 set : List S47
 most : Int
 steps : Int
 largest : Int
def Ty (w : World) (A : Option Addr) : Prop := ∀ ad, A = some ad → ∃ cs, w.heap[ad.block]? = some (.cells cs 47 (0, 0))
theorem Ty.below {w w' : World} {A : Option Addr} (h : Ty w A) (hb : Below w.heap.size w w') : Ty w' A := fun ad e => let ⟨cs, hc⟩ := h ad e; ⟨cs, Qbl hc hb⟩
theorem Ty.fr {g : Nat} {w w' : World} {A : Option Addr} (h : Ty w A) (hf : Fr g w w') (hne : ∀ ad, A = some ad → ad.block ≠ g) : Ty w' A := fun ad e => let ⟨cs, hc⟩ := h ad e; ⟨cs, hf.blk hc (hne ad e)⟩
def Ck (w : World) (g : Nat) (s : Bs) : Prop := ∃ A c, w.heap[g]? = some (.cells #[.slice A s.set.length c, .int .i64 s.most, .int .i64 s.steps, .int .i64 s.largest] 128 (0, 0)) ∧ s.set.length ≤ c ∧ Kd.C k47 w A s.set.length s.set ∧ (∀ ad, A = some ad → ad.block ≠ g) ∧ Ty w A
theorem Ck.below {w w' : World} {g : Nat} {s : Bs} (h : Ck w g s) (hb : Below w.heap.size w w') : Ck w' g s := by
 obtain ⟨A, c, h1, h2, h3, h4⟩ := h
 exact ⟨A, c, Qbl h1 hb, h2, Kd.C_below h3 hb, h4.1, h4.2.below hb⟩
def stepsOf (s : Bs) : Int := wrap64 (s.steps + wrap64 (1 + (s.set.length : Int)))
def Bs.cost (s : Bs) : Bs := { s with steps := stepsOf s }
def Bs.become (s : Bs) (l : List S47) : Bs := { s with set := l, largest := max s.largest (l.length : Int) }
def failed (why at_ : Int) : Ending := .panicked [{ v := .iface 185 (.agg #[.int .i64 why, .int .i64 at_]), recovered := false }]
theorem Qd0 (g : Nat) (s : Bs) (w : World) (h : Ck w g s) :
    Calls Tryz.prog 155 #[.pointer (some ⟨g, 0, none⟩)] w fun e w' => e = .returned (.tuple #[]) ∧ Ck w' g s.cost ∧ Fr g w w' := by
 have hu44 := Tryz.underlying44
 have hu128 := Tryz.underlying128
 obtain ⟨A, c, hg, hc, hC, hne⟩ := h
 obtain ⟨q0, q1, q2, q3, f0, f1, f2, f3⟩ := cN4 hg
 have HF := As0 (Fr.refl g w)
 have HC := As0 hC
 have HG := As0 hg
 clear hC hg
 go_enter Tryz.func155, Tryz.ntmps155
 go_region
 go_wp2
 go_returns
 exact ⟨rfl, ⟨A, c, Qbr (Qbt (cs := #[.slice A s.set.length c, .int .i64 s.most, .int .i64 s.steps, .int .i64 s.largest]) HG.out 2 _ rfl), hc, C47_fr (HF.out.set 2 _).drew HC.out hne.1, hne.1, hne.2.fr (HF.out.set 2 _).drew hne.1⟩, (HF.out.set 2 _).drew⟩
theorem become_ok (g : Nat) (s : Bs) (A : Option Addr) (c : Nat) (l : List S47) (i : Int) (w : World) (h : Ck w g s) (hc : l.length ≤ c) (hC : Kd.C k47 w A l.length l) (hne : ∀ ad, A = some ad → ad.block ≠ g) (hty : Ty w A) (hm : ¬ (l.length : Int) > s.most) :
    Calls Tryz.prog 156 #[.pointer (some ⟨g, 0, none⟩), .slice A l.length c, .int .i64 i] w fun e w' => e = .returned (.tuple #[]) ∧ Ck w' g (s.become l) ∧ Fr g w w' := by
 have hu44 := Tryz.underlying44
 have hu128 := Tryz.underlying128
 obtain ⟨A0, c0, hg, hc0, hC0, hne0⟩ := h
 obtain ⟨q0, q1, q2, q3, f0, f1, f2, f3⟩ := cN4 hg
 have HF := As0 (Fr.refl g w)
 have HC := As0 hC
 have HG := As0 hg
 clear hC hg hC0
 go_enter Tryz.func156, Tryz.ntmps156
 go_wp2
 all_goals go_returns
 ·refine ⟨rfl, ⟨A, c, ?_, hc, C47_fr ((HF.out.set 0 _).set 3 _) HC.out hne, hne, hty.fr ((HF.out.set 0 _).set 3 _) hne⟩, (HF.out.set 0 _).set 3 _⟩
  refine Qbt (cs := #[.slice A l.length c, .int .i64 s.most, .int .i64 s.steps, .int .i64 s.largest]) (Qbt (cs := #[.slice A0 s.set.length c0, .int .i64 s.most, .int .i64 s.steps, .int .i64 s.largest]) HG.out 0 _ rfl) 3 _ (by simp only [Bs.become]; rw [show max s.largest (l.length : Int) = (l.length : Int) by omega]; rfl)
 ·refine ⟨rfl, ⟨A, c, ?_, hc, C47_fr ((HF.out.set 0 _).set 3 _) HC.out hne, hne, hty.fr ((HF.out.set 0 _).set 3 _) hne⟩, (HF.out.set 0 _).set 3 _⟩
  refine Qbt (cs := #[.slice A l.length c, .int .i64 s.most, .int .i64 s.steps, .int .i64 s.largest]) (Qbt (cs := #[.slice A0 s.set.length c0, .int .i64 s.most, .int .i64 s.steps, .int .i64 s.largest]) HG.out 0 _ rfl) 3 _ (by simp only [Bs.become]; rw [show max s.largest (l.length : Int) = s.largest by omega]; rfl)
theorem become_fail (g : Nat) (s : Bs) (A : Option Addr) (c : Nat) (l : List S47) (i : Int) (w : World) (h : Ck w g s) (hc : l.length ≤ c) (hC : Kd.C k47 w A l.length l) (hne : ∀ ad, A = some ad → ad.block ≠ g) (hty : Ty w A) (hm : (l.length : Int) > s.most) :
    Calls Tryz.prog 156 #[.pointer (some ⟨g, 0, none⟩), .slice A l.length c, .int .i64 i] w fun e w' => e = failed 24 i ∧ Ck w' g (s.become l) ∧ Fr g w w' := by
 have hu44 := Tryz.underlying44
 have hu128 := Tryz.underlying128
 obtain ⟨A0, c0, hg, hc0, hC0, hne0⟩ := h
 obtain ⟨q0, q1, q2, q3, f0, f1, f2, f3⟩ := cN4 hg
 have HF := As0 (Fr.refl g w)
 have HC := As0 hC
 have HG := As0 hg
 clear hC hg hC0
 go_enter Tryz.func156, Tryz.ntmps156
 go_wp2
 ·refine ⟨rfl, rfl, ⟨A, c, ?_, hc, C47_fr ((HF.out.set 0 _).set 3 _) HC.out hne, hne, hty.fr ((HF.out.set 0 _).set 3 _) hne⟩, (HF.out.set 0 _).set 3 _⟩
  refine Qbt (cs := #[.slice A l.length c, .int .i64 s.most, .int .i64 s.steps, .int .i64 s.largest]) (Qbt (cs := #[.slice A0 s.set.length c0, .int .i64 s.most, .int .i64 s.steps, .int .i64 s.largest]) HG.out 0 _ rfl) 3 _ (by simp only [Bs.become]; rw [show max s.largest (l.length : Int) = (l.length : Int) by omega]; rfl)
 ·refine ⟨rfl, rfl, ⟨A, c, ?_, hc, C47_fr ((HF.out.set 0 _).set 3 _) HC.out hne, hne, hty.fr ((HF.out.set 0 _).set 3 _) hne⟩, (HF.out.set 0 _).set 3 _⟩
  refine Qbt (cs := #[.slice A l.length c, .int .i64 s.most, .int .i64 s.steps, .int .i64 s.largest]) (Qbt (cs := #[.slice A0 s.set.length c0, .int .i64 s.most, .int .i64 s.steps, .int .i64 s.largest]) HG.out 0 _ rfl) 3 _ (by simp only [Bs.become]; rw [show max s.largest (l.length : Int) = s.largest by omega]; rfl)
theorem use_ok (k g : Nat) (s : Bs) (v r i : Int) (w : World) (h : Ck w g s) (hh : pairset_Has.f k s.set v (wrap64 (2 * r)) = some true) :
    Calls Tryz.prog 121 #[.pointer (some ⟨g, 0, none⟩), .int .i64 v, .int .i64 r, .int .i64 i] w fun e w' => e = .returned (.tuple #[]) ∧ Ck w' g s.cost ∧ Fr g w w' := by
 have hu44 := Tryz.underlying44
 have hu47 := Tryz.underlying47
 have hu128 := Tryz.underlying128
 have HK := As0 h
 have HH := As0 hh
 clear h hh
 have HF := As0 (Fr.refl g w)
 go_enter Tryz.func121, Tryz.ntmps121
 go_wp2_with (go_at_call 155; refine (Qd0 g s _ HK.out).mono ?_; rintro e w1 ⟨rfl, hk, hf⟩; replace HK := As0 hk; replace HF := As0 hf; (obtain ⟨A, c, hg, hc, hC, hne⟩ := hk); (obtain ⟨q0, q1, q2, q3, f0, f1, f2, f3⟩ := cN4 hg); have HC := As0 (show Kd.C k47 w1 A s.set.length s.set from hC); have hc1 : s.set.length ≤ c := hc; clear hg hC hf hc)
 replace q0 : w1.cell? ⟨g, 0, none⟩ = some (.slice A s.set.length c) := q0
 refine Qcb (n := 10) (S := fun w' => w'.cell? ⟨g, 0, none⟩ = some (.slice A s.set.length c)) (ds := [8]) (bb 10 0) (by kernel_rfl) rfl rfl (q0) (fun hHeld => ?_)
 refine pu 0 10 (bb 10 1) ?_
 refine pu 1 11 (bb 10 3) ?_
 refine pu 2 12 (bb 10 7) ?_
 refine pu 4 14 (bb 10 23) ?_
 refine pu 5 15 (bb 10 55) ?_
 refine tu hHeld 3 13 (bb 10 63) ?_
 refine one_ (i := 6) (N := some 16) (bb 10 127) rfl rfl (by kernel_rfl) (by decide) (fun K hK => ?_)
 refine gG Tryz.func161 #[.int .i64 r] ?_
 with_reducible refine (location_Reg.calls r _ _ rfl).mono ?_
 rintro e w2 ⟨rfl, m, rfl⟩
 refine ⟨_, rfl, ?_⟩
 refine hK.out _ _ (q0) (fun hHeld => ?_)
 clear hK K
 refine Qb1 (a' := ?_) ?_ ?_
 rotate_left
 ·show Act.put _ (some 16) _ = _
  simp only [Act.put, List.setIfInBounds_toArray, List.set_cons_zero, List.set_cons_succ, Qbu, Qbv]
  rfl
 refine pu 7 17 (bb 10 255) ?_
 refine Qdu (i := 8) (N := some 18) (bb 10 511) rfl rfl (by kernel_rfl) (by decide) (fun K hK => ?_)
 refine gG Tryz.func160 #[.slice A s.set.length c, .agg #[.int .i64 v, .int .i64 (wrap64 (2 * r))]] ?_
 with_reducible refine (pairset_Has.calls k A c s.set v _ true _ (by repeat (first | exact HC.out | refine Kd.C_drewN ?_ _ | refine Kd.C_drew ?_)) hc1 HH.out).mono ?_
 rintro e w3 ⟨rfl, hb⟩
 refine ⟨_, rfl, ?_⟩
 replace HF := As0 (HF.out.then (Qb5 (BU (Below.refl _ w1)) hb))
 replace HK := As0 (HK.out.below (Qb5 (BU (Below.refl _ w1)) hb))
 clear hb
 refine hK.out _ _ ?_
 clear hK K
 refine Qb1 (a' := ?_) ?_ ?_
 rotate_left
 ·show Act.put _ (some 18) _ = _
  simp only [Act.put, List.setIfInBounds_toArray, List.set_cons_zero, List.set_cons_succ, Qbu, Qbv]
  rfl
 refine pu 9 19 (bb 10 1023) ?_
 refine Qcy (by kernel_rfl) ?_
 go_wp2
 go_returns
 exact ⟨rfl, HK.out, HF.out⟩
theorem use_fail (k g : Nat) (s : Bs) (v r i : Int) (w : World) (h : Ck w g s) (hh : pairset_Has.f k s.set v (wrap64 (2 * r)) = some false) :
    Calls Tryz.prog 121 #[.pointer (some ⟨g, 0, none⟩), .int .i64 v, .int .i64 r, .int .i64 i] w fun e w' => e = failed 21 i ∧ Ck w' g s.cost ∧ Fr g w w' := by
 have hu44 := Tryz.underlying44
 have hu47 := Tryz.underlying47
 have hu128 := Tryz.underlying128
 have HK := As0 h
 have HH := As0 hh
 clear h hh
 have HF := As0 (Fr.refl g w)
 go_enter Tryz.func121, Tryz.ntmps121
 go_wp2_with (go_at_call 155; refine (Qd0 g s _ HK.out).mono ?_; rintro e w1 ⟨rfl, hk, hf⟩; replace HK := As0 hk; replace HF := As0 hf; (obtain ⟨A, c, hg, hc, hC, hne⟩ := hk); (obtain ⟨q0, q1, q2, q3, f0, f1, f2, f3⟩ := cN4 hg); have HC := As0 (show Kd.C k47 w1 A s.set.length s.set from hC); have hc1 : s.set.length ≤ c := hc; clear hg hC hf hc)
 replace q0 : w1.cell? ⟨g, 0, none⟩ = some (.slice A s.set.length c) := q0
 refine Qcb (n := 10) (S := fun w' => w'.cell? ⟨g, 0, none⟩ = some (.slice A s.set.length c)) (ds := [8]) (bb 10 0) (by kernel_rfl) rfl rfl (q0) (fun hHeld => ?_)
 refine pu 0 10 (bb 10 1) ?_
 refine pu 1 11 (bb 10 3) ?_
 refine pu 2 12 (bb 10 7) ?_
 refine pu 4 14 (bb 10 23) ?_
 refine pu 5 15 (bb 10 55) ?_
 refine tu hHeld 3 13 (bb 10 63) ?_
 refine one_ (i := 6) (N := some 16) (bb 10 127) rfl rfl (by kernel_rfl) (by decide) (fun K hK => ?_)
 refine gG Tryz.func161 #[.int .i64 r] ?_
 with_reducible refine (location_Reg.calls r _ _ rfl).mono ?_
 rintro e w2 ⟨rfl, m, rfl⟩
 refine ⟨_, rfl, ?_⟩
 refine hK.out _ _ (q0) (fun hHeld => ?_)
 clear hK K
 refine Qb1 (a' := ?_) ?_ ?_
 rotate_left
 ·show Act.put _ (some 16) _ = _
  simp only [Act.put, List.setIfInBounds_toArray, List.set_cons_zero, List.set_cons_succ, Qbu, Qbv]
  rfl
 refine pu 7 17 (bb 10 255) ?_
 refine Qdu (i := 8) (N := some 18) (bb 10 511) rfl rfl (by kernel_rfl) (by decide) (fun K hK => ?_)
 refine gG Tryz.func160 #[.slice A s.set.length c, .agg #[.int .i64 v, .int .i64 (wrap64 (2 * r))]] ?_
 with_reducible refine (pairset_Has.calls k A c s.set v _ false _ (by repeat (first | exact HC.out | refine Kd.C_drewN ?_ _ | refine Kd.C_drew ?_)) hc1 HH.out).mono ?_
 rintro e w3 ⟨rfl, hb⟩
 refine ⟨_, rfl, ?_⟩
 replace HF := As0 (HF.out.then (Qb5 (BU (Below.refl _ w1)) hb))
 replace HK := As0 (HK.out.below (Qb5 (BU (Below.refl _ w1)) hb))
 clear hb
 refine hK.out _ _ ?_
 clear hK K
 refine Qb1 (a' := ?_) ?_ ?_
 rotate_left
 ·show Act.put _ (some 18) _ = _
  simp only [Act.put, List.setIfInBounds_toArray, List.set_cons_zero, List.set_cons_succ, Qbu, Qbv]
  rfl
 refine pu 9 19 (bb 10 1023) ?_
 refine Qcy (by kernel_rfl) ?_
 go_wp2
 exact ⟨rfl, rfl, HK.out, HF.out⟩
def Qbf.f (a0 : Int) : Option (Bool) := if a0 ≥ 1 then (some (decide (a0 ≤ 18))) else (some false)
theorem Qbf.calls (a0 : Int) (r : Bool) (w : World) (h : Qbf.f a0 = some r) :
 Calls Tryz.prog 162 #[.int .i64 a0] w fun e w' => e = .returned (.bool r) ∧ Qbz w w' := by
 have H : (if a0 ≥ 1 then (some (decide (a0 ≤ 18))) else (some false)) = some r := h
 clear h
 by_cases c2 : a0 ≥ 1
 rotate_left
 ·rw [if_neg c2] at H
  have c2b0 := decide_eq_false c2
  clear c2
  obtain rfl := Option.some.inj H
  go_enter Tryz.func162, Tryz.ntmps162
  go_wp2
  go_ret
  exact dR
 rw [if_pos c2] at H
 have c2b0 := decide_eq_true c2
 clear c2
 obtain rfl := Option.some.inj H
 go_enter Tryz.func162, Tryz.ntmps162
 go_wp2
 go_ret
 exact dR
def opcode_Source.f (a0 : Int) : Option (Bool) := (Qbf.f a0).bind fun t115 => (if t115 = true then (some (a0 != 18)) else (some false))
theorem opcode_Source.calls (a0 : Int) (r : Bool) (w : World) (h : opcode_Source.f a0 = some r) :
 Calls Tryz.prog 128 #[.int .i64 a0] w fun e w' => e = .returned (.bool r) ∧ Qbz w w' := by
 have H : ((Qbf.f a0).bind fun t115 => (if t115 = true then (some (a0 != 18)) else (some false))) = some r := h
 clear h
 replace H := Option.bind_eq_some_iff.mp H
 obtain ⟨t115, A20, H⟩ := H
 have A2 := As0 A20
 clear A20
 by_cases c3 : t115 = true
 ·subst c3
  rw [if_pos rfl] at H
  obtain rfl := Option.some.inj H
  go_enter Tryz.func128, Tryz.ntmps128
  go_wp2_with (first | ((with_reducible refine Qbo (f := 162) rfl ?_); refine gL (some 4) Tryz.func162 #[.int .i64 a0] ?_; (with_reducible refine (Qbf.calls a0 true _ A2.out).mono ?_); rintro e w' ⟨rfl, ⟨nd, rfl⟩⟩; refine ⟨_, rfl, ?_⟩))
  go_ret
  exact dR
 replace c3 := Bool.eq_false_iff.mpr c3
 subst c3
 rw [if_neg bF] at H
 obtain rfl := Option.some.inj H
 go_enter Tryz.func128, Tryz.ntmps128
 go_wp2_with (first | ((with_reducible refine Qbo (f := 162) rfl ?_); refine gL (some 4) Tryz.func162 #[.int .i64 a0] ?_; (with_reducible refine (Qbf.calls a0 false _ A2.out).mono ?_); rintro e w' ⟨rfl, ⟨nd, rfl⟩⟩; refine ⟨_, rfl, ?_⟩))
 go_ret
 exact dR
def opcode_Of.f (a0 : Int) : Option (Bool × Bool × Bool × Bool × Bool) := (Qbf.f a0).bind fun t117 => (if t117 = true then (if a0 = 1 then (some (true, false, false, true, true)) else (if a0 ≤ 4 then (some (true, true, false, false, true)) else (if a0 ≤ 16 then (some (true, true, true, false, true)) else (some (false, (a0 == 17), false, false, true))))) else (some (false, false, false, false, false)))
theorem opcode_Of.calls (a0 : Int) (r1 r2 r3 r4 r5 : Bool) (w : World) (h : opcode_Of.f a0 = some (r1, r2, r3, r4, r5)) :
 Calls Tryz.prog 129 #[.int .i64 a0] w fun e w' => e = .returned (.tuple #[.agg #[.bool r1, .bool r2, .bool r3, .bool r4], .bool r5]) ∧ Below w.heap.size w w' := by
 have hu196 := Tryz.underlying196
 have HB := As0 (Below.refl w.heap.size w)
 have H : ((Qbf.f a0).bind fun t117 => (if t117 = true then (if a0 = 1 then (some (true, false, false, true, true)) else (if a0 ≤ 4 then (some (true, true, false, false, true)) else (if a0 ≤ 16 then (some (true, true, true, false, true)) else (some (false, (a0 == 17), false, false, true))))) else (some (false, false, false, false, false)))) = some (r1, r2, r3, r4, r5) := h
 clear h
 replace H := Option.bind_eq_some_iff.mp H
 obtain ⟨t117, A20, H⟩ := H
 have A2 := As0 A20
 clear A20
 by_cases c3 : t117 = true
 rotate_left
 ·replace c3 := Bool.eq_false_iff.mpr c3
  subst c3
  rw [if_neg bF] at H
  simp only [Option.some.injEq, Prod.mk.injEq] at H
  obtain ⟨rfl, rfl, rfl, rfl, rfl⟩ := H
  go_enter Tryz.func129, Tryz.ntmps129
  go_wp2_with (first | ((with_reducible refine gD 2 ?_); refine bY HB.out ?_; intro gb116 w15 hg hb K116 GW116 HB; clear hb hg) | ((with_reducible refine Qbo (f := 162) rfl ?_); refine gL (some 6) Tryz.func162 #[.int .i64 a0] ?_; (with_reducible refine (Qbf.calls a0 false _ A2.out).mono ?_); rintro e w' ⟨rfl, ⟨nd, rfl⟩⟩; refine ⟨_, rfl, ?_⟩; (try (rw [Qdy w15]; generalize hq_ : World.drewN w15 _ = w15; replace K116 : Qbk (w15.heap[gb116]? = some (.cells #[.bool false, .bool false, .bool false, .bool false] 196 (0, 0))) := ⟨by rw [← hq_]; exact (bU K116.out)⟩; replace HB : Qbk (Below w.heap.size w w15) := ⟨by rw [← hq_]; exact (BU HB.out)⟩; clear hq_)); have q16_ := cN4 K116.out))
  refine bodyPost_ret (Qch rfl _ _ gb116 196 #[.bool false, .bool false, .bool false, .bool false] (0, 0) _ rfl (by (with_reducible repeat (first | refine bN ?_ _ | refine bD ?_ | refine bA ?_ _)); refine Qbt (cs := #[.bool false, .bool false, .bool false, .bool false]) ?_ 3 _ (by first | rfl | simp [*]); (with_reducible repeat (first | refine bN ?_ _ | refine bD ?_ | refine bA ?_ _)); refine Qbt (cs := #[.bool false, .bool false, .bool false, .bool false]) ?_ 2 _ (by first | rfl | simp [*]); (with_reducible repeat (first | refine bN ?_ _ | refine bD ?_ | refine bA ?_ _)); refine Qbt (cs := #[.bool false, .bool false, .bool false, .bool false]) ?_ 1 _ (by first | rfl | simp [*]); (with_reducible repeat (first | refine bN ?_ _ | refine bD ?_ | refine bA ?_ _)); refine Qbt (cs := #[.bool false, .bool false, .bool false, .bool false]) ?_ 0 _ (by first | rfl | simp [*]); (with_reducible repeat (first | refine bN ?_ _ | refine bD ?_ | refine bA ?_ _)); exact K116.out) Tryz.underlying196 rfl (by kernel_rfl)) rfl ?_
  exact ⟨oR, BU HB.out⟩
 subst c3
 rw [if_pos rfl] at H
 by_cases c4 : a0 = 1
 ·rw [if_pos c4] at H
  have c4b0 : (a0 == 1) = true := beq_iff_eq.mpr c4
  have c4b1 : (a0 != 1) = false := bne_eq_false_iff_eq.mpr c4
  clear c4
  simp only [Option.some.injEq, Prod.mk.injEq] at H
  obtain ⟨rfl, rfl, rfl, rfl, rfl⟩ := H
  go_enter Tryz.func129, Tryz.ntmps129
  go_wp2_with (first | ((with_reducible refine gD 2 ?_); refine bY HB.out ?_; intro gb116 w5 hg hb K116 GW116 HB; clear hb hg) | ((with_reducible refine Qbo (f := 162) rfl ?_); refine gL (some 6) Tryz.func162 #[.int .i64 a0] ?_; (with_reducible refine (Qbf.calls a0 true _ A2.out).mono ?_); rintro e w' ⟨rfl, ⟨nd, rfl⟩⟩; refine ⟨_, rfl, ?_⟩; (try (rw [Qdy w5]; generalize hq_ : World.drewN w5 _ = w5; replace K116 : Qbk (w5.heap[gb116]? = some (.cells #[.bool false, .bool false, .bool false, .bool false] 196 (0, 0))) := ⟨by rw [← hq_]; exact (bU K116.out)⟩; replace HB : Qbk (Below w.heap.size w w5) := ⟨by rw [← hq_]; exact (BU HB.out)⟩; clear hq_)); have q6_ := cN4 K116.out))
  refine bodyPost_ret (Qch rfl _ _ gb116 196 #[.bool true, .bool false, .bool false, .bool true] (0, 0) _ rfl (by (with_reducible repeat (first | refine bN ?_ _ | refine bD ?_ | refine bA ?_ _)); refine Qbt (cs := #[.bool true, .bool false, .bool false, .bool false]) ?_ 3 _ (by first | rfl | simp [*]); (with_reducible repeat (first | refine bN ?_ _ | refine bD ?_ | refine bA ?_ _)); refine Qbt (cs := #[.bool true, .bool false, .bool false, .bool false]) ?_ 2 _ (by first | rfl | simp [*]); (with_reducible repeat (first | refine bN ?_ _ | refine bD ?_ | refine bA ?_ _)); refine Qbt (cs := #[.bool true, .bool false, .bool false, .bool false]) ?_ 1 _ (by first | rfl | simp [*]); (with_reducible repeat (first | refine bN ?_ _ | refine bD ?_ | refine bA ?_ _)); refine Qbt (cs := #[.bool false, .bool false, .bool false, .bool false]) ?_ 0 _ (by first | rfl | simp [*]); (with_reducible repeat (first | refine bN ?_ _ | refine bD ?_ | refine bA ?_ _)); exact K116.out) Tryz.underlying196 rfl (by kernel_rfl)) rfl ?_
  exact ⟨oR, BU HB.out⟩
 rw [if_neg c4] at H
 have c4b0 : (a0 == 1) = false := beq_eq_false_iff_ne.mpr c4
 have c4b1 : (a0 != 1) = true := bne_iff_ne.mpr c4
 by_cases c7 : a0 ≤ 4
 ·rw [if_pos c7] at H
  have c7b0 := decide_eq_true c7
  clear c7
  simp only [Option.some.injEq, Prod.mk.injEq] at H
  obtain ⟨rfl, rfl, rfl, rfl, rfl⟩ := H
  go_enter Tryz.func129, Tryz.ntmps129
  go_wp2_with (first | ((with_reducible refine gD 2 ?_); refine bY HB.out ?_; intro gb116 w8 hg hb K116 GW116 HB; clear hb hg) | ((with_reducible refine Qbo (f := 162) rfl ?_); refine gL (some 6) Tryz.func162 #[.int .i64 a0] ?_; (with_reducible refine (Qbf.calls a0 true _ A2.out).mono ?_); rintro e w' ⟨rfl, ⟨nd, rfl⟩⟩; refine ⟨_, rfl, ?_⟩; (try (rw [Qdy w8]; generalize hq_ : World.drewN w8 _ = w8; replace K116 : Qbk (w8.heap[gb116]? = some (.cells #[.bool false, .bool false, .bool false, .bool false] 196 (0, 0))) := ⟨by rw [← hq_]; exact (bU K116.out)⟩; replace HB : Qbk (Below w.heap.size w w8) := ⟨by rw [← hq_]; exact (BU HB.out)⟩; clear hq_)); have q9_ := cN4 K116.out))
  refine bodyPost_ret (Qch rfl _ _ gb116 196 #[.bool true, .bool true, .bool false, .bool false] (0, 0) _ rfl (by (with_reducible repeat (first | refine bN ?_ _ | refine bD ?_ | refine bA ?_ _)); refine Qbt (cs := #[.bool true, .bool true, .bool false, .bool false]) ?_ 3 _ (by first | rfl | simp [*]); (with_reducible repeat (first | refine bN ?_ _ | refine bD ?_ | refine bA ?_ _)); refine Qbt (cs := #[.bool true, .bool true, .bool false, .bool false]) ?_ 2 _ (by first | rfl | simp [*]); (with_reducible repeat (first | refine bN ?_ _ | refine bD ?_ | refine bA ?_ _)); refine Qbt (cs := #[.bool true, .bool false, .bool false, .bool false]) ?_ 1 _ (by first | rfl | simp [*]); (with_reducible repeat (first | refine bN ?_ _ | refine bD ?_ | refine bA ?_ _)); refine Qbt (cs := #[.bool false, .bool false, .bool false, .bool false]) ?_ 0 _ (by first | rfl | simp [*]); (with_reducible repeat (first | refine bN ?_ _ | refine bD ?_ | refine bA ?_ _)); exact K116.out) Tryz.underlying196 rfl (by kernel_rfl)) rfl ?_
  exact ⟨oR, BU HB.out⟩
 rw [if_neg c7] at H
 have c7b0 := decide_eq_false c7
 clear c7
 by_cases c10 : a0 ≤ 16
 rotate_left
 ·rw [if_neg c10] at H
  have c10b0 := decide_eq_false c10
  clear c10
  simp only [Option.some.injEq, Prod.mk.injEq] at H
  obtain ⟨rfl, rfl, rfl, rfl, rfl⟩ := H
  go_enter Tryz.func129, Tryz.ntmps129
  go_wp2_with (first | ((with_reducible refine gD 2 ?_); refine bY HB.out ?_; intro gb116 w13 hg hb K116 GW116 HB; clear hb hg) | ((with_reducible refine Qbo (f := 162) rfl ?_); refine gL (some 6) Tryz.func162 #[.int .i64 a0] ?_; (with_reducible refine (Qbf.calls a0 true _ A2.out).mono ?_); rintro e w' ⟨rfl, ⟨nd, rfl⟩⟩; refine ⟨_, rfl, ?_⟩; (try (rw [Qdy w13]; generalize hq_ : World.drewN w13 _ = w13; replace K116 : Qbk (w13.heap[gb116]? = some (.cells #[.bool false, .bool false, .bool false, .bool false] 196 (0, 0))) := ⟨by rw [← hq_]; exact (bU K116.out)⟩; replace HB : Qbk (Below w.heap.size w w13) := ⟨by rw [← hq_]; exact (BU HB.out)⟩; clear hq_)); have q14_ := cN4 K116.out))
  refine bodyPost_ret (Qch rfl _ _ gb116 196 #[.bool false, .bool (a0 == 17), .bool false, .bool false] (0, 0) _ rfl (by (with_reducible repeat (first | refine bN ?_ _ | refine bD ?_ | refine bA ?_ _)); refine Qbt (cs := #[.bool false, .bool (a0 == 17), .bool false, .bool false]) ?_ 3 _ (by first | rfl | simp [*]); (with_reducible repeat (first | refine bN ?_ _ | refine bD ?_ | refine bA ?_ _)); refine Qbt (cs := #[.bool false, .bool (a0 == 17), .bool false, .bool false]) ?_ 2 _ (by first | rfl | simp [*]); (with_reducible repeat (first | refine bN ?_ _ | refine bD ?_ | refine bA ?_ _)); refine Qbt (cs := #[.bool false, .bool false, .bool false, .bool false]) ?_ 1 _ (by first | rfl | simp [*]); (with_reducible repeat (first | refine bN ?_ _ | refine bD ?_ | refine bA ?_ _)); refine Qbt (cs := #[.bool false, .bool false, .bool false, .bool false]) ?_ 0 _ (by first | rfl | simp [*]); (with_reducible repeat (first | refine bN ?_ _ | refine bD ?_ | refine bA ?_ _)); exact K116.out) Tryz.underlying196 rfl (by kernel_rfl)) rfl ?_
  exact ⟨oR, BU HB.out⟩
 rw [if_pos c10] at H
 have c10b0 := decide_eq_true c10
 clear c10
 simp only [Option.some.injEq, Prod.mk.injEq] at H
 obtain ⟨rfl, rfl, rfl, rfl, rfl⟩ := H
 go_enter Tryz.func129, Tryz.ntmps129
 go_wp2_with (first | ((with_reducible refine gD 2 ?_); refine bY HB.out ?_; intro gb116 w11 hg hb K116 GW116 HB; clear hb hg) | ((with_reducible refine Qbo (f := 162) rfl ?_); refine gL (some 6) Tryz.func162 #[.int .i64 a0] ?_; (with_reducible refine (Qbf.calls a0 true _ A2.out).mono ?_); rintro e w' ⟨rfl, ⟨nd, rfl⟩⟩; refine ⟨_, rfl, ?_⟩; (try (rw [Qdy w11]; generalize hq_ : World.drewN w11 _ = w11; replace K116 : Qbk (w11.heap[gb116]? = some (.cells #[.bool false, .bool false, .bool false, .bool false] 196 (0, 0))) := ⟨by rw [← hq_]; exact (bU K116.out)⟩; replace HB : Qbk (Below w.heap.size w w11) := ⟨by rw [← hq_]; exact (BU HB.out)⟩; clear hq_)); have q12_ := cN4 K116.out))
 refine bodyPost_ret (Qch rfl _ _ gb116 196 #[.bool true, .bool true, .bool true, .bool false] (0, 0) _ rfl (by (with_reducible repeat (first | refine bN ?_ _ | refine bD ?_ | refine bA ?_ _)); refine Qbt (cs := #[.bool true, .bool true, .bool true, .bool false]) ?_ 3 _ (by first | rfl | simp [*]); (with_reducible repeat (first | refine bN ?_ _ | refine bD ?_ | refine bA ?_ _)); refine Qbt (cs := #[.bool true, .bool true, .bool false, .bool false]) ?_ 2 _ (by first | rfl | simp [*]); (with_reducible repeat (first | refine bN ?_ _ | refine bD ?_ | refine bA ?_ _)); refine Qbt (cs := #[.bool true, .bool false, .bool false, .bool false]) ?_ 1 _ (by first | rfl | simp [*]); (with_reducible repeat (first | refine bN ?_ _ | refine bD ?_ | refine bA ?_ _)); refine Qbt (cs := #[.bool false, .bool false, .bool false, .bool false]) ?_ 0 _ (by first | rfl | simp [*]); (with_reducible repeat (first | refine bN ?_ _ | refine bD ?_ | refine bA ?_ _)); exact K116.out) Tryz.underlying196 rfl (by kernel_rfl)) rfl ?_
 exact ⟨oR, BU HB.out⟩
def opcode_Machine.f (a0 : Int) : Option (Bool) := (Qbf.f a0).bind fun t164 => (if t164 = true then (some (a0 != 2)) else (some false))
theorem opcode_Machine.calls (a0 : Int) (r : Bool) (w : World) (h : opcode_Machine.f a0 = some r) :
 Calls Tryz.prog 133 #[.int .i64 a0] w fun e w' => e = .returned (.bool r) ∧ Qbz w w' := by
 have H : ((Qbf.f a0).bind fun t164 => (if t164 = true then (some (a0 != 2)) else (some false))) = some r := h
 clear h
 replace H := Option.bind_eq_some_iff.mp H
 obtain ⟨t164, A20, H⟩ := H
 have A2 := As0 A20
 clear A20
 by_cases c3 : t164 = true
 ·subst c3
  rw [if_pos rfl] at H
  obtain rfl := Option.some.inj H
  go_enter Tryz.func133, Tryz.ntmps133
  go_wp2_with (first | ((with_reducible refine Qbo (f := 162) rfl ?_); refine gL (some 4) Tryz.func162 #[.int .i64 a0] ?_; (with_reducible refine (Qbf.calls a0 true _ A2.out).mono ?_); rintro e w' ⟨rfl, ⟨nd, rfl⟩⟩; refine ⟨_, rfl, ?_⟩))
  go_ret
  exact dR
 replace c3 := Bool.eq_false_iff.mpr c3
 subst c3
 rw [if_neg bF] at H
 obtain rfl := Option.some.inj H
 go_enter Tryz.func133, Tryz.ntmps133
 go_wp2_with (first | ((with_reducible refine Qbo (f := 162) rfl ?_); refine gL (some 4) Tryz.func162 #[.int .i64 a0] ?_; (with_reducible refine (Qbf.calls a0 false _ A2.out).mono ?_); rintro e w' ⟨rfl, ⟨nd, rfl⟩⟩; refine ⟨_, rfl, ?_⟩))
 go_ret
 exact dR
mutual
def Qak.l0 : Nat → List (S235) → Int → Int → Option (Bool)
 | 0, _, _, _ => none
 | k + 1, x5, x6, x7 => if x7 < x6 then (if 0 ≤ x7 then (if x7 < (x5.length : Int) then (if (Qa6 x5 x7).f1 = true then (if ((Qa6 x5 x7).f0) < 0 then (Qak.j1 k x5 x6 x7 true) else (Qak.j1 k x5 x6 x7 (decide (((Qa6 x5 x7).f0) ≥ ((Qa6 x5 x7).f2))))) else (Qak.j1 k x5 x6 x7 false)) else (none)) else (none)) else (some true)
def Qak.j1 : Nat → List (S235) → Int → Int → Bool → Option (Bool)
 | 0, _, _, _, _ => none
 | k + 1, x5, x6, x7, x24 => if x24 = true then (some false) else (Qak.l0 k x5 x6 (wrap64 (x7 + 1)))
end
def Qak.f (k : Nat) (l0 : List (S235)) : Option (Bool) := Qak.l0 k l0 (l0.length : Int) 0
theorem Qak.calls (k : Nat) (A0 : Option Addr) (c0 : Nat) (l0 : List (S235)) (r : Bool) (w : World) (hr0 : Kd.C k235 w A0 l0.length l0) (hc0 : l0.length ≤ c0) (h : Qak.f k l0 = some r) :
 Calls Tryz.prog 170 #[.slice A0 l0.length c0] w fun e w' => e = .returned (.bool r) ∧ Below w.heap.size w w' := by
 have hu235 := Tryz.underlying235
 have R0 := As0 hr0
 have C0 := As0 hc0
 clear hr0 hc0
 have HB := As0 (Below.refl w.heap.size w)
 have H : (Qak.l0 k l0 (l0.length : Int) 0) = some r := h
 clear h
 have H' := As0 H
 clear H
 go_enter Tryz.func170, Tryz.ntmps170
 go_wp2
 go_loopg [7] k (fun kq v7 w' => ∃ (x7_1 : Int), v7 = .int .i64 x7_1 ∧ Qbk (Qak.l0 kq l0 (l0.length : Int) x7_1 = some r) ∧ Qbk (kq ≤ k) ∧ Qbk (Below w.heap.size w w'))
 case atStart => exact ⟨(0), eR, H', ⟨Nat.le_refl _⟩, ⟨BU HB.out⟩⟩
 case round =>
  clear H'
  obtain ⟨x7_1, rfl, HA, HK1, HB⟩ := hrel
  cases gk with
  | zero => exact absurd HA.out (by simp [Qak.l0])
  | succ k1 =>
   have H := HA.out
   clear HA
   simp only [Qak.l0] at H
   by_cases c2 : x7_1 < (l0.length : Int)
   rotate_left
   ·rw [if_neg c2] at H
    have c2b0 := decide_eq_false c2
    clear c2
    obtain rfl := Option.some.inj H
    go_wp2
    go_ret
    exact ⟨oR, BU HB.out⟩
   rw [if_pos c2] at H
   have c2b0 := decide_eq_true c2
   clear c2
   by_cases c3 : 0 ≤ x7_1
   rotate_left
   ·rw [if_neg c3] at H
    exact absurd H (by simp)
   rw [if_pos c3] at H
   have c3b0 := decide_eq_true c3
   clear c3
   by_cases c4 : x7_1 < (l0.length : Int)
   rotate_left
   ·rw [if_neg c4] at H
    exact absurd H (by simp)
   rw [if_pos c4] at H
   have c4b0 := decide_eq_true c4
   clear c4
   have C5 := As0 H
   clear H
   have p118 : 0 ≤ (x7_1 : Int) := qR
   have q118 : x7_1 < (l0.length : Int) := qR
   obtain ⟨ad118, e118, hx118_0, hx118_1, hx118_2⟩ := at_T235 R0.out x7_1 p118 q118
   cases e118
   replace hx118_0 := cl HB hx118_0
   replace hx118_1 := cl HB hx118_1
   replace hx118_2 := cl HB hx118_2
   replace p118 := eq_true p118
   replace q118 := eq_true q118
   go_upto_region 4 with (first | ((with_reducible refine gD 4 ?_); refine bY HB.out ?_; intro gb119 w6 hg hb K119 GW119 HB; clear hb hg; have q7_ := cN3 K119.out))
   (try simp only [Act.put, sL1, sL2, sL3])
   go_cut [24] (fun v24 wc => ∃ (kq : Nat) (x24_4 : Bool), v24 = .bool x24_4 ∧ Qbk (Qak.j1 kq l0 (l0.length : Int) x7_1 x24_4 = some r) ∧ Qbk (kq ≤ k1) ∧ Qbk (wc.heap[gb119]? = some (.cells #[.int .i64 ((Qa6 l0 x7_1).f0), .bool ((Qa6 l0 x7_1).f1), .int .i64 ((Qa6 l0 x7_1).f2)] 235 (0, 0))) ∧ Qbk (Below w.heap.size w wc))
   case first =>
    have H := C5.out
    clear C5
    obtain ⟨bq8, hbq8⟩ : ∃ b_ : Bool, b_ = ((Qa6 l0 x7_1).f1) := ⟨_, rfl⟩
    replace H : (if bq8 = true then (if ((Qa6 l0 x7_1).f0) < 0 then (Qak.j1 k1 l0 (l0.length : Int) x7_1 true) else (Qak.j1 k1 l0 (l0.length : Int) x7_1 (decide (((Qa6 l0 x7_1).f0) ≥ ((Qa6 l0 x7_1).f2))))) else (Qak.j1 k1 l0 (l0.length : Int) x7_1 false)) = some r := by rw [← hbq8] at H; exact H
    have Nbq8 := As0 hbq8
    clear hbq8
    (try rw [← Nbq8.out])
    by_cases c9 : bq8 = true
    rotate_left
    ·replace c9 := Bool.eq_false_iff.mpr c9
     subst c9
     rw [if_neg bF] at H
     have H' := As0 H
     clear H
     have q13_ := cN3 K119.out
     go_wp2
     go_meet
     case rel => exact ⟨_, (false), eR, H', ⟨by have := HK1.out; first | omega | exact Nat.le_refl _⟩, ⟨by (with_reducible repeat (first | refine bN ?_ _ | refine bD ?_ | refine bA ?_ _)); refine Qbt (cs := #[.int .i64 ((Qa6 l0 x7_1).f0), .bool (false), .int .i64 0]) ?_ 2 _ (by first | rfl | (rw [← Nbq8.out]; rfl)); (with_reducible repeat (first | refine bN ?_ _ | refine bD ?_ | refine bA ?_ _)); refine Qbt (cs := #[.int .i64 ((Qa6 l0 x7_1).f0), .bool false, .int .i64 0]) ?_ 1 _ (by first | rfl | (rw [← Nbq8.out]; rfl)); (with_reducible repeat (first | refine bN ?_ _ | refine bD ?_ | refine bA ?_ _)); refine Qbt (cs := #[.int .i64 0, .bool false, .int .i64 0]) ?_ 0 _ (by first | rfl | (rw [← Nbq8.out]; rfl)); (with_reducible repeat (first | refine bN ?_ _ | refine bD ?_ | refine bA ?_ _)); exact K119.out⟩, ⟨BU HB.out⟩⟩
    subst c9
    rw [if_pos rfl] at H
    by_cases c10 : ((Qa6 l0 x7_1).f0) < 0
    rotate_left
    ·rw [if_neg c10] at H
     have c10b0 := decide_eq_false c10
     clear c10
     have H' := As0 H
     clear H
     have q12_ := cN3 K119.out
     go_wp2
     go_meet
     case rel => exact ⟨_, (decide (((Qa6 l0 x7_1).f0) ≥ ((Qa6 l0 x7_1).f2))), eR, H', ⟨by have := HK1.out; first | omega | exact Nat.le_refl _⟩, ⟨by (with_reducible repeat (first | refine bN ?_ _ | refine bD ?_ | refine bA ?_ _)); refine Qbt (cs := #[.int .i64 ((Qa6 l0 x7_1).f0), .bool (true), .int .i64 0]) ?_ 2 _ (by first | rfl | (rw [← Nbq8.out]; rfl)); (with_reducible repeat (first | refine bN ?_ _ | refine bD ?_ | refine bA ?_ _)); refine Qbt (cs := #[.int .i64 ((Qa6 l0 x7_1).f0), .bool false, .int .i64 0]) ?_ 1 _ (by first | rfl | (rw [← Nbq8.out]; rfl)); (with_reducible repeat (first | refine bN ?_ _ | refine bD ?_ | refine bA ?_ _)); refine Qbt (cs := #[.int .i64 0, .bool false, .int .i64 0]) ?_ 0 _ (by first | rfl | (rw [← Nbq8.out]; rfl)); (with_reducible repeat (first | refine bN ?_ _ | refine bD ?_ | refine bA ?_ _)); exact K119.out⟩, ⟨BU HB.out⟩⟩
    rw [if_pos c10] at H
    have c10b0 := decide_eq_true c10
    clear c10
    have H' := As0 H
    clear H
    have q11_ := cN3 K119.out
    go_wp2
    go_meet
    case rel => exact ⟨_, (true), eR, H', ⟨by have := HK1.out; first | omega | exact Nat.le_refl _⟩, ⟨by (with_reducible repeat (first | refine bN ?_ _ | refine bD ?_ | refine bA ?_ _)); refine Qbt (cs := #[.int .i64 ((Qa6 l0 x7_1).f0), .bool (true), .int .i64 0]) ?_ 2 _ (by first | rfl | (rw [← Nbq8.out]; rfl)); (with_reducible repeat (first | refine bN ?_ _ | refine bD ?_ | refine bA ?_ _)); refine Qbt (cs := #[.int .i64 ((Qa6 l0 x7_1).f0), .bool false, .int .i64 0]) ?_ 1 _ (by first | rfl | (rw [← Nbq8.out]; rfl)); (with_reducible repeat (first | refine bN ?_ _ | refine bD ?_ | refine bA ?_ _)); refine Qbt (cs := #[.int .i64 0, .bool false, .int .i64 0]) ?_ 0 _ (by first | rfl | (rw [← Nbq8.out]; rfl)); (with_reducible repeat (first | refine bN ?_ _ | refine bD ?_ | refine bA ?_ _)); exact K119.out⟩, ⟨BU HB.out⟩⟩
   case rest =>
    clear C5
    obtain ⟨kq, x24_4, rfl, HA, HJ4, K119, HB⟩ := hcut
    cases kq with
    | zero => exact absurd HA.out (by simp [Qak.j1])
    | succ kj4 =>
     have H := HA.out
     clear HA
     simp only [Qak.j1] at H
     by_cases c14 : x24_4 = true
     ·subst c14
      rw [if_pos rfl] at H
      obtain rfl := Option.some.inj H
      go_wp2
      go_ret
      exact ⟨oR, BU HB.out⟩
     replace c14 := Bool.eq_false_iff.mpr c14
     subst c14
     rw [if_neg bF] at H
     have H' := As0 H
     clear H
     go_wp2
     go_roundg kj4
     case measure => have := HK1.out; have := HJ4.out; omega
     case rel => exact ⟨(wrap64 (x7_1 + 1)), eR, H', ⟨by have := HK1.out; have := HJ4.out; omega⟩, ⟨BU HB.out⟩⟩
mutual
def Qa0.l0 : Nat → List (S235) → Int → Int → Option (Bool)
 | 0, _, _, _ => none
 | k + 1, x5, x6, x7 => if x7 < x6 then (if 0 ≤ x7 then (if x7 < (x5.length : Int) then (if ((Qa6 x5 x7).f1 = true) then (Qa0.j1 k x5 x6 x7 false) else (Qa0.j1 k x5 x6 x7 (((Qa6 x5 x7).f0) != 0))) else (none)) else (none)) else (some true)
def Qa0.j1 : Nat → List (S235) → Int → Int → Bool → Option (Bool)
 | 0, _, _, _, _ => none
 | k + 1, x5, x6, x7, x18 => if x18 = true then (some false) else (Qa0.l0 k x5 x6 (wrap64 (x7 + 1)))
end
def Qa0.f (k : Nat) (l0 : List (S235)) : Option (Bool) := Qa0.l0 k l0 (l0.length : Int) 0
theorem Qa0.calls (k : Nat) (A0 : Option Addr) (c0 : Nat) (l0 : List (S235)) (r : Bool) (w : World) (hr0 : Kd.C k235 w A0 l0.length l0) (hc0 : l0.length ≤ c0) (h : Qa0.f k l0 = some r) :
 Calls Tryz.prog 171 #[.slice A0 l0.length c0] w fun e w' => e = .returned (.bool r) ∧ Below w.heap.size w w' := by
 have hu235 := Tryz.underlying235
 have R0 := As0 hr0
 have C0 := As0 hc0
 clear hr0 hc0
 have HB := As0 (Below.refl w.heap.size w)
 have H : (Qa0.l0 k l0 (l0.length : Int) 0) = some r := h
 clear h
 have H' := As0 H
 clear H
 go_enter Tryz.func171, Tryz.ntmps171
 go_wp2
 go_loopg [7] k (fun kq v7 w' => ∃ (x7_1 : Int), v7 = .int .i64 x7_1 ∧ Qbk (Qa0.l0 kq l0 (l0.length : Int) x7_1 = some r) ∧ Qbk (kq ≤ k) ∧ Qbk (Below w.heap.size w w'))
 case atStart => exact ⟨(0), eR, H', ⟨Nat.le_refl _⟩, ⟨BU HB.out⟩⟩
 case round =>
  clear H'
  obtain ⟨x7_1, rfl, HA, HK1, HB⟩ := hrel
  cases gk with
  | zero => exact absurd HA.out (by simp [Qa0.l0])
  | succ k1 =>
   have H := HA.out
   clear HA
   simp only [Qa0.l0] at H
   by_cases c2 : x7_1 < (l0.length : Int)
   rotate_left
   ·rw [if_neg c2] at H
    have c2b0 := decide_eq_false c2
    clear c2
    obtain rfl := Option.some.inj H
    go_wp2
    go_ret
    exact ⟨oR, BU HB.out⟩
   rw [if_pos c2] at H
   have c2b0 := decide_eq_true c2
   clear c2
   by_cases c3 : 0 ≤ x7_1
   rotate_left
   ·rw [if_neg c3] at H
    exact absurd H (by simp)
   rw [if_pos c3] at H
   have c3b0 := decide_eq_true c3
   clear c3
   by_cases c4 : x7_1 < (l0.length : Int)
   rotate_left
   ·rw [if_neg c4] at H
    exact absurd H (by simp)
   rw [if_pos c4] at H
   have c4b0 := decide_eq_true c4
   clear c4
   have C5 := As0 H
   clear H
   have p120 : 0 ≤ (x7_1 : Int) := qR
   have q120 : x7_1 < (l0.length : Int) := qR
   obtain ⟨ad120, e120, hx120_0, hx120_1, hx120_2⟩ := at_T235 R0.out x7_1 p120 q120
   cases e120
   replace hx120_0 := cl HB hx120_0
   replace hx120_1 := cl HB hx120_1
   replace hx120_2 := cl HB hx120_2
   replace p120 := eq_true p120
   replace q120 := eq_true q120
   go_upto_region 4 with (first | ((with_reducible refine gD 4 ?_); refine bY HB.out ?_; intro gb121 w6 hg hb K121 GW121 HB; clear hb hg; have q7_ := cN3 K121.out))
   (try simp only [Act.put, sL1, sL2, sL3])
   go_cut [18] (fun v18 wc => ∃ (kq : Nat) (x18_4 : Bool), v18 = .bool x18_4 ∧ Qbk (Qa0.j1 kq l0 (l0.length : Int) x7_1 x18_4 = some r) ∧ Qbk (kq ≤ k1) ∧ Qbk (wc.heap[gb121]? = some (.cells #[.int .i64 ((Qa6 l0 x7_1).f0), .bool ((Qa6 l0 x7_1).f1), .int .i64 ((Qa6 l0 x7_1).f2)] 235 (0, 0))) ∧ Qbk (Below w.heap.size w wc))
   case first =>
    have H := C5.out
    clear C5
    obtain ⟨bq8, hbq8⟩ : ∃ b_ : Bool, b_ = ((Qa6 l0 x7_1).f1) := ⟨_, rfl⟩
    replace H : (if (bq8 = true) then (Qa0.j1 k1 l0 (l0.length : Int) x7_1 false) else (Qa0.j1 k1 l0 (l0.length : Int) x7_1 (((Qa6 l0 x7_1).f0) != 0))) = some r := by rw [← hbq8] at H; exact H
    have Nbq8 := As0 hbq8
    clear hbq8
    (try rw [← Nbq8.out])
    by_cases c9 : (bq8 = true)
    ·subst c9
     rw [if_pos rfl] at H
     have H' := As0 H
     clear H
     have q10_ := cN3 K121.out
     go_wp2
     go_meet
     case rel => exact ⟨_, (false), eR, H', ⟨by have := HK1.out; first | omega | exact Nat.le_refl _⟩, ⟨by (with_reducible repeat (first | refine bN ?_ _ | refine bD ?_ | refine bA ?_ _)); refine Qbt (cs := #[.int .i64 ((Qa6 l0 x7_1).f0), .bool (true), .int .i64 0]) ?_ 2 _ (by first | rfl | (rw [← Nbq8.out]; rfl)); (with_reducible repeat (first | refine bN ?_ _ | refine bD ?_ | refine bA ?_ _)); refine Qbt (cs := #[.int .i64 ((Qa6 l0 x7_1).f0), .bool false, .int .i64 0]) ?_ 1 _ (by first | rfl | (rw [← Nbq8.out]; rfl)); (with_reducible repeat (first | refine bN ?_ _ | refine bD ?_ | refine bA ?_ _)); refine Qbt (cs := #[.int .i64 0, .bool false, .int .i64 0]) ?_ 0 _ (by first | rfl | (rw [← Nbq8.out]; rfl)); (with_reducible repeat (first | refine bN ?_ _ | refine bD ?_ | refine bA ?_ _)); exact K121.out⟩, ⟨BU HB.out⟩⟩
    replace c9 := Bool.eq_false_iff.mpr c9
    subst c9
    rw [if_neg bF] at H
    have H' := As0 H
    clear H
    have q11_ := cN3 K121.out
    go_wp2
    go_meet
    case rel => exact ⟨_, ((((Qa6 l0 x7_1).f0) != 0)), eR, H', ⟨by have := HK1.out; first | omega | exact Nat.le_refl _⟩, ⟨by (with_reducible repeat (first | refine bN ?_ _ | refine bD ?_ | refine bA ?_ _)); refine Qbt (cs := #[.int .i64 ((Qa6 l0 x7_1).f0), .bool (false), .int .i64 0]) ?_ 2 _ (by first | rfl | (rw [← Nbq8.out]; rfl)); (with_reducible repeat (first | refine bN ?_ _ | refine bD ?_ | refine bA ?_ _)); refine Qbt (cs := #[.int .i64 ((Qa6 l0 x7_1).f0), .bool false, .int .i64 0]) ?_ 1 _ (by first | rfl | (rw [← Nbq8.out]; rfl)); (with_reducible repeat (first | refine bN ?_ _ | refine bD ?_ | refine bA ?_ _)); refine Qbt (cs := #[.int .i64 0, .bool false, .int .i64 0]) ?_ 0 _ (by first | rfl | (rw [← Nbq8.out]; rfl)); (with_reducible repeat (first | refine bN ?_ _ | refine bD ?_ | refine bA ?_ _)); exact K121.out⟩, ⟨BU HB.out⟩⟩
   case rest =>
    clear C5
    obtain ⟨kq, x18_4, rfl, HA, HJ4, K121, HB⟩ := hcut
    cases kq with
    | zero => exact absurd HA.out (by simp [Qa0.j1])
    | succ kj4 =>
     have H := HA.out
     clear HA
     simp only [Qa0.j1] at H
     by_cases c12 : x18_4 = true
     ·subst c12
      rw [if_pos rfl] at H
      obtain rfl := Option.some.inj H
      go_wp2
      go_ret
      exact ⟨oR, BU HB.out⟩
     replace c12 := Bool.eq_false_iff.mpr c12
     subst c12
     rw [if_neg bF] at H
     have H' := As0 H
     clear H
     go_wp2
     go_roundg kj4
     case measure => have := HK1.out; have := HJ4.out; omega
     case rel => exact ⟨(wrap64 (x7_1 + 1)), eR, H', ⟨by have := HK1.out; have := HJ4.out; omega⟩, ⟨BU HB.out⟩⟩
def Qba.j0 : Nat → Bool → Option (Int)
 | 0, _ => none
 | k + 1, x42 => if x42 = true then (some 12) else (some 0)
def Qba.f (k : Nat) (a0_0 a0_1 a0_2 a0_3 a0_4 a1 : Int) : Option (Int) := (opcode_Of.f a0_0).bind fun bt123 => ((some (([(⟨a0_1, bt123.1, a1⟩ : S235), (⟨a0_2, bt123.2.1, a1⟩ : S235), (⟨a0_3, bt123.2.2.1, a1⟩ : S235)] : List (S235)) : List (S235))).bind fun y129 => ((opcode_Source.f a0_0).bind fun t132 => (if t132 = true then ((Qak.f k y129).bind fun t133 => (if t133 = true then ((Qa0.f k y129).bind fun t134 => (if t134 = true then (if bt123.2.2.2.1 = true then (Qba.j0 k false) else (Qba.j0 k (a0_4 != 0))) else (Qba.j0 k true))) else (some 9))) else (some 8))))
theorem Qba.calls (k : Nat) (a0_0 a0_1 a0_2 a0_3 a0_4 a1 r : Int) (w : World) (h : Qba.f k a0_0 a0_1 a0_2 a0_3 a0_4 a1 = some r) :
 Calls Tryz.prog 148 #[.agg #[.int .i64 a0_0, .int .i64 a0_1, .int .i64 a0_2, .int .i64 a0_3, .int .i64 a0_4], .int .i64 a1] w fun e w' => e = .returned (.int .i64 r) ∧ Below w.heap.size w w' := by
 have hu41 := Tryz.underlying41
 have hu196 := Tryz.underlying196
 have hu235 := Tryz.underlying235
 have HB := As0 (Below.refl w.heap.size w)
 have H : ((opcode_Of.f a0_0).bind fun bt123 => ((some (([(⟨a0_1, bt123.1, a1⟩ : S235), (⟨a0_2, bt123.2.1, a1⟩ : S235), (⟨a0_3, bt123.2.2.1, a1⟩ : S235)] : List (S235)) : List (S235))).bind fun y129 => ((opcode_Source.f a0_0).bind fun t132 => (if t132 = true then ((Qak.f k y129).bind fun t133 => (if t133 = true then ((Qa0.f k y129).bind fun t134 => (if t134 = true then (if bt123.2.2.2.1 = true then (Qba.j0 k false) else (Qba.j0 k (a0_4 != 0))) else (Qba.j0 k true))) else (some 9))) else (some 8))))) = some r := h
 clear h
 replace H := Option.bind_eq_some_iff.mp H
 obtain ⟨⟨t123, t124, t125, t126, t127⟩, A30, H⟩ := H
 have A3 := As0 A30
 clear A30
 obtain ⟨y129, hy129⟩ : ∃ y_ : List (S235), y_ = (([(⟨a0_1, t123, a1⟩ : S235), (⟨a0_2, t124, a1⟩ : S235), (⟨a0_3, t125, a1⟩ : S235)] : List (S235))) := ⟨_, rfl⟩
 replace H : ((opcode_Source.f a0_0).bind fun t132 => (if t132 = true then ((Qak.f k y129).bind fun t133 => (if t133 = true then ((Qa0.f k y129).bind fun t134 => (if t134 = true then (if t126 = true then (Qba.j0 k false) else (Qba.j0 k (a0_4 != 0))) else (Qba.j0 k true))) else (some 9))) else (some 8))) = some r := by first | (rw [hy129]; exact H) | exact H
 have Ny129 := As0 hy129
 clear hy129
 replace H := Option.bind_eq_some_iff.mp H
 obtain ⟨t132, A40, H⟩ := H
 have A4 := As0 A40
 clear A40
 by_cases c5 : t132 = true
 rotate_left
 ·replace c5 := Bool.eq_false_iff.mpr c5
  subst c5
  rw [if_neg bF] at H
  obtain rfl := Option.some.inj H
  go_enter Tryz.func148, Tryz.ntmps148
  go_wp2_with (first | ((with_reducible refine gD 2 ?_); refine bY HB.out ?_; intro gb122 w45 hg hb K122 GW122 HB; clear hb hg; have q46_ := cN5 K122.out) | ((with_reducible refine Qbo (f := 129) rfl ?_); refine gL (some 11) Tryz.func129 #[.int .i64 a0_0] ?_; (with_reducible refine (opcode_Of.calls a0_0 t123 t124 t125 t126 t127 _ A3.out).mono ?_); rintro e w47 ⟨rfl, hb⟩; refine ⟨_, rfl, ?_⟩; replace K122 := kB K122 hb; replace HB := sB HB hb; (try clear hb)) | ((with_reducible refine gD 5 ?_); refine bY HB.out ?_; intro gb128 w48 hg hb K128 GW128 HB; have N122_128 := pL hg K122; have N128_122 := pR hg K122; replace K122 := kB K122 hb; clear hb hg; have q50_ := cN4 K128.out; have q51_ := cN5 K122.out) | ((with_reducible refine gD 32 ?_); refine Kd.R_lit k235 _ 235 ?hg (N := 32) ?hd (xs := ([(⟨a0_1, t123, a1⟩ : S235), (⟨a0_2, t124, a1⟩ : S235), (⟨a0_3, t125, a1⟩ : S235)] : List (S235))) (inner := [.int .i64 a0_1, .bool t123, .int .i64 a1, .int .i64 a0_2, .bool t124, .int .i64 a1, .int .i64 a0_3, .bool t125, .int .i64 a1]) (ok := fun _ => True) (okp := fun _ => True) ?hr ?hp (fun _ hk => hk) trivial (Below.refl _ _) (Nat.le_refl _) (by simp) ?_; (case hd => rfl); (case hg => rfl); (case hr => first | (go_simp; done) | (go_simp; rfl)); (case hp => exact (Reps.c3 (Qb9 _ _ _ (⟨a0_1, t123, a1⟩ : S235)) (Reps.c3 (Qb9 _ _ _ (⟨a0_2, t124, a1⟩ : S235)) (Reps.c3 (Qb9 _ _ _ (⟨a0_3, t125, a1⟩ : S235)) (Reps.none _ _))))); intro v130 w52 ho53 hb hg_ hnew_; clear hg_ hnew_; (first | rw [← Ny129.out] at ho53 | (simp only [Int.reduceToNat] at ho53; rw [← Ny129.out] at ho53)); have O131 := As0 (Kd.R_lower ho53 (Qbm (BU HB.out))); replace K122 := kF K122 hb; replace K128 := kP (.cells #[.bool t123, .bool t124, .bool t125, .bool t126] 196 (0, 0)) K128 hb (e := by first | rfl | (rw [← Nbq8.out]; rfl)); replace HB := sB HB hb; clear hb ho53; have q54_ := cN5 K122.out) | ((with_reducible refine Qbo (f := 128) rfl ?_); refine gL (some 36) Tryz.func128 #[.int .i64 a0_0] ?_; (with_reducible refine (opcode_Source.calls a0_0 false _ A4.out).mono ?_); rintro e w' ⟨rfl, ⟨nd, rfl⟩⟩; refine ⟨_, rfl, ?_⟩))
  go_ret
  exact ⟨oR, BU HB.out⟩
 subst c5
 rw [if_pos rfl] at H
 replace H := Option.bind_eq_some_iff.mp H
 obtain ⟨t133, A60, H⟩ := H
 have A6 := As0 A60
 clear A60
 by_cases c7 : t133 = true
 rotate_left
 ·replace c7 := Bool.eq_false_iff.mpr c7
  subst c7
  rw [if_neg bF] at H
  obtain rfl := Option.some.inj H
  go_enter Tryz.func148, Tryz.ntmps148
  go_wp2_with (first | ((with_reducible refine gD 2 ?_); refine bY HB.out ?_; intro gb122 w33 hg hb K122 GW122 HB; clear hb hg; have q34_ := cN5 K122.out) | ((with_reducible refine Qbo (f := 129) rfl ?_); refine gL (some 11) Tryz.func129 #[.int .i64 a0_0] ?_; (with_reducible refine (opcode_Of.calls a0_0 t123 t124 t125 t126 t127 _ A3.out).mono ?_); rintro e w35 ⟨rfl, hb⟩; refine ⟨_, rfl, ?_⟩; replace K122 := kB K122 hb; replace HB := sB HB hb; (try clear hb)) | ((with_reducible refine gD 5 ?_); refine bY HB.out ?_; intro gb128 w36 hg hb K128 GW128 HB; have N122_128 := pL hg K122; have N128_122 := pR hg K122; replace K122 := kB K122 hb; clear hb hg; have q38_ := cN4 K128.out; have q39_ := cN5 K122.out) | ((with_reducible refine gD 32 ?_); refine Kd.R_lit k235 _ 235 ?hg (N := 32) ?hd (xs := ([(⟨a0_1, t123, a1⟩ : S235), (⟨a0_2, t124, a1⟩ : S235), (⟨a0_3, t125, a1⟩ : S235)] : List (S235))) (inner := [.int .i64 a0_1, .bool t123, .int .i64 a1, .int .i64 a0_2, .bool t124, .int .i64 a1, .int .i64 a0_3, .bool t125, .int .i64 a1]) (ok := fun _ => True) (okp := fun _ => True) ?hr ?hp (fun _ hk => hk) trivial (Below.refl _ _) (Nat.le_refl _) (by simp) ?_; (case hd => rfl); (case hg => rfl); (case hr => first | (go_simp; done) | (go_simp; rfl)); (case hp => exact (Reps.c3 (Qb9 _ _ _ (⟨a0_1, t123, a1⟩ : S235)) (Reps.c3 (Qb9 _ _ _ (⟨a0_2, t124, a1⟩ : S235)) (Reps.c3 (Qb9 _ _ _ (⟨a0_3, t125, a1⟩ : S235)) (Reps.none _ _))))); intro v130 w40 ho41 hb hg_ hnew_; clear hg_ hnew_; (first | rw [← Ny129.out] at ho41 | (simp only [Int.reduceToNat] at ho41; rw [← Ny129.out] at ho41)); have O131 := As0 (Kd.R_lower ho41 (Qbm (BU HB.out))); replace K122 := kF K122 hb; replace K128 := kP (.cells #[.bool t123, .bool t124, .bool t125, .bool t126] 196 (0, 0)) K128 hb (e := by first | rfl | (rw [← Nbq8.out]; rfl)); replace HB := sB HB hb; clear hb ho41; have q42_ := cN5 K122.out) | ((with_reducible refine Qbo (f := 128) rfl ?_); refine gL (some 36) Tryz.func128 #[.int .i64 a0_0] ?_; (with_reducible refine (opcode_Source.calls a0_0 true _ A4.out).mono ?_); rintro e w' ⟨rfl, ⟨nd, rfl⟩⟩; refine ⟨_, rfl, ?_⟩; obtain ⟨Ao43, co43, eo43⟩ := Kd.R_slice O131.out; subst eo43) | ((with_reducible refine Qbo (f := 170) rfl ?_); refine gL (some 40) Tryz.func170 #[.slice Ao43 y129.length co43] ?_; (with_reducible refine (Qak.calls k _ _ y129 false _ ?side1 ?side2 A6.out).mono ?_); (case side1 => exact CU (Kd.R_reads' O131.out).2.2); (case side2 => exact (Kd.R_reads' O131.out).2.1); rintro e w44 ⟨rfl, hb⟩; refine ⟨_, rfl, ?_⟩; replace O131 := As0 (Kd.R_below (RU O131.out) hb); replace K122 := kB K122 hb; replace K128 := kB K128 hb; replace HB := sB HB hb; (try clear hb)))
  go_ret
  exact ⟨oR, BU HB.out⟩
 subst c7
 rw [if_pos rfl] at H
 have C8 := As0 H
 clear H
 go_enter Tryz.func148, Tryz.ntmps148
 go_upto_region 7 with (first | ((with_reducible refine gD 2 ?_); refine bY HB.out ?_; intro gb122 w9 hg hb K122 GW122 HB; clear hb hg; have q10_ := cN5 K122.out) | ((with_reducible refine Qbo (f := 129) rfl ?_); refine gL (some 11) Tryz.func129 #[.int .i64 a0_0] ?_; (with_reducible refine (opcode_Of.calls a0_0 t123 t124 t125 t126 t127 _ A3.out).mono ?_); rintro e w11 ⟨rfl, hb⟩; refine ⟨_, rfl, ?_⟩; replace K122 := kB K122 hb; replace HB := sB HB hb; (try clear hb)) | ((with_reducible refine gD 5 ?_); refine bY HB.out ?_; intro gb128 w12 hg hb K128 GW128 HB; have N122_128 := pL hg K122; have N128_122 := pR hg K122; replace K122 := kB K122 hb; clear hb hg; have q14_ := cN4 K128.out; have q15_ := cN5 K122.out) | ((with_reducible refine gD 32 ?_); refine Kd.R_lit k235 _ 235 ?hg (N := 32) ?hd (xs := ([(⟨a0_1, t123, a1⟩ : S235), (⟨a0_2, t124, a1⟩ : S235), (⟨a0_3, t125, a1⟩ : S235)] : List (S235))) (inner := [.int .i64 a0_1, .bool t123, .int .i64 a1, .int .i64 a0_2, .bool t124, .int .i64 a1, .int .i64 a0_3, .bool t125, .int .i64 a1]) (ok := fun _ => True) (okp := fun _ => True) ?hr ?hp (fun _ hk => hk) trivial (Below.refl _ _) (Nat.le_refl _) (by simp) ?_; (case hd => rfl); (case hg => rfl); (case hr => first | (go_simp; done) | (go_simp; rfl)); (case hp => exact (Reps.c3 (Qb9 _ _ _ (⟨a0_1, t123, a1⟩ : S235)) (Reps.c3 (Qb9 _ _ _ (⟨a0_2, t124, a1⟩ : S235)) (Reps.c3 (Qb9 _ _ _ (⟨a0_3, t125, a1⟩ : S235)) (Reps.none _ _))))); intro v130 w16 ho17 hb hg_ hnew_; clear hg_ hnew_; (first | rw [← Ny129.out] at ho17 | (simp only [Int.reduceToNat] at ho17; rw [← Ny129.out] at ho17)); have O131 := As0 (Kd.R_lower ho17 (Qbm (BU HB.out))); replace K122 := kF K122 hb; replace K128 := kP (.cells #[.bool t123, .bool t124, .bool t125, .bool t126] 196 (0, 0)) K128 hb (e := by first | rfl | (rw [← Nbq8.out]; rfl)); replace HB := sB HB hb; clear hb ho17; have q18_ := cN5 K122.out) | ((with_reducible refine Qbo (f := 128) rfl ?_); refine gL (some 36) Tryz.func128 #[.int .i64 a0_0] ?_; (with_reducible refine (opcode_Source.calls a0_0 true _ A4.out).mono ?_); rintro e w' ⟨rfl, ⟨nd, rfl⟩⟩; refine ⟨_, rfl, ?_⟩; obtain ⟨Ao19, co19, eo19⟩ := Kd.R_slice O131.out; subst eo19) | ((with_reducible refine Qbo (f := 170) rfl ?_); refine gL (some 40) Tryz.func170 #[.slice Ao19 y129.length co19] ?_; (with_reducible refine (Qak.calls k _ _ y129 true _ ?side1 ?side2 A6.out).mono ?_); (case side1 => exact CU (Kd.R_reads' O131.out).2.2); (case side2 => exact (Kd.R_reads' O131.out).2.1); rintro e w20 ⟨rfl, hb⟩; refine ⟨_, rfl, ?_⟩; replace O131 := As0 (Kd.R_below (RU O131.out) hb); replace K122 := kB K122 hb; replace K128 := kB K128 hb; replace HB := sB HB hb; (try clear hb)))
 (try simp only [Act.put, sL1, sL2, sL3])
 go_cut [42] (fun v42 wc => ∃ (kq : Nat) (x42_7 : Bool), v42 = .bool x42_7 ∧ Qbk (Qba.j0 kq x42_7 = some r) ∧ Qbk (kq ≤ k) ∧ Qbk (wc.heap[gb122]? = some (.cells #[.int .i64 a0_0, .int .i64 a0_1, .int .i64 a0_2, .int .i64 a0_3, .int .i64 a0_4] 41 (0, 0))) ∧ Qbk (wc.heap[gb128]? = some (.cells #[.bool t123, .bool t124, .bool t125, .bool t126] 196 (0, 0))) ∧ Qbk (Below w.heap.size w wc))
 case first =>
  have H := C8.out
  clear C8
  replace H := Option.bind_eq_some_iff.mp H
  obtain ⟨t134, A210, H⟩ := H
  have A21 := As0 A210
  clear A210
  by_cases c22 : t134 = true
  rotate_left
  ·replace c22 := Bool.eq_false_iff.mpr c22
   subst c22
   rw [if_neg bF] at H
   have H' := As0 H
   clear H
   go_wp2_with (first | ((with_reducible refine Qbo (f := 171) rfl ?_); refine gL (some 44) Tryz.func171 #[.slice Ao19 y129.length co19] ?_; (with_reducible refine (Qa0.calls k _ _ y129 false _ ?side1 ?side2 A21.out).mono ?_); (case side1 => exact CU (Kd.R_reads' O131.out).2.2); (case side2 => exact (Kd.R_reads' O131.out).2.1); rintro e w31 ⟨rfl, hb⟩; refine ⟨_, rfl, ?_⟩; replace O131 := As0 (Kd.R_below (RU O131.out) hb); replace K122 := kB K122 hb; replace K128 := kB K128 hb; replace HB := sB HB hb; (try clear hb)))
   go_meet
   case rel => exact ⟨_, (true), eR, H', ⟨by first | omega | exact Nat.le_refl _⟩, ⟨bU K122.out⟩, ⟨bU K128.out⟩, ⟨BU HB.out⟩⟩
  subst c22
  rw [if_pos rfl] at H
  by_cases c23 : t126 = true
  ·subst c23
   rw [if_pos rfl] at H
   have H' := As0 H
   clear H
   go_wp2_with (first | ((with_reducible refine Qbo (f := 171) rfl ?_); refine gL (some 44) Tryz.func171 #[.slice Ao19 y129.length co19] ?_; (with_reducible refine (Qa0.calls k _ _ y129 true _ ?side1 ?side2 A21.out).mono ?_); (case side1 => exact CU (Kd.R_reads' O131.out).2.2); (case side2 => exact (Kd.R_reads' O131.out).2.1); rintro e w24 ⟨rfl, hb⟩; refine ⟨_, rfl, ?_⟩; replace O131 := As0 (Kd.R_below (RU O131.out) hb); replace K122 := kB K122 hb; replace K128 := kB K128 hb; replace HB := sB HB hb; (try clear hb); have q26_ := cN4 K128.out))
   go_meet
   case rel => exact ⟨_, (false), eR, H', ⟨by first | omega | exact Nat.le_refl _⟩, ⟨bU K122.out⟩, ⟨bU K128.out⟩, ⟨BU HB.out⟩⟩
  replace c23 := Bool.eq_false_iff.mpr c23
  subst c23
  rw [if_neg bF] at H
  have H' := As0 H
  clear H
  go_wp2_with (first | ((with_reducible refine Qbo (f := 171) rfl ?_); refine gL (some 44) Tryz.func171 #[.slice Ao19 y129.length co19] ?_; (with_reducible refine (Qa0.calls k _ _ y129 true _ ?side1 ?side2 A21.out).mono ?_); (case side1 => exact CU (Kd.R_reads' O131.out).2.2); (case side2 => exact (Kd.R_reads' O131.out).2.1); rintro e w27 ⟨rfl, hb⟩; refine ⟨_, rfl, ?_⟩; replace O131 := As0 (Kd.R_below (RU O131.out) hb); replace K122 := kB K122 hb; replace K128 := kB K128 hb; replace HB := sB HB hb; (try clear hb); have q29_ := cN4 K128.out; have q30_ := cN5 K122.out))
  go_meet
  case rel => exact ⟨_, ((a0_4 != 0)), eR, H', ⟨by first | omega | exact Nat.le_refl _⟩, ⟨bU K122.out⟩, ⟨bU K128.out⟩, ⟨BU HB.out⟩⟩
 case rest =>
  clear C8
  obtain ⟨kq, x42_7, rfl, HA, HJ7, K122, K128, HB⟩ := hcut
  cases kq with
  | zero => exact absurd HA.out (by simp [Qba.j0])
  | succ kj7 =>
   have H := HA.out
   clear HA
   simp only [Qba.j0] at H
   by_cases c32 : x42_7 = true
   ·subst c32
    rw [if_pos rfl] at H
    obtain rfl := Option.some.inj H
    go_wp2
    go_ret
    exact ⟨oR, BU HB.out⟩
   replace c32 := Bool.eq_false_iff.mpr c32
   subst c32
   rw [if_neg bF] at H
   obtain rfl := Option.some.inj H
   go_wp2
   go_ret
   exact ⟨oR, BU HB.out⟩
def Qbj.j0 : Nat → Bool → Int → Bool → Int → Int → Bool → Int → Int → Bool → Int → Option (Int)
 | 0, _, _, _, _, _, _, _, _, _, _ => none
 | k + 1, x31, x137000, x137001, x137002, x138000, x138001, x138002, x139000, x139001, x139002 => if x31 = true then (some 16) else ((Qak.f k (([(⟨x137000, x137001, x137002⟩ : S235)] : List (S235)))).bind fun t142 => (if t142 = true then ((Qak.f k (([(⟨x138000, x138001, x138002⟩ : S235), (⟨x139000, x139001, x139002⟩ : S235)] : List (S235)))).bind fun t146 => (if t146 = true then ((Qa0.f k (([(⟨x137000, x137001, x137002⟩ : S235), (⟨x138000, x138001, x138002⟩ : S235), (⟨x139000, x139001, x139002⟩ : S235)] : List (S235)))).bind fun t150 => (if t150 = true then (some 0) else (some 12))) else (some 11))) else (some 9)))
def Qbj.f (k : Nat) (a0_0 a0_1 a0_2 a0_3 a1 a2 : Int) : Option (Int) := if a0_0 < 1 then (Qbj.j0 k true a0_1 (a0_0 != 1) a1 a0_2 (a0_0 != 3) a2 a0_3 (a0_0 == 2) a2) else (Qbj.j0 k (decide (a0_0 > 3)) a0_1 (a0_0 != 1) a1 a0_2 (a0_0 != 3) a2 a0_3 (a0_0 == 2) a2)
theorem Qbj.calls (k : Nat) (a0_0 a0_1 a0_2 a0_3 a1 a2 r : Int) (w : World) (h : Qbj.f k a0_0 a0_1 a0_2 a0_3 a1 a2 = some r) :
 Calls Tryz.prog 149 #[.agg #[.int .i64 a0_0, .int .i64 a0_1, .int .i64 a0_2, .int .i64 a0_3], .int .i64 a1, .int .i64 a2] w fun e w' => e = .returned (.int .i64 r) ∧ Below w.heap.size w w' := by
 have hu37 := Tryz.underlying37
 have hu235 := Tryz.underlying235
 have HB := As0 (Below.refl w.heap.size w)
 have H : (if a0_0 < 1 then (Qbj.j0 k true a0_1 (a0_0 != 1) a1 a0_2 (a0_0 != 3) a2 a0_3 (a0_0 == 2) a2) else (Qbj.j0 k (decide (a0_0 > 3)) a0_1 (a0_0 != 1) a1 a0_2 (a0_0 != 3) a2 a0_3 (a0_0 == 2) a2)) = some r := h
 clear h
 have C4 := As0 H
 clear H
 go_enter Tryz.func149, Tryz.ntmps149
 go_upto_region 4 with (first | ((with_reducible refine gD 3 ?_); refine bY HB.out ?_; intro gb135 w5 hg hb K135 GW135 HB; clear hb hg; have q6_ := cN4 K135.out) | ((with_reducible refine gD 7 ?_); refine bY HB.out ?_; intro gb136 w7 hg hb K136 GW136 HB; have N135_136 := pL hg K135; have N136_135 := pR hg K135; replace K135 := kB K135 hb; clear hb hg; have q9_ := cN3 K136.out; have q10_ := cN4 K135.out) | ((with_reducible refine gD 8 ?_); refine bX ?_; intro gb137 hg w11 hbox hb; have K137 := As0 (hbox); have GW137 := gW hg HB.out; replace HB := sB HB hb; have N135_137 := pV hg K135; have N137_135 := pW hg K135; replace K135 := kF K135 hb; have N136_137 := pV hg K136; have N137_136 := pW hg K136; replace K136 := kP (.cells #[.int .i64 a0_1, .bool (a0_0 != 1), .int .i64 a1] 235 (0, 0)) K136 hb (e := by first | rfl | (rw [← Nbq8.out]; rfl)); clear hb hbox hg; have q14_ := cN3 K137.out; have q15_ := cN4 K135.out) | ((with_reducible refine gD 9 ?_); refine bX ?_; intro gb138 hg w16 hbox hb; have K138 := As0 (hbox); have GW138 := gW hg HB.out; replace HB := sB HB hb; have N135_138 := pV hg K135; have N138_135 := pW hg K135; replace K135 := kF K135 hb; have N136_138 := pV hg K136; have N138_136 := pW hg K136; replace K136 := kF K136 hb; have N137_138 := pV hg K137; have N138_137 := pW hg K137; replace K137 := kP (.cells #[.int .i64 a0_2, .bool (a0_0 != 3), .int .i64 a2] 235 (0, 0)) K137 hb (e := by first | rfl | (rw [← Nbq8.out]; rfl)); clear hb hbox hg; have q20_ := cN3 K138.out))
 (try simp only [Act.put, sL1, sL2, sL3])
 go_cut [31] (fun v31 wc => ∃ (kq : Nat) (x31_3 : Bool), v31 = .bool x31_3 ∧ Qbk (Qbj.j0 kq x31_3 a0_1 (a0_0 != 1) a1 a0_2 (a0_0 != 3) a2 a0_3 (a0_0 == 2) a2 = some r) ∧ Qbk (kq ≤ k) ∧ Qbk (wc.heap[gb135]? = some (.cells #[.int .i64 a0_0, .int .i64 a0_1, .int .i64 a0_2, .int .i64 a0_3] 37 (0, 0))) ∧ Qbk (wc.heap[gb136]? = some (.cells #[.int .i64 a0_1, .bool (a0_0 != 1), .int .i64 a1] 235 (0, 0))) ∧ Qbk (wc.heap[gb137]? = some (.cells #[.int .i64 a0_2, .bool (a0_0 != 3), .int .i64 a2] 235 (0, 0))) ∧ Qbk (wc.heap[gb138]? = some (.cells #[.int .i64 a0_3, .bool (a0_0 == 2), .int .i64 a2] 235 (0, 0))) ∧ Qbk (Below w.heap.size w wc))
 case first =>
  have H := C4.out
  clear C4
  by_cases c21 : a0_0 < 1
  rotate_left
  ·rw [if_neg c21] at H
   have c21b0 := decide_eq_false c21
   clear c21
   (first | rw [c21b0] | (simp only [Qbu, Qbv]; rw [c21b0]) | skip)
   have H' := As0 H
   clear H
   have q29_ := cN4 K135.out
   go_wp2
   go_meet
   case rel => exact ⟨_, (decide (a0_0 > 3)), eR, H', ⟨by first | omega | exact Nat.le_refl _⟩, ⟨kV K135⟩, ⟨kV K136⟩, ⟨kV K137⟩, ⟨by (with_reducible repeat (first | refine bN ?_ _ | refine bD ?_ | refine bA ?_ _)); refine Qbt (cs := #[.int .i64 a0_3, .bool (a0_0 == 2), .int .i64 0]) ?_ 2 _ (by first | rfl | (rw [← Nbq8.out]; rfl)); (with_reducible repeat (first | refine bN ?_ _ | refine bD ?_ | refine bA ?_ _)); refine Qbt (cs := #[.int .i64 a0_3, .bool false, .int .i64 0]) ?_ 1 _ (by first | rfl | (rw [← Nbq8.out]; rfl)); (with_reducible repeat (first | refine bN ?_ _ | refine bD ?_ | refine bA ?_ _)); refine Qbt (cs := #[.int .i64 0, .bool false, .int .i64 0]) ?_ 0 _ (by first | rfl | (rw [← Nbq8.out]; rfl)); (with_reducible repeat (first | refine bN ?_ _ | refine bD ?_ | refine bA ?_ _)); exact K138.out⟩, ⟨BU HB.out⟩⟩
  rw [if_pos c21] at H
  have c21b0 := decide_eq_true c21
  clear c21
  (first | rw [c21b0] | (simp only [Qbu, Qbv]; rw [c21b0]) | skip)
  have H' := As0 H
  clear H
  have q25_ := cN4 K135.out
  go_wp2
  go_meet
  case rel => exact ⟨_, (true), eR, H', ⟨by first | omega | exact Nat.le_refl _⟩, ⟨kV K135⟩, ⟨kV K136⟩, ⟨kV K137⟩, ⟨by (with_reducible repeat (first | refine bN ?_ _ | refine bD ?_ | refine bA ?_ _)); refine Qbt (cs := #[.int .i64 a0_3, .bool (a0_0 == 2), .int .i64 0]) ?_ 2 _ (by first | rfl | (rw [← Nbq8.out]; rfl)); (with_reducible repeat (first | refine bN ?_ _ | refine bD ?_ | refine bA ?_ _)); refine Qbt (cs := #[.int .i64 a0_3, .bool false, .int .i64 0]) ?_ 1 _ (by first | rfl | (rw [← Nbq8.out]; rfl)); (with_reducible repeat (first | refine bN ?_ _ | refine bD ?_ | refine bA ?_ _)); refine Qbt (cs := #[.int .i64 0, .bool false, .int .i64 0]) ?_ 0 _ (by first | rfl | (rw [← Nbq8.out]; rfl)); (with_reducible repeat (first | refine bN ?_ _ | refine bD ?_ | refine bA ?_ _)); exact K138.out⟩, ⟨BU HB.out⟩⟩
 case rest =>
  clear C4
  obtain ⟨kq, x31_3, rfl, HA, HJ3, K135, K136, K137, K138, HB⟩ := hcut
  cases kq with
  | zero => exact absurd HA.out (by simp [Qbj.j0])
  | succ kj3 =>
   have H := HA.out
   clear HA
   simp only [Qbj.j0] at H
   by_cases c30 : x31_3 = true
   ·subst c30
    rw [if_pos rfl] at H
    obtain rfl := Option.some.inj H
    go_wp2
    go_ret
    exact ⟨oR, BU HB.out⟩
   replace c30 := Bool.eq_false_iff.mpr c30
   subst c30
   rw [if_neg bF] at H
   obtain ⟨y139, hy139⟩ : ∃ y_ : List (S235), y_ = (([(⟨a0_1, (a0_0 != 1), a1⟩ : S235)] : List (S235))) := ⟨_, rfl⟩
   replace H : ((Qak.f kj3 y139).bind fun t142 => (if t142 = true then ((Qak.f kj3 (([(⟨a0_2, (a0_0 != 3), a2⟩ : S235), (⟨a0_3, (a0_0 == 2), a2⟩ : S235)] : List (S235)))).bind fun t146 => (if t146 = true then ((Qa0.f kj3 (([(⟨a0_1, (a0_0 != 1), a1⟩ : S235), (⟨a0_2, (a0_0 != 3), a2⟩ : S235), (⟨a0_3, (a0_0 == 2), a2⟩ : S235)] : List (S235)))).bind fun t150 => (if t150 = true then (some 0) else (some 12))) else (some 11))) else (some 9))) = some r := by first | (rw [hy139]; exact H) | exact H
   have Ny139 := As0 hy139
   clear hy139
   replace H := Option.bind_eq_some_iff.mp H
   obtain ⟨t142, A310, H⟩ := H
   have A31 := As0 A310
   clear A310
   by_cases c32 : t142 = true
   rotate_left
   ·replace c32 := Bool.eq_false_iff.mpr c32
    subst c32
    rw [if_neg bF] at H
    obtain rfl := Option.some.inj H
    have q105_ := cN3 K136.out
    go_wp2_with (first | ((with_reducible refine gD 42 ?_); refine Kd.R_lit k235 _ 235 ?hg (N := 42) ?hd (xs := ([(⟨a0_1, (a0_0 != 1), a1⟩ : S235)] : List (S235))) (inner := [.int .i64 a0_1, .bool (a0_0 != 1), .int .i64 a1]) (ok := fun _ => True) (okp := fun _ => True) ?hr ?hp (fun _ hk => hk) trivial (Below.refl _ _) (Nat.le_refl _) (by simp) ?_; (case hd => rfl); (case hg => rfl); (case hr => first | (go_simp; done) | (go_simp; rfl)); (case hp => exact (Reps.c3 (Qb9 _ _ _ (⟨a0_1, (a0_0 != 1), a1⟩ : S235)) (Reps.none _ _))); intro v140 w106 ho107 hb hg_ hnew_; clear hg_ hnew_; (first | rw [← Ny139.out] at ho107 | (simp only [Int.reduceToNat] at ho107; rw [← Ny139.out] at ho107)); have O141 := As0 (Kd.R_lower (Kd.R_newB (Kd.R_newB (Kd.R_newB ho107 (bU K136.out)) (bU K137.out)) (bU K138.out)) (Qbm (BU HB.out))); replace K135 := kB K135 hb; replace K136 := kB K136 hb; replace K137 := kB K137 hb; replace K138 := kB K138 hb; replace HB := sB HB hb; clear hb ho107; obtain ⟨Ao108, co108, eo108⟩ := Kd.R_slice O141.out; subst eo108) | ((with_reducible refine Qbo (f := 170) rfl ?_); refine gL (some 43) Tryz.func170 #[.slice Ao108 y139.length co108] ?_; (with_reducible refine (Qak.calls kj3 _ _ y139 false _ ?side1 ?side2 A31.out).mono ?_); (case side1 => exact CU (Kd.R_reads' O141.out).2.2); (case side2 => exact (Kd.R_reads' O141.out).2.1); rintro e w109 ⟨rfl, hb⟩; refine ⟨_, rfl, ?_⟩; replace O141 := As0 (Kd.R_below (RU O141.out) hb); replace K135 := kB K135 hb; replace K136 := kB K136 hb; replace K137 := kB K137 hb; replace K138 := kB K138 hb; replace HB := sB HB hb; (try clear hb)))
    go_ret
    exact ⟨oR, BU HB.out⟩
   subst c32
   rw [if_pos rfl] at H
   obtain ⟨y143, hy143⟩ : ∃ y_ : List (S235), y_ = (([(⟨a0_2, (a0_0 != 3), a2⟩ : S235), (⟨a0_3, (a0_0 == 2), a2⟩ : S235)] : List (S235))) := ⟨_, rfl⟩
   replace H : ((Qak.f kj3 y143).bind fun t146 => (if t146 = true then ((Qa0.f kj3 (([(⟨a0_1, (a0_0 != 1), a1⟩ : S235), (⟨a0_2, (a0_0 != 3), a2⟩ : S235), (⟨a0_3, (a0_0 == 2), a2⟩ : S235)] : List (S235)))).bind fun t150 => (if t150 = true then (some 0) else (some 12))) else (some 11))) = some r := by first | (rw [hy143]; exact H) | exact H
   have Ny143 := As0 hy143
   clear hy143
   replace H := Option.bind_eq_some_iff.mp H
   obtain ⟨t146, A330, H⟩ := H
   have A33 := As0 A330
   clear A330
   by_cases c34 : t146 = true
   rotate_left
   ·replace c34 := Bool.eq_false_iff.mpr c34
    subst c34
    rw [if_neg bF] at H
    obtain rfl := Option.some.inj H
    have q88_ := cN3 K136.out
    go_wp2_with (first | ((with_reducible refine gD 42 ?_); refine Kd.R_lit k235 _ 235 ?hg (N := 42) ?hd (xs := ([(⟨a0_1, (a0_0 != 1), a1⟩ : S235)] : List (S235))) (inner := [.int .i64 a0_1, .bool (a0_0 != 1), .int .i64 a1]) (ok := fun _ => True) (okp := fun _ => True) ?hr ?hp (fun _ hk => hk) trivial (Below.refl _ _) (Nat.le_refl _) (by simp) ?_; (case hd => rfl); (case hg => rfl); (case hr => first | (go_simp; done) | (go_simp; rfl)); (case hp => exact (Reps.c3 (Qb9 _ _ _ (⟨a0_1, (a0_0 != 1), a1⟩ : S235)) (Reps.none _ _))); intro v140 w89 ho90 hb hg_ hnew_; clear hg_ hnew_; (first | rw [← Ny139.out] at ho90 | (simp only [Int.reduceToNat] at ho90; rw [← Ny139.out] at ho90)); have O141 := As0 (Kd.R_lower (Kd.R_newB (Kd.R_newB (Kd.R_newB ho90 (bU K136.out)) (bU K137.out)) (bU K138.out)) (Qbm (BU HB.out))); replace K135 := kB K135 hb; replace K136 := kB K136 hb; replace K137 := kB K137 hb; replace K138 := kB K138 hb; replace HB := sB HB hb; clear hb ho90; obtain ⟨Ao91, co91, eo91⟩ := Kd.R_slice O141.out; subst eo91) | ((with_reducible refine Qbo (f := 170) rfl ?_); refine gL (some 43) Tryz.func170 #[.slice Ao91 y139.length co91] ?_; (with_reducible refine (Qak.calls kj3 _ _ y139 true _ ?side1 ?side2 A31.out).mono ?_); (case side1 => exact CU (Kd.R_reads' O141.out).2.2); (case side2 => exact (Kd.R_reads' O141.out).2.1); rintro e w92 ⟨rfl, hb⟩; refine ⟨_, rfl, ?_⟩; replace O141 := As0 (Kd.R_below (RU O141.out) hb); replace K135 := kB K135 hb; replace K136 := kB K136 hb; replace K137 := kB K137 hb; replace K138 := kB K138 hb; replace HB := sB HB hb; (try clear hb); have q95_ := cN3 K137.out; have q97_ := cN3 K138.out) | ((with_reducible refine gD 48 ?_); refine Kd.R_lit k235 _ 235 ?hg (N := 48) ?hd (xs := ([(⟨a0_2, (a0_0 != 3), a2⟩ : S235), (⟨a0_3, (a0_0 == 2), a2⟩ : S235)] : List (S235))) (inner := [.int .i64 a0_2, .bool (a0_0 != 3), .int .i64 a2, .int .i64 a0_3, .bool (a0_0 == 2), .int .i64 a2]) (ok := fun _ => True) (okp := fun _ => True) ?hr ?hp (fun _ hk => hk) trivial (Below.refl _ _) (Nat.le_refl _) (by simp) ?_; (case hd => rfl); (case hg => rfl); (case hr => first | (go_simp; done) | (go_simp; rfl)); (case hp => exact (Reps.c3 (Qb9 _ _ _ (⟨a0_2, (a0_0 != 3), a2⟩ : S235)) (Reps.c3 (Qb9 _ _ _ (⟨a0_3, (a0_0 == 2), a2⟩ : S235)) (Reps.none _ _)))); intro v144 w98 ho99 hb hg_ hnew_; clear hg_ hnew_; (first | rw [← Ny143.out] at ho99 | (simp only [Int.reduceToNat] at ho99; rw [← Ny143.out] at ho99)); have O145 := As0 (Kd.R_lower (Kd.R_newB (Kd.R_newB (Kd.R_newB (Kd.R_new' ho99 (Kd.R_lt (RU O141.out))) (bU K136.out)) (bU K137.out)) (bU K138.out)) (Qbm (BU HB.out))); replace O141 := As0 (Kd.R_elder' (RU O141.out) (Kd.R_base ho99) hb); replace K135 := kB K135 hb; replace K136 := kB K136 hb; replace K137 := kB K137 hb; replace K138 := kB K138 hb; replace HB := sB HB hb; clear hb ho99; obtain ⟨Ao100, co100, eo100⟩ := Kd.R_slice O145.out; subst eo100) | ((with_reducible refine Qbo (f := 170) rfl ?_); refine gL (some 49) Tryz.func170 #[.slice Ao100 y143.length co100] ?_; (with_reducible refine (Qak.calls kj3 _ _ y143 false _ ?side1 ?side2 A33.out).mono ?_); (case side1 => exact CU (Kd.R_reads' O145.out).2.2); (case side2 => exact (Kd.R_reads' O145.out).2.1); rintro e w101 ⟨rfl, hb⟩; refine ⟨_, rfl, ?_⟩; replace O141 := As0 (Kd.R_below (RU O141.out) hb); replace O145 := As0 (Kd.R_below (RU O145.out) hb); replace K135 := kB K135 hb; replace K136 := kB K136 hb; replace K137 := kB K137 hb; replace K138 := kB K138 hb; replace HB := sB HB hb; (try clear hb)))
    go_ret
    exact ⟨oR, BU HB.out⟩
   subst c34
   rw [if_pos rfl] at H
   obtain ⟨y147, hy147⟩ : ∃ y_ : List (S235), y_ = (([(⟨a0_1, (a0_0 != 1), a1⟩ : S235), (⟨a0_2, (a0_0 != 3), a2⟩ : S235), (⟨a0_3, (a0_0 == 2), a2⟩ : S235)] : List (S235))) := ⟨_, rfl⟩
   replace H : ((Qa0.f kj3 y147).bind fun t150 => (if t150 = true then (some 0) else (some 12))) = some r := by first | (rw [hy147]; exact H) | exact H
   have Ny147 := As0 hy147
   clear hy147
   replace H := Option.bind_eq_some_iff.mp H
   obtain ⟨t150, A350, H⟩ := H
   have A35 := As0 A350
   clear A350
   by_cases c36 : t150 = true
   ·subst c36
    rw [if_pos rfl] at H
    obtain rfl := Option.some.inj H
    have q40_ := cN3 K136.out
    go_wp2_with (first | ((with_reducible refine gD 42 ?_); refine Kd.R_lit k235 _ 235 ?hg (N := 42) ?hd (xs := ([(⟨a0_1, (a0_0 != 1), a1⟩ : S235)] : List (S235))) (inner := [.int .i64 a0_1, .bool (a0_0 != 1), .int .i64 a1]) (ok := fun _ => True) (okp := fun _ => True) ?hr ?hp (fun _ hk => hk) trivial (Below.refl _ _) (Nat.le_refl _) (by simp) ?_; (case hd => rfl); (case hg => rfl); (case hr => first | (go_simp; done) | (go_simp; rfl)); (case hp => exact (Reps.c3 (Qb9 _ _ _ (⟨a0_1, (a0_0 != 1), a1⟩ : S235)) (Reps.none _ _))); intro v140 w41 ho42 hb hg_ hnew_; clear hg_ hnew_; (first | rw [← Ny139.out] at ho42 | (simp only [Int.reduceToNat] at ho42; rw [← Ny139.out] at ho42)); have O141 := As0 (Kd.R_lower (Kd.R_newB (Kd.R_newB (Kd.R_newB ho42 (bU K136.out)) (bU K137.out)) (bU K138.out)) (Qbm (BU HB.out))); replace K135 := kB K135 hb; replace K136 := kB K136 hb; replace K137 := kB K137 hb; replace K138 := kB K138 hb; replace HB := sB HB hb; clear hb ho42; obtain ⟨Ao43, co43, eo43⟩ := Kd.R_slice O141.out; subst eo43) | ((with_reducible refine Qbo (f := 170) rfl ?_); refine gL (some 43) Tryz.func170 #[.slice Ao43 y139.length co43] ?_; (with_reducible refine (Qak.calls kj3 _ _ y139 true _ ?side1 ?side2 A31.out).mono ?_); (case side1 => exact CU (Kd.R_reads' O141.out).2.2); (case side2 => exact (Kd.R_reads' O141.out).2.1); rintro e w44 ⟨rfl, hb⟩; refine ⟨_, rfl, ?_⟩; replace O141 := As0 (Kd.R_below (RU O141.out) hb); replace K135 := kB K135 hb; replace K136 := kB K136 hb; replace K137 := kB K137 hb; replace K138 := kB K138 hb; replace HB := sB HB hb; (try clear hb); have q47_ := cN3 K137.out; have q49_ := cN3 K138.out) | ((with_reducible refine gD 48 ?_); refine Kd.R_lit k235 _ 235 ?hg (N := 48) ?hd (xs := ([(⟨a0_2, (a0_0 != 3), a2⟩ : S235), (⟨a0_3, (a0_0 == 2), a2⟩ : S235)] : List (S235))) (inner := [.int .i64 a0_2, .bool (a0_0 != 3), .int .i64 a2, .int .i64 a0_3, .bool (a0_0 == 2), .int .i64 a2]) (ok := fun _ => True) (okp := fun _ => True) ?hr ?hp (fun _ hk => hk) trivial (Below.refl _ _) (Nat.le_refl _) (by simp) ?_; (case hd => rfl); (case hg => rfl); (case hr => first | (go_simp; done) | (go_simp; rfl)); (case hp => exact (Reps.c3 (Qb9 _ _ _ (⟨a0_2, (a0_0 != 3), a2⟩ : S235)) (Reps.c3 (Qb9 _ _ _ (⟨a0_3, (a0_0 == 2), a2⟩ : S235)) (Reps.none _ _)))); intro v144 w50 ho51 hb hg_ hnew_; clear hg_ hnew_; (first | rw [← Ny143.out] at ho51 | (simp only [Int.reduceToNat] at ho51; rw [← Ny143.out] at ho51)); have O145 := As0 (Kd.R_lower (Kd.R_newB (Kd.R_newB (Kd.R_newB (Kd.R_new' ho51 (Kd.R_lt (RU O141.out))) (bU K136.out)) (bU K137.out)) (bU K138.out)) (Qbm (BU HB.out))); replace O141 := As0 (Kd.R_elder' (RU O141.out) (Kd.R_base ho51) hb); replace K135 := kB K135 hb; replace K136 := kB K136 hb; replace K137 := kB K137 hb; replace K138 := kB K138 hb; replace HB := sB HB hb; clear hb ho51; obtain ⟨Ao52, co52, eo52⟩ := Kd.R_slice O145.out; subst eo52) | ((with_reducible refine Qbo (f := 170) rfl ?_); refine gL (some 49) Tryz.func170 #[.slice Ao52 y143.length co52] ?_; (with_reducible refine (Qak.calls kj3 _ _ y143 true _ ?side1 ?side2 A33.out).mono ?_); (case side1 => exact CU (Kd.R_reads' O145.out).2.2); (case side2 => exact (Kd.R_reads' O145.out).2.1); rintro e w53 ⟨rfl, hb⟩; refine ⟨_, rfl, ?_⟩; replace O141 := As0 (Kd.R_below (RU O141.out) hb); replace O145 := As0 (Kd.R_below (RU O145.out) hb); replace K135 := kB K135 hb; replace K136 := kB K136 hb; replace K137 := kB K137 hb; replace K138 := kB K138 hb; replace HB := sB HB hb; (try clear hb); have q54_ := cN3 K136.out; have q55_ := cN3 K137.out; have q56_ := cN3 K138.out) | ((with_reducible refine gD 55 ?_); refine Kd.R_lit k235 _ 235 ?hg (N := 55) ?hd (xs := ([(⟨a0_1, (a0_0 != 1), a1⟩ : S235), (⟨a0_2, (a0_0 != 3), a2⟩ : S235), (⟨a0_3, (a0_0 == 2), a2⟩ : S235)] : List (S235))) (inner := [.int .i64 a0_1, .bool (a0_0 != 1), .int .i64 a1, .int .i64 a0_2, .bool (a0_0 != 3), .int .i64 a2, .int .i64 a0_3, .bool (a0_0 == 2), .int .i64 a2]) (ok := fun _ => True) (okp := fun _ => True) ?hr ?hp (fun _ hk => hk) trivial (Below.refl _ _) (Nat.le_refl _) (by simp) ?_; (case hd => rfl); (case hg => rfl); (case hr => first | (go_simp; done) | (go_simp; rfl)); (case hp => exact (Reps.c3 (Qb9 _ _ _ (⟨a0_1, (a0_0 != 1), a1⟩ : S235)) (Reps.c3 (Qb9 _ _ _ (⟨a0_2, (a0_0 != 3), a2⟩ : S235)) (Reps.c3 (Qb9 _ _ _ (⟨a0_3, (a0_0 == 2), a2⟩ : S235)) (Reps.none _ _))))); intro v148 w57 ho58 hb hg_ hnew_; clear hg_ hnew_; (first | rw [← Ny147.out] at ho58 | (simp only [Int.reduceToNat] at ho58; rw [← Ny147.out] at ho58)); have O149 := As0 (Kd.R_lower (Kd.R_newB (Kd.R_newB (Kd.R_newB (Kd.R_new' (Kd.R_new' ho58 (Kd.R_lt (RU O141.out))) (Kd.R_lt (RU O145.out))) (bU K136.out)) (bU K137.out)) (bU K138.out)) (Qbm (BU HB.out))); replace O141 := As0 (Kd.R_elder' (RU O141.out) (Kd.R_base ho58) hb); replace O145 := As0 (Kd.R_elder' (RU O145.out) (Kd.R_base ho58) hb); replace K135 := kB K135 hb; replace K136 := kB K136 hb; replace K137 := kB K137 hb; replace K138 := kB K138 hb; replace HB := sB HB hb; clear hb ho58; obtain ⟨Ao59, co59, eo59⟩ := Kd.R_slice O149.out; subst eo59) | ((with_reducible refine Qbo (f := 171) rfl ?_); refine gL (some 56) Tryz.func171 #[.slice Ao59 y147.length co59] ?_; (with_reducible refine (Qa0.calls kj3 _ _ y147 true _ ?side1 ?side2 A35.out).mono ?_); (case side1 => exact CU (Kd.R_reads' O149.out).2.2); (case side2 => exact (Kd.R_reads' O149.out).2.1); rintro e w60 ⟨rfl, hb⟩; refine ⟨_, rfl, ?_⟩; replace O141 := As0 (Kd.R_below (RU O141.out) hb); replace O145 := As0 (Kd.R_below (RU O145.out) hb); replace O149 := As0 (Kd.R_below (RU O149.out) hb); replace K135 := kB K135 hb; replace K136 := kB K136 hb; replace K137 := kB K137 hb; replace K138 := kB K138 hb; replace HB := sB HB hb; (try clear hb)))
    go_ret
    exact ⟨oR, BU HB.out⟩
   replace c36 := Bool.eq_false_iff.mpr c36
   subst c36
   rw [if_neg bF] at H
   obtain rfl := Option.some.inj H
   have q64_ := cN3 K136.out
   go_wp2_with (first | ((with_reducible refine gD 42 ?_); refine Kd.R_lit k235 _ 235 ?hg (N := 42) ?hd (xs := ([(⟨a0_1, (a0_0 != 1), a1⟩ : S235)] : List (S235))) (inner := [.int .i64 a0_1, .bool (a0_0 != 1), .int .i64 a1]) (ok := fun _ => True) (okp := fun _ => True) ?hr ?hp (fun _ hk => hk) trivial (Below.refl _ _) (Nat.le_refl _) (by simp) ?_; (case hd => rfl); (case hg => rfl); (case hr => first | (go_simp; done) | (go_simp; rfl)); (case hp => exact (Reps.c3 (Qb9 _ _ _ (⟨a0_1, (a0_0 != 1), a1⟩ : S235)) (Reps.none _ _))); intro v140 w65 ho66 hb hg_ hnew_; clear hg_ hnew_; (first | rw [← Ny139.out] at ho66 | (simp only [Int.reduceToNat] at ho66; rw [← Ny139.out] at ho66)); have O141 := As0 (Kd.R_lower (Kd.R_newB (Kd.R_newB (Kd.R_newB ho66 (bU K136.out)) (bU K137.out)) (bU K138.out)) (Qbm (BU HB.out))); replace K135 := kB K135 hb; replace K136 := kB K136 hb; replace K137 := kB K137 hb; replace K138 := kB K138 hb; replace HB := sB HB hb; clear hb ho66; obtain ⟨Ao67, co67, eo67⟩ := Kd.R_slice O141.out; subst eo67) | ((with_reducible refine Qbo (f := 170) rfl ?_); refine gL (some 43) Tryz.func170 #[.slice Ao67 y139.length co67] ?_; (with_reducible refine (Qak.calls kj3 _ _ y139 true _ ?side1 ?side2 A31.out).mono ?_); (case side1 => exact CU (Kd.R_reads' O141.out).2.2); (case side2 => exact (Kd.R_reads' O141.out).2.1); rintro e w68 ⟨rfl, hb⟩; refine ⟨_, rfl, ?_⟩; replace O141 := As0 (Kd.R_below (RU O141.out) hb); replace K135 := kB K135 hb; replace K136 := kB K136 hb; replace K137 := kB K137 hb; replace K138 := kB K138 hb; replace HB := sB HB hb; (try clear hb); have q71_ := cN3 K137.out; have q73_ := cN3 K138.out) | ((with_reducible refine gD 48 ?_); refine Kd.R_lit k235 _ 235 ?hg (N := 48) ?hd (xs := ([(⟨a0_2, (a0_0 != 3), a2⟩ : S235), (⟨a0_3, (a0_0 == 2), a2⟩ : S235)] : List (S235))) (inner := [.int .i64 a0_2, .bool (a0_0 != 3), .int .i64 a2, .int .i64 a0_3, .bool (a0_0 == 2), .int .i64 a2]) (ok := fun _ => True) (okp := fun _ => True) ?hr ?hp (fun _ hk => hk) trivial (Below.refl _ _) (Nat.le_refl _) (by simp) ?_; (case hd => rfl); (case hg => rfl); (case hr => first | (go_simp; done) | (go_simp; rfl)); (case hp => exact (Reps.c3 (Qb9 _ _ _ (⟨a0_2, (a0_0 != 3), a2⟩ : S235)) (Reps.c3 (Qb9 _ _ _ (⟨a0_3, (a0_0 == 2), a2⟩ : S235)) (Reps.none _ _)))); intro v144 w74 ho75 hb hg_ hnew_; clear hg_ hnew_; (first | rw [← Ny143.out] at ho75 | (simp only [Int.reduceToNat] at ho75; rw [← Ny143.out] at ho75)); have O145 := As0 (Kd.R_lower (Kd.R_newB (Kd.R_newB (Kd.R_newB (Kd.R_new' ho75 (Kd.R_lt (RU O141.out))) (bU K136.out)) (bU K137.out)) (bU K138.out)) (Qbm (BU HB.out))); replace O141 := As0 (Kd.R_elder' (RU O141.out) (Kd.R_base ho75) hb); replace K135 := kB K135 hb; replace K136 := kB K136 hb; replace K137 := kB K137 hb; replace K138 := kB K138 hb; replace HB := sB HB hb; clear hb ho75; obtain ⟨Ao76, co76, eo76⟩ := Kd.R_slice O145.out; subst eo76) | ((with_reducible refine Qbo (f := 170) rfl ?_); refine gL (some 49) Tryz.func170 #[.slice Ao76 y143.length co76] ?_; (with_reducible refine (Qak.calls kj3 _ _ y143 true _ ?side1 ?side2 A33.out).mono ?_); (case side1 => exact CU (Kd.R_reads' O145.out).2.2); (case side2 => exact (Kd.R_reads' O145.out).2.1); rintro e w77 ⟨rfl, hb⟩; refine ⟨_, rfl, ?_⟩; replace O141 := As0 (Kd.R_below (RU O141.out) hb); replace O145 := As0 (Kd.R_below (RU O145.out) hb); replace K135 := kB K135 hb; replace K136 := kB K136 hb; replace K137 := kB K137 hb; replace K138 := kB K138 hb; replace HB := sB HB hb; (try clear hb); have q78_ := cN3 K136.out; have q79_ := cN3 K137.out; have q80_ := cN3 K138.out) | ((with_reducible refine gD 55 ?_); refine Kd.R_lit k235 _ 235 ?hg (N := 55) ?hd (xs := ([(⟨a0_1, (a0_0 != 1), a1⟩ : S235), (⟨a0_2, (a0_0 != 3), a2⟩ : S235), (⟨a0_3, (a0_0 == 2), a2⟩ : S235)] : List (S235))) (inner := [.int .i64 a0_1, .bool (a0_0 != 1), .int .i64 a1, .int .i64 a0_2, .bool (a0_0 != 3), .int .i64 a2, .int .i64 a0_3, .bool (a0_0 == 2), .int .i64 a2]) (ok := fun _ => True) (okp := fun _ => True) ?hr ?hp (fun _ hk => hk) trivial (Below.refl _ _) (Nat.le_refl _) (by simp) ?_; (case hd => rfl); (case hg => rfl); (case hr => first | (go_simp; done) | (go_simp; rfl)); (case hp => exact (Reps.c3 (Qb9 _ _ _ (⟨a0_1, (a0_0 != 1), a1⟩ : S235)) (Reps.c3 (Qb9 _ _ _ (⟨a0_2, (a0_0 != 3), a2⟩ : S235)) (Reps.c3 (Qb9 _ _ _ (⟨a0_3, (a0_0 == 2), a2⟩ : S235)) (Reps.none _ _))))); intro v148 w81 ho82 hb hg_ hnew_; clear hg_ hnew_; (first | rw [← Ny147.out] at ho82 | (simp only [Int.reduceToNat] at ho82; rw [← Ny147.out] at ho82)); have O149 := As0 (Kd.R_lower (Kd.R_newB (Kd.R_newB (Kd.R_newB (Kd.R_new' (Kd.R_new' ho82 (Kd.R_lt (RU O141.out))) (Kd.R_lt (RU O145.out))) (bU K136.out)) (bU K137.out)) (bU K138.out)) (Qbm (BU HB.out))); replace O141 := As0 (Kd.R_elder' (RU O141.out) (Kd.R_base ho82) hb); replace O145 := As0 (Kd.R_elder' (RU O145.out) (Kd.R_base ho82) hb); replace K135 := kB K135 hb; replace K136 := kB K136 hb; replace K137 := kB K137 hb; replace K138 := kB K138 hb; replace HB := sB HB hb; clear hb ho82; obtain ⟨Ao83, co83, eo83⟩ := Kd.R_slice O149.out; subst eo83) | ((with_reducible refine Qbo (f := 171) rfl ?_); refine gL (some 56) Tryz.func171 #[.slice Ao83 y147.length co83] ?_; (with_reducible refine (Qa0.calls kj3 _ _ y147 false _ ?side1 ?side2 A35.out).mono ?_); (case side1 => exact CU (Kd.R_reads' O149.out).2.2); (case side2 => exact (Kd.R_reads' O149.out).2.1); rintro e w84 ⟨rfl, hb⟩; refine ⟨_, rfl, ?_⟩; replace O141 := As0 (Kd.R_below (RU O141.out) hb); replace O145 := As0 (Kd.R_below (RU O145.out) hb); replace O149 := As0 (Kd.R_below (RU O149.out) hb); replace K135 := kB K135 hb; replace K136 := kB K136 hb; replace K137 := kB K137 hb; replace K138 := kB K138 hb; replace HB := sB HB hb; (try clear hb)))
   go_ret
   exact ⟨oR, BU HB.out⟩
def source_block.l0 : Nat → Int → Int → List (S41) → Int → Int → List (S41) → Int → Int → Int → Int → Option (Int)
 | 0, _, _, _, _, _, _, _, _, _, _ => none
 | k + 1, x1, x2, x11, x12, x13, x152000, x152001, x152002, x152003, x152004 => if x13 < x12 then (if 0 ≤ x13 then (if x13 < (x11.length : Int) then ((Qba.f k ((Qav x11 x13).f0) ((Qav x11 x13).f1) ((Qav x11 x13).f2) ((Qav x11 x13).f3) ((Qav x11 x13).f4) x1).bind fun t155 => (if t155 = 0 then (source_block.l0 k x1 x2 x11 x12 (wrap64 (x13 + 1)) x152000 x152001 x152002 x152003 x152004) else (some t155))) else (none)) else (none)) else ((Qbj.f k x152001 x152002 x152003 x152004 x1 x2).bind fun t152 => (some t152))
def source_block.f (k : Nat) (l0_0 : List (S41)) (a0_1 a0_2 a0_3 a0_4 a1 a2 : Int) : Option (Int) := source_block.l0 k a1 a2 l0_0 (l0_0.length : Int) 0 l0_0 a0_1 a0_2 a0_3 a0_4
theorem source_block.calls (k : Nat) (A0_0 : Option Addr) (c0_0 : Nat) (l0_0 : List (S41)) (a0_1 a0_2 a0_3 a0_4 a1 a2 r : Int) (w : World) (hr0_0 : Kd.C k41 w A0_0 l0_0.length l0_0) (hc0_0 : l0_0.length ≤ c0_0) (h : source_block.f k l0_0 a0_1 a0_2 a0_3 a0_4 a1 a2 = some r) :
 Calls Tryz.prog 104 #[.agg #[.slice A0_0 l0_0.length c0_0, .int .i64 a0_1, .int .i64 a0_2, .int .i64 a0_3, .int .i64 a0_4], .int .i64 a1, .int .i64 a2] w fun e w' => e = .returned (.int .i64 r) ∧ Below w.heap.size w w' := by
 have hu39 := Tryz.underlying39
 have hu41 := Tryz.underlying41
 have hu37 := Tryz.underlying37
 have R0_0 := As0 hr0_0
 have C0_0 := As0 hc0_0
 clear hr0_0 hc0_0
 have HB := As0 (Below.refl w.heap.size w)
 have H : (source_block.l0 k a1 a2 l0_0 (l0_0.length : Int) 0 l0_0 a0_1 a0_2 a0_3 a0_4) = some r := h
 clear h
 have H' := As0 H
 clear H
 go_enter Tryz.func104, Tryz.ntmps104
 go_wp2_with (first | ((with_reducible refine gD 3 ?_); refine bY HB.out ?_; intro gb151 w4 hg hb K151 GW151 HB; clear hb hg; have q5_ := cN5 K151.out))
 go_loopg [13] k (fun kq v13 w' => ∃ (x13_1 : Int), v13 = .int .i64 x13_1 ∧ Qbk (source_block.l0 kq a1 a2 l0_0 (l0_0.length : Int) x13_1 l0_0 a0_1 a0_2 a0_3 a0_4 = some r) ∧ Qbk (kq ≤ k) ∧ Qbk (w'.heap[gb151]? = some (.cells #[(.slice A0_0 l0_0.length c0_0), .int .i64 a0_1, .int .i64 a0_2, .int .i64 a0_3, .int .i64 a0_4] 39 (0, 0))) ∧ Qbk (Below w.heap.size w w'))
 case atStart => exact ⟨(0), eR, H', ⟨Nat.le_refl _⟩, ⟨bU K151.out⟩, ⟨BU HB.out⟩⟩
 case round =>
  clear H'
  obtain ⟨x13_1, rfl, HA, HK1, K151, HB⟩ := hrel
  cases gk with
  | zero => exact absurd HA.out (by simp [source_block.l0])
  | succ k1 =>
   have H := HA.out
   clear HA
   simp only [source_block.l0] at H
   by_cases c6 : x13_1 < (l0_0.length : Int)
   rotate_left
   ·rw [if_neg c6] at H
    have c6b0 := decide_eq_false c6
    clear c6
    replace H := Option.bind_eq_some_iff.mp H
    obtain ⟨t152, A190, H⟩ := H
    have A19 := As0 A190
    clear A190
    obtain rfl := Option.some.inj H
    have q20_ := cN5 K151.out
    go_wp2_with (first | ((with_reducible refine Qbo (f := 149) rfl ?_); refine gL (some 28) Tryz.func149 #[.agg #[.int .i64 a0_1, .int .i64 a0_2, .int .i64 a0_3, .int .i64 a0_4], .int .i64 a1, .int .i64 a2] ?_; (with_reducible refine (Qbj.calls k1 a0_1 a0_2 a0_3 a0_4 a1 a2 t152 _ A19.out).mono ?_); rintro e w21 ⟨rfl, hb⟩; refine ⟨_, rfl, ?_⟩; replace K151 := kB K151 hb; replace HB := sB HB hb; (try clear hb)))
    go_ret
    exact ⟨oR, BU HB.out⟩
   rw [if_pos c6] at H
   have c6b0 := decide_eq_true c6
   clear c6
   by_cases c7 : 0 ≤ x13_1
   rotate_left
   ·rw [if_neg c7] at H
    exact absurd H (by simp)
   rw [if_pos c7] at H
   have c7b0 := decide_eq_true c7
   clear c7
   by_cases c8 : x13_1 < (l0_0.length : Int)
   rotate_left
   ·rw [if_neg c8] at H
    exact absurd H (by simp)
   rw [if_pos c8] at H
   have c8b0 := decide_eq_true c8
   clear c8
   replace H := Option.bind_eq_some_iff.mp H
   obtain ⟨t155, A90, H⟩ := H
   have A9 := As0 A90
   clear A90
   by_cases c10 : t155 = 0
   rotate_left
   ·rw [if_neg c10] at H
    have c10b0 : (t155 == 0) = false := beq_eq_false_iff_ne.mpr c10
    have c10b1 : (t155 != 0) = true := bne_iff_ne.mpr c10
    obtain rfl := Option.some.inj H
    have p153 : 0 ≤ (x13_1 : Int) := qR
    have q153 : x13_1 < (l0_0.length : Int) := qR
    obtain ⟨ad153, e153, hx153_0, hx153_1, hx153_2, hx153_3, hx153_4⟩ := at_T41 R0_0.out x13_1 p153 q153
    cases e153
    replace hx153_0 := cl HB hx153_0
    replace hx153_1 := cl HB hx153_1
    replace hx153_2 := cl HB hx153_2
    replace hx153_3 := cl HB hx153_3
    replace hx153_4 := cl HB hx153_4
    replace p153 := eq_true p153
    replace q153 := eq_true q153
    go_wp2_with (first | ((with_reducible refine gD 8 ?_); refine bY HB.out ?_; intro gb154 w15 hg hb K154 GW154 HB; have N151_154 := pL hg K151; have N154_151 := pR hg K151; replace K151 := kB K151 hb; clear hb hg; have q17_ := cN5 K154.out) | ((with_reducible refine Qbo (f := 148) rfl ?_); refine gL (some 19) Tryz.func148 #[.agg #[.int .i64 ((Qav l0_0 x13_1).f0), .int .i64 ((Qav l0_0 x13_1).f1), .int .i64 ((Qav l0_0 x13_1).f2), .int .i64 ((Qav l0_0 x13_1).f3), .int .i64 ((Qav l0_0 x13_1).f4)], .int .i64 a1] ?_; (with_reducible refine (Qba.calls k1 ((Qav l0_0 x13_1).f0) ((Qav l0_0 x13_1).f1) ((Qav l0_0 x13_1).f2) ((Qav l0_0 x13_1).f3) ((Qav l0_0 x13_1).f4) a1 t155 _ A9.out).mono ?_); rintro e w18 ⟨rfl, hb⟩; refine ⟨_, rfl, ?_⟩; replace K151 := kF K151 hb; replace K154 := kP (.cells #[.int .i64 ((Qav l0_0 x13_1).f0), .int .i64 ((Qav l0_0 x13_1).f1), .int .i64 ((Qav l0_0 x13_1).f2), .int .i64 ((Qav l0_0 x13_1).f3), .int .i64 ((Qav l0_0 x13_1).f4)] 41 (0, 0)) K154 hb (e := by first | rfl | (rw [← Nbq8.out]; rfl)); replace HB := sB HB hb; (try clear hb)))
    go_ret
    exact ⟨oR, BU HB.out⟩
   rw [if_pos c10] at H
   have c10b0 : (t155 == 0) = true := beq_iff_eq.mpr c10
   have c10b1 : (t155 != 0) = false := bne_eq_false_iff_eq.mpr c10
   clear c10
   have H' := As0 H
   clear H
   have p153 : 0 ≤ (x13_1 : Int) := qR
   have q153 : x13_1 < (l0_0.length : Int) := qR
   obtain ⟨ad153, e153, hx153_0, hx153_1, hx153_2, hx153_3, hx153_4⟩ := at_T41 R0_0.out x13_1 p153 q153
   cases e153
   replace hx153_0 := cl HB hx153_0
   replace hx153_1 := cl HB hx153_1
   replace hx153_2 := cl HB hx153_2
   replace hx153_3 := cl HB hx153_3
   replace hx153_4 := cl HB hx153_4
   replace p153 := eq_true p153
   replace q153 := eq_true q153
   go_wp2_with (first | ((with_reducible refine gD 8 ?_); refine bY HB.out ?_; intro gb154 w11 hg hb K154 GW154 HB; have N151_154 := pL hg K151; have N154_151 := pR hg K151; replace K151 := kB K151 hb; clear hb hg; have q13_ := cN5 K154.out) | ((with_reducible refine Qbo (f := 148) rfl ?_); refine gL (some 19) Tryz.func148 #[.agg #[.int .i64 ((Qav l0_0 x13_1).f0), .int .i64 ((Qav l0_0 x13_1).f1), .int .i64 ((Qav l0_0 x13_1).f2), .int .i64 ((Qav l0_0 x13_1).f3), .int .i64 ((Qav l0_0 x13_1).f4)], .int .i64 a1] ?_; (with_reducible refine (Qba.calls k1 ((Qav l0_0 x13_1).f0) ((Qav l0_0 x13_1).f1) ((Qav l0_0 x13_1).f2) ((Qav l0_0 x13_1).f3) ((Qav l0_0 x13_1).f4) a1 t155 _ A9.out).mono ?_); rintro e w14 ⟨rfl, hb⟩; refine ⟨_, rfl, ?_⟩; replace K151 := kF K151 hb; replace K154 := kP (.cells #[.int .i64 ((Qav l0_0 x13_1).f0), .int .i64 ((Qav l0_0 x13_1).f1), .int .i64 ((Qav l0_0 x13_1).f2), .int .i64 ((Qav l0_0 x13_1).f3), .int .i64 ((Qav l0_0 x13_1).f4)] 41 (0, 0)) K154 hb (e := by first | rfl | (rw [← Nbq8.out]; rfl)); replace HB := sB HB hb; (try clear hb)))
   go_roundg k1
   case measure => have := HK1.out; omega
   case rel => exact ⟨(wrap64 (x13_1 + 1)), eR, H', ⟨by have := HK1.out; omega⟩, ⟨bU K151.out⟩, ⟨BU HB.out⟩⟩
def source_Code.l0 : Nat → Int → List (S39) → Int → Int → Option (Int)
 | 0, _, _, _, _ => none
 | k + 1, x3, x7, x8, x9 => if x9 < x8 then (if 0 ≤ x9 then (if x9 < (x7.length : Int) then (source_Code.l0 k (wrap64 (x3 + (((Qam x7 x9).f0).length : Int))) x7 x8 (wrap64 (x9 + 1))) else (none)) else (none)) else (some x3)
def source_Code.f (k : Nat) (a0_0 a0_1 : Int) (l0_2 : List (S39)) : Option (Int) := source_Code.l0 k 0 l0_2 (l0_2.length : Int) 0
theorem source_Code.calls (k : Nat) (a0_0 a0_1 : Int) (A0_2 : Option Addr) (c0_2 : Nat) (l0_2 : List (S39)) (r : Int) (w : World) (hr0_2 : Kd.C k39 w A0_2 l0_2.length l0_2) (hc0_2 : l0_2.length ≤ c0_2) (h : source_Code.f k a0_0 a0_1 l0_2 = some r) :
 Calls Tryz.prog 103 #[.agg #[.int .i64 a0_0, .int .i64 a0_1, .slice A0_2 l0_2.length c0_2]] w fun e w' => e = .returned (.int .i64 r) ∧ Below w.heap.size w w' := by
 have hu24 := Tryz.underlying24
 have hu39 := Tryz.underlying39
 have R0_2 := As0 hr0_2
 have C0_2 := As0 hc0_2
 clear hr0_2 hc0_2
 have HB := As0 (Below.refl w.heap.size w)
 have H : (source_Code.l0 k 0 l0_2 (l0_2.length : Int) 0) = some r := h
 clear h
 have H' := As0 H
 clear H
 go_enter Tryz.func103, Tryz.ntmps103
 go_wp2_with (first | ((with_reducible refine gD 1 ?_); refine bY HB.out ?_; intro gb112 w2 hg hb K112 GW112 HB; clear hb hg; have q3_ := cN3 K112.out))
 go_loopg [3, 9] k (fun kq v3 v9 w' => ∃ (x3_1 : Int) (x9_1 : Int), v3 = .int .i64 x3_1 ∧ v9 = .int .i64 x9_1 ∧ Qbk (source_Code.l0 kq x3_1 l0_2 (l0_2.length : Int) x9_1 = some r) ∧ Qbk (kq ≤ k) ∧ Qbk (w'.heap[gb112]? = some (.cells #[.int .i64 a0_0, .int .i64 a0_1, (.slice A0_2 l0_2.length c0_2)] 24 (0, 0))) ∧ Qbk (Below w.heap.size w w'))
 case atStart => exact ⟨(0), (0), eR, eR, H', ⟨Nat.le_refl _⟩, ⟨bU K112.out⟩, ⟨BU HB.out⟩⟩
 case round =>
  clear H'
  obtain ⟨x3_1, x9_1, rfl, rfl, HA, HK1, K112, HB⟩ := hrel
  cases gk with
  | zero => exact absurd HA.out (by simp [source_Code.l0])
  | succ k1 =>
   have H := HA.out
   clear HA
   simp only [source_Code.l0] at H
   by_cases c4 : x9_1 < (l0_2.length : Int)
   rotate_left
   ·rw [if_neg c4] at H
    have c4b0 := decide_eq_false c4
    clear c4
    obtain rfl := Option.some.inj H
    go_wp2
    go_ret
    exact ⟨oR, BU HB.out⟩
   rw [if_pos c4] at H
   have c4b0 := decide_eq_true c4
   clear c4
   by_cases c5 : 0 ≤ x9_1
   rotate_left
   ·rw [if_neg c5] at H
    exact absurd H (by simp)
   rw [if_pos c5] at H
   have c5b0 := decide_eq_true c5
   clear c5
   by_cases c6 : x9_1 < (l0_2.length : Int)
   rotate_left
   ·rw [if_neg c6] at H
    exact absurd H (by simp)
   rw [if_pos c6] at H
   have c6b0 := decide_eq_true c6
   clear c6
   have H' := As0 H
   clear H
   have p113 : 0 ≤ (x9_1 : Int) := qR
   have q113 : x9_1 < (l0_2.length : Int) := qR
   obtain ⟨ad113, A113_0, c113_0, e113, hx113_0, hx113_1, hx113_2, hx113_3, hx113_4, hl113_0, hi113_0⟩ := at_T39 R0_2.out x9_1 p113 q113
   cases e113
   replace hx113_0 := cl HB hx113_0
   replace hx113_1 := cl HB hx113_1
   replace hx113_2 := cl HB hx113_2
   replace hx113_3 := cl HB hx113_3
   replace hx113_4 := cl HB hx113_4
   have R113_0 := As0 hi113_0
   have C113_0 := As0 hl113_0
   clear hi113_0 hl113_0
   replace p113 := eq_true p113
   replace q113 := eq_true q113
   go_wp2_with (first | ((with_reducible refine gD 5 ?_); refine bY HB.out ?_; intro gb114 w7 hg hb K114 GW114 HB; have N112_114 := pL hg K112; have N114_112 := pR hg K112; replace K112 := kB K112 hb; clear hb hg; have q9_ := cN5 K114.out))
   go_roundg k1
   case measure => have := HK1.out; omega
   case rel => exact ⟨(wrap64 (x3_1 + (((Qam l0_2 x9_1).f0).length : Int))), (wrap64 (x9_1 + 1)), eR, eR, H', ⟨by have := HK1.out; omega⟩, ⟨kV K112⟩, ⟨BU HB.out⟩⟩
def source_Successors.f (a0_0 a0_1 a0_2 a0_3 : Int) : Option (List Int) := if a0_0 = 1 then (some (([a0_2] : List Int))) else (if a0_0 = 2 then (some (([a0_2, a0_3] : List Int))) else (some ([] : List Int)))
theorem source_Successors.calls (a0_0 a0_1 a0_2 a0_3 : Int) (r : List Int) (w : World) (h : source_Successors.f a0_0 a0_1 a0_2 a0_3 = some r) :
 Calls Tryz.prog 34 #[.agg #[.int .i64 a0_0, .int .i64 a0_1, .int .i64 a0_2, .int .i64 a0_3]] w fun e w' => ∃ v0_ : Value, e = .returned (v0_) ∧ Kd.R (Kd.int .i64) 3 w' w.heap.size (fun _ => True) v0_ r ∧ Below w.heap.size w w' := by
 have hu37 := Tryz.underlying37
 have HB := As0 (Below.refl w.heap.size w)
 have H : (if a0_0 = 1 then (some (([a0_2] : List Int))) else (if a0_0 = 2 then (some (([a0_2, a0_3] : List Int))) else (some ([] : List Int)))) = some r := h
 clear h
 by_cases c2 : a0_0 = 1
 ·rw [if_pos c2] at H
  have c2b0 : (a0_0 == 1) = true := beq_iff_eq.mpr c2
  have c2b1 : (a0_0 != 1) = false := bne_eq_false_iff_eq.mpr c2
  clear c2
  obtain ⟨y223, hy223⟩ : ∃ y_ : List Int, y_ = (([a0_2] : List Int)) := ⟨_, rfl⟩
  replace H : (some y223) = some r := by first | (rw [hy223]; exact H) | exact H
  have Ny223 := As0 hy223
  clear hy223
  obtain rfl := Option.some.inj H
  go_enter Tryz.func34, Tryz.ntmps34
  go_wp2_with (first | ((with_reducible refine gD 1 ?_); refine bY HB.out ?_; intro gb222 w3 hg hb K222 GW222 HB; clear hb hg; have q4_ := cN4 K222.out) | ((with_reducible refine gD 9 ?_); refine Kd.R_lit (Kd.int .i64) _ 3 ?hg (N := 9) ?hd (xs := ([a0_2] : List Int)) (inner := [.int .i64 a0_2]) (ok := fun _ => True) (okp := fun _ => True) ?hr ?hp (fun _ hk => hk) trivial (Below.refl _ _) (Nat.le_refl _) (by simp) ?_; (case hd => rfl); (case hg => rfl); (case hr => first | (go_simp; done) | (go_simp; rfl)); (case hp => exact (Reps.one (show Kd.M (Kd.int .i64) _ _ _ a0_2 [.int .i64 a0_2] from rfl) (Reps.none _ _))); intro v224 w5 ho6 hb hg_ hnew_; clear hg_ hnew_; (first | rw [← Ny223.out] at ho6 | (simp only [Int.reduceToNat] at ho6; rw [← Ny223.out] at ho6)); have O225 := As0 (Kd.R_lower ho6 (Qbm (BU HB.out))); replace K222 := kB K222 hb; replace HB := sB HB hb; clear hb ho6))
  go_ret
  exact ⟨_, by first | rfl | (simp [Qbe, Qbd] <;> rfl) | (simp [*, Qbe, Qbd] <;> rfl), RU O225.out, BU HB.out⟩
 rw [if_neg c2] at H
 have c2b0 : (a0_0 == 1) = false := beq_eq_false_iff_ne.mpr c2
 have c2b1 : (a0_0 != 1) = true := bne_iff_ne.mpr c2
 by_cases c7 : a0_0 = 2
 rotate_left
 ·rw [if_neg c7] at H
  have c7b0 : (a0_0 == 2) = false := beq_eq_false_iff_ne.mpr c7
  have c7b1 : (a0_0 != 2) = true := bne_iff_ne.mpr c7
  obtain rfl := Option.some.inj H
  go_enter Tryz.func34, Tryz.ntmps34
  go_wp2_with (first | ((with_reducible refine gD 1 ?_); refine bY HB.out ?_; intro gb222 w12 hg hb K222 GW222 HB; clear hb hg; have q13_ := cN4 K222.out))
  go_ret
  exact ⟨_, by first | rfl | (simp [Qbe, Qbd] <;> rfl) | (simp [*, Qbe, Qbd] <;> rfl), by first | exact Kd.R_nil _ _ _ _ _ | exact Kd.N_nil _ _ _ _ _ | exact Kd.V_nil _ _ _ _ _ | exact Kd.Q_nil _ _ _ _ _ | exact Kd.S_nil _ _ _ _ _, BU HB.out⟩
 rw [if_pos c7] at H
 have c7b0 : (a0_0 == 2) = true := beq_iff_eq.mpr c7
 have c7b1 : (a0_0 != 2) = false := bne_eq_false_iff_eq.mpr c7
 clear c7
 obtain ⟨y226, hy226⟩ : ∃ y_ : List Int, y_ = (([a0_2, a0_3] : List Int)) := ⟨_, rfl⟩
 replace H : (some y226) = some r := by first | (rw [hy226]; exact H) | exact H
 have Ny226 := As0 hy226
 clear hy226
 obtain rfl := Option.some.inj H
 go_enter Tryz.func34, Tryz.ntmps34
 go_wp2_with (first | ((with_reducible refine gD 1 ?_); refine bY HB.out ?_; intro gb222 w8 hg hb K222 GW222 HB; clear hb hg; have q9_ := cN4 K222.out) | ((with_reducible refine gD 16 ?_); refine Kd.R_lit (Kd.int .i64) _ 3 ?hg (N := 16) ?hd (xs := ([a0_2, a0_3] : List Int)) (inner := [.int .i64 a0_2, .int .i64 a0_3]) (ok := fun _ => True) (okp := fun _ => True) ?hr ?hp (fun _ hk => hk) trivial (Below.refl _ _) (Nat.le_refl _) (by simp) ?_; (case hd => rfl); (case hg => rfl); (case hr => first | (go_simp; done) | (go_simp; rfl)); (case hp => exact (Reps.one (show Kd.M (Kd.int .i64) _ _ _ a0_2 [.int .i64 a0_2] from rfl) (Reps.one (show Kd.M (Kd.int .i64) _ _ _ a0_3 [.int .i64 a0_3] from rfl) (Reps.none _ _)))); intro v227 w10 ho11 hb hg_ hnew_; clear hg_ hnew_; (first | rw [← Ny226.out] at ho11 | (simp only [Int.reduceToNat] at ho11; rw [← Ny226.out] at ho11)); have O228 := As0 (Kd.R_lower ho11 (Qbm (BU HB.out))); replace K222 := kB K222 hb; replace HB := sB HB hb; clear hb ho11))
 go_ret
 exact ⟨_, by first | rfl | (simp [Qbe, Qbd] <;> rfl) | (simp [*, Qbe, Qbd] <;> rfl), RU O228.out, BU HB.out⟩
end Go.Proofs.YtchpkjgibloleaaGreat.Z
namespace Go.Proofs.YtchpkjgibloleaaGreat.Z
set_option maxRecDepth 100000
set_option maxHeartbeats 8000000
open Go.RowKit Go.Proofs.YtchpkjgibloleaaGreatW.PrintWords Go.Proofs.YtchpkjgibloleaaGreatW.PrintLast Go.Proofs.YtchpkjgibloleaaGreatW.PrintMore
attribute [local go_sem] Qb3 Qb8
section
variable {P : Program} {ops : Array Oper} {Q : Exit → Act → World → Prop}
theorem goesP_ {oi : Oper} {N : Option Tmp} {a : Act} {w : World} {K : Act → World → Prop} {f : FuncId} {fn : Func} {asx : Array Operand} {ts : Array TypeId} (hf : P.funcs[f]? = some fn) (hname : (fn.name == "runtime.NumGoroutine") = false) (hb : fn.body.isSome = true) (args : Array Value)
    (hw : Region.wanted oi (yielded ops a.tmps) = true) (hN : oi.dst = N) (hop : oi.op = .call { callee := .value (.func f), args := asx, argTypes := ts }) (hargs : asx.map a.eval = args)
    (h : Calls P f args w fun e w' => ∃ ch, e = .panicked ch ∧ Q (.panic ch) a w') : if Region.wanted oi (yielded ops a.tmps) = true then Oper.wp P oi a w K Q else K (a.put N undef) w := by
 rw [if_pos hw]
 unfold Oper.wp
 have he := enters_ hf hname hb args w
 have hrun : (execOp a.eval oi).run P w = .ok (.enter f args) w := by
  unfold execOp
  simp [hop, resolve, Deferred.ofValue, invoke, Act.eval, hargs, he]
 rw [hrun, Oper.upon_enter]
 refine h.mono fun e w'' hh => ?_
 obtain ⟨ch, rfl, hk⟩ := hh
 exact hk
end
abbrev Pan := Option (Int × Int)
def endOf : Pan → Ending
 | none => .returned (.tuple #[])
 | some (y, i) => failed y i
abbrev OBs := Option (Bs × Pan)
def OBs.then (o : OBs) (f : Bs → OBs) : OBs := o.bind fun p => match p.2 with
 | none => f p.1
 | some q => some (p.1, some q)
def useF (k : Nat) (s : Bs) (v r i : Int) : OBs := (pairset_Has.f k s.set v (wrap64 (2 * r))).bind fun t => some (s.cost, if t = true then none else some (21, i))
def Qcg (s : Bs) (l : List S47) (i : Int) : Bs × Pan := (s.become l, if (l.length : Int) > s.most then some (24, i) else none)
def Qeh (k : Nat) (l : List S47) (d a : Int) : Option (List S47) := if l.length < 8796093022208 then Qaj.f k ((l.filter fun p => p.f0 != d).filter fun p => p.f1 != a) d a else none
def Qeu (k : Nat) (s : Bs) (d : Bool) (iD mD i : Int) : OBs := if d = true then (Qeh k s.set iD (wrap64 (2 * mD))).bind fun l => some (Qcg s.cost l i) else some (s, none)
def instrB (k : Nat) (s : Bs) (d b : Bool) (iD iB mD mB i : Int) : OBs := if b = true then (useF k s iB mB i).then fun s1 => Qeu k s1 d iD mD i else Qeu k s d iD mD i
def instrA (k : Nat) (s : Bs) (d a b : Bool) (iD iA iB mD mA mB i : Int) : OBs := if a = true then (useF k s iA mA i).then fun s1 => instrB k s1 d b iD iB mD mB i else instrB k s d b iD iB mD mB i
theorem Qdr (k g : Nat) (s : Bs) (v r i : Int) (x : Bs × Pan) (w : World) (h : Ck w g s) (hf : useF k s v r i = some x) :
    Calls Tryz.prog 121 #[.pointer (some ⟨g, 0, none⟩), .int .i64 v, .int .i64 r, .int .i64 i] w fun e w' => e = endOf x.2 ∧ Ck w' g x.1 ∧ Fr g w w' := by
 obtain ⟨t, ht, hx⟩ := Option.bind_eq_some_iff.mp hf
 obtain rfl := Option.some.inj hx
 cases t with
 | true => exact use_ok k g s v r i w h ht
 | false => exact use_fail k g s v r i w h ht
theorem Qc8 (g : Nat) (s : Bs) (l : List S47) (i : Int) (v : Value) (base : Nat) (ok : Nat → Prop) (w : World) (h : Ck w g s) (hv : Kd.R k47 47 w base ok v l) (hok : ∀ k, ok k → k ≠ g) :
    Calls Tryz.prog 156 #[.pointer (some ⟨g, 0, none⟩), v, .int .i64 i] w fun e w' => e = endOf (Qcg s l i).2 ∧ Ck w' g (Qcg s l i).1 ∧ Fr g w w' := by
 have hne := Kd.R_away hv hok
 obtain ⟨A, c, rfl, hc, hC⟩ := Kd.R_reads hv
 have hne' : ∀ ad, A = some ad → ad.block ≠ g := by
  rintro ad rfl e
  exact hne (by rw [← e]; rfl)
 have hty : Ty w A := by
  rintro ad rfl
  obtain ⟨inner, ho⟩ := Kd.R_own hv
  exact Qdt ho ad.block rfl
 unfold Qcg
 by_cases hm : (l.length : Int) > s.most
 ·rw [if_pos hm]; exact become_fail g s A c l i w h hc hC hne' hty hm
 ·rw [if_neg hm]; exact become_ok g s A c l i w h hc hC hne' hty hm
theorem defineF_calls (k : Nat) (A : Option Addr) (c : Nat) (l r : List S47) (d a : Int) (w : World) (hr : Kd.C k47 w A l.length l) (hc : l.length ≤ c) (hf : Qeh k l d a = some r) :
    Calls Tryz.prog 189 #[.slice A l.length c, .int .i64 d, .int .i64 a] w fun e w' => ∃ u, e = .returned u ∧ Kd.R k47 47 w' w.heap.size (fun _ => True) u r ∧ Below w.heap.size w w' := by
 unfold Qeh at hf
 by_cases hl : l.length < 8796093022208
 ·rw [if_pos hl] at hf; exact define_calls k A c l r d a w hr hc hl hf
 ·rw [if_neg hl] at hf; cases hf
theorem Ck.lt {w : World} {g : Nat} {s : Bs} (h : Ck w g s) : g < w.heap.size := by obtain ⟨A, c, h1, _⟩ := h; exact Qby h1
theorem OBs.then_inv {o : OBs} {f : Bs → OBs} {x : Bs × Pan} (h : o.then f = some x) : ∃ s1 p, o = some (s1, p) ∧ ((p = none ∧ f s1 = some x) ∨ (∃ q, p = some q ∧ x = (s1, some q))) := by
 obtain ⟨⟨s1, p⟩, h1, h2⟩ := Option.bind_eq_some_iff.mp h
 refine ⟨s1, p, h1, ?_⟩
 cases p with
 | none => exact .inl ⟨rfl, h2⟩
 | some q => exact .inr ⟨q, rfl, (Option.some.inj h2).symm⟩
theorem instr_calls (k g : Nat) (s : Bs) (i0 i1 i2 i3 i4 m0 m1 m2 m3 m4 m5 m6 ia : Int) (sd sa sb sm so : Bool) (x : Bs × Pan) (w : World) (h : Ck w g s) (hof : opcode_Of.f i0 = some (sd, sa, sb, sm, so)) (hf : instrA k s sd sa sb i1 i2 i3 m1 m2 m3 ia = some x) :
    Calls Tryz.prog 159 #[.pointer (some ⟨g, 0, none⟩), .agg #[.int .i64 i0, .int .i64 i1, .int .i64 i2, .int .i64 i3, .int .i64 i4], .agg #[.int .i64 m0, .int .i64 m1, .int .i64 m2, .int .i64 m3, .int .i64 m4, .int .i64 m5, .int .i64 m6], .int .i64 ia] w fun e w' => e = endOf x.2 ∧ Ck w' g x.1 ∧ Fr g w w' := by
 have hu41 := Tryz.underlying41
 have hu44 := Tryz.underlying44
 have hu47 := Tryz.underlying47
 have hu59 := Tryz.underlying59
 have hu128 := Tryz.underlying128
 have hu196 := Tryz.underlying196
 have HK := As0 h
 have H := As0 hf
 clear h hf
 have HF := As0 (Fr.refl g w)
 go_enter Tryz.func159, Tryz.ntmps159
 go_upto_if 17 with (first
  | ((with_reducible refine gD 5 ?_); refine bX ?_; intro gi hg w1 hbox hb; have I := As0 hbox; have NI := As0 (by have := HK.out.lt; omega : gi ≠ g); replace HK := As0 (HK.out.below hb); replace HF := As0 (HF.out.then hb); clear hb hbox hg)
  | ((with_reducible refine gD 6 ?_); refine bX ?_; intro gm hg w2 hbox hb; have M := As0 hbox; have NM := As0 (by have := HK.out.lt; omega : gm ≠ g); replace I := As0 (Qbl I.out hb); replace HK := As0 (HK.out.below hb); replace HF := As0 (HF.out.then hb); (obtain ⟨a0, a1, a2, a3, a4, b0, b1, b2, b3, b4⟩ := cN5 I.out); (obtain ⟨c0, c1, c2, c3, c4, c5, c6, d0, d1, d2, d3, d4, d5, d6⟩ := cN7 M.out); clear hb hbox hg)
  | (go_at_call 129; refine (opcode_Of.calls i0 sd sa sb sm so _ hof).mono ?_; rintro e w3 ⟨rfl, hb⟩; clear a0 a1 a2 a3 a4 b0 b1 b2 b3 b4 c0 c1 c2 c3 c4 c5 c6 d0 d1 d2 d3 d4 d5 d6; replace I := As0 (Qbl I.out hb); replace M := As0 (Qbl M.out hb); replace HK := As0 (HK.out.below hb); replace HF := As0 (HF.out.then hb); clear hb)
  | ((with_reducible refine gD 8 ?_); refine bX ?_; intro gs hg w4 hbox hb; have S := As0 hbox; have NS := As0 (by have := HK.out.lt; omega : gs ≠ g); have GS := As0 (Nat.le_of_eq hg.symm); have HBS := As0 hb; clear hb hbox hg)
  | ((with_reducible refine Qdb (.store 196 (.tmp 8) (.tmp 14)) rfl ?_); go_loud (refine Qau rfl rfl 196 _ _ rfl gs #[.bool sd, .bool sa, .bool sb, .bool sm] rfl rfl 196 #[.bool false, .bool false, .bool false, .bool false] S.out (by kernel_rfl) rfl (by kernel_rfl) ?_); intro w5 hg ho hB; have hb := hB _ _ GS.out HBS.out; replace S := As0 hg; replace I := As0 (Qbl I.out hb); replace M := As0 (Qbl M.out hb); replace HK := As0 (HK.out.below hb); replace HF := As0 (HF.out.then hb); (obtain ⟨a0, a1, a2, a3, a4, b0, b1, b2, b3, b4⟩ := cN5 I.out); (obtain ⟨c0, c1, c2, c3, c4, c5, c6, d0, d1, d2, d3, d4, d5, d6⟩ := cN7 M.out); (obtain ⟨e0, e1, e2, e3, f0, f1, f2, f3⟩ := cN4 S.out); clear hg ho hB hb HBS GS))
 go_cut [] (fun wc => ∃ s1, Qbk (instrB k s1 sd sb i1 i3 m1 m3 ia = some x) ∧ Qbk (Ck wc g s1) ∧ Qbk (Fr g w wc) ∧ Qbk (wc.heap[gi]? = some (.cells #[.int .i64 i0, .int .i64 i1, .int .i64 i2, .int .i64 i3, .int .i64 i4] 41 (0, 0))) ∧ Qbk (wc.heap[gm]? = some (.cells #[.int .i64 m0, .int .i64 m1, .int .i64 m2, .int .i64 m3, .int .i64 m4, .int .i64 m5, .int .i64 m6] 59 (0, 0))) ∧ Qbk (wc.heap[gs]? = some (.cells #[.bool sd, .bool sa, .bool sb, .bool sm] 196 (0, 0))))
 case first =>
  cases sa with
  | false =>
   go_wp2
   go_meet
   case rel => exact ⟨s, As0 H.out, HK, HF, I, M, S⟩
  | true =>
   obtain ⟨s7, p, hu, hp⟩ := OBs.then_inv (show OBs.then (useF k s i2 m2 ia) (fun s1 => instrB k s1 sd sb i1 i3 m1 m3 ia) = some x from H.out)
   rcases hp with ⟨rfl, hp⟩ | ⟨q, rfl, rfl⟩
   ·go_wp2_with (go_at_call 121; refine (Qdr k g _ i2 m2 ia _ _ HK.out hu).mono ?_; rintro e w7 ⟨rfl, hk, hf⟩; replace HK := As0 hk; clear hk; replace I := As0 (hf.blk I.out NI.out); replace M := As0 (hf.blk M.out NM.out); replace S := As0 (hf.blk S.out NS.out); replace HF := As0 (HF.out.trans hf); clear hf)
    go_meet
    case rel => exact ⟨s7, As0 hp, HK, HF, I, M, S⟩
   ·go_wp2_with (go_at_call 121; refine (Qdr k g _ i2 m2 ia _ _ HK.out hu).mono ?_; rintro e w7 ⟨rfl, hk, hf⟩; replace HF := As0 (HF.out.trans hf))
    exact ⟨rfl, rfl, hk, HF.out⟩
 case rest =>
  clear HK HF I M S H
  obtain ⟨s1, H, HK, HF, I, M, S⟩ := hcut
  clear a0 a1 a2 a3 a4 b0 b1 b2 b3 b4 c0 c1 c2 c3 c4 c5 c6 d0 d1 d2 d3 d4 d5 d6 e0 e1 e2 e3 f0 f1 f2 f3
  (obtain ⟨a0, a1, a2, a3, a4, b0, b1, b2, b3, b4⟩ := cN5 I.out); (obtain ⟨c0, c1, c2, c3, c4, c5, c6, d0, d1, d2, d3, d4, d5, d6⟩ := cN7 M.out); (obtain ⟨e0, e1, e2, e3, f0, f1, f2, f3⟩ := cN4 S.out)
  go_upto_if 26 with (fail)
  go_cut [] (fun wc => ∃ s2, Qbk (Qeu k s2 sd i1 m1 ia = some x) ∧ Qbk (Ck wc g s2) ∧ Qbk (Fr g w wc) ∧ Qbk (wc.heap[gi]? = some (.cells #[.int .i64 i0, .int .i64 i1, .int .i64 i2, .int .i64 i3, .int .i64 i4] 41 (0, 0))) ∧ Qbk (wc.heap[gm]? = some (.cells #[.int .i64 m0, .int .i64 m1, .int .i64 m2, .int .i64 m3, .int .i64 m4, .int .i64 m5, .int .i64 m6] 59 (0, 0))) ∧ Qbk (wc.heap[gs]? = some (.cells #[.bool sd, .bool sa, .bool sb, .bool sm] 196 (0, 0))))
  case first =>
   cases sb with
   | false =>
    go_wp2
    go_meet
    case rel => exact ⟨s1, As0 H.out, HK, HF, I, M, S⟩
   | true =>
    obtain ⟨s7, p, hu, hp⟩ := OBs.then_inv (show OBs.then (useF k s1 i3 m3 ia) (fun s1 => Qeu k s1 sd i1 m1 ia) = some x from H.out)
    rcases hp with ⟨rfl, hp⟩ | ⟨q, rfl, rfl⟩
    ·go_wp2_with (go_at_call 121; refine (Qdr k g _ i3 m3 ia _ _ HK.out hu).mono ?_; rintro e w7 ⟨rfl, hk, hf⟩; replace HK := As0 hk; clear hk; replace I := As0 (hf.blk I.out NI.out); replace M := As0 (hf.blk M.out NM.out); replace S := As0 (hf.blk S.out NS.out); replace HF := As0 (HF.out.trans hf); clear hf)
     go_meet
     case rel => exact ⟨s7, As0 hp, HK, HF, I, M, S⟩
    ·go_wp2_with (go_at_call 121; refine (Qdr k g _ i3 m3 ia _ _ HK.out hu).mono ?_; rintro e w7 ⟨rfl, hk, hf⟩; replace HF := As0 (HF.out.trans hf))
     exact ⟨rfl, rfl, hk, HF.out⟩
  case rest =>
   clear HK HF I M S H a0 a1 a2 a3 a4 b0 b1 b2 b3 b4 c0 c1 c2 c3 c4 c5 c6 d0 d1 d2 d3 d4 d5 d6 e0 e1 e2 e3 f0 f1 f2 f3
   obtain ⟨s2, H, HK, HF, I, M, S⟩ := hcut
   (obtain ⟨a0, a1, a2, a3, a4, b0, b1, b2, b3, b4⟩ := cN5 I.out); (obtain ⟨c0, c1, c2, c3, c4, c5, c6, d0, d1, d2, d3, d4, d5, d6⟩ := cN7 M.out); (obtain ⟨e0, e1, e2, e3, f0, f1, f2, f3⟩ := cN4 S.out)
   cases sd with
   | false =>
    obtain rfl := Option.some.inj (show some (s2, none) = some x from H.out)
    go_wp2
    go_returns
    exact ⟨rfl, HK.out, HF.out⟩
   | true =>
    obtain ⟨l, hl, hx⟩ := Option.bind_eq_some_iff.mp (show ((Qeh k s2.set i1 (wrap64 (2 * m1))).bind fun l => some (Qcg s2.cost l ia)) = some x from H.out)
    obtain rfl := Option.some.inj hx
    go_wp2_with (go_at_call 155; refine (Qd0 g s2 _ HK.out).mono ?_; rintro e w8 ⟨rfl, hk, hf⟩; replace HK := As0 hk; clear hk; replace I := As0 (hf.blk I.out NI.out); replace M := As0 (hf.blk M.out NM.out); replace S := As0 (hf.blk S.out NS.out); replace HF := As0 (HF.out.trans hf); clear hf a0 a1 a2 a3 a4 b0 b1 b2 b3 b4 c0 c1 c2 c3 c4 c5 c6 d0 d1 d2 d3 d4 d5 d6 e0 e1 e2 e3 f0 f1 f2 f3; (obtain ⟨a0, a1, a2, a3, a4, b0, b1, b2, b3, b4⟩ := cN5 I.out); (obtain ⟨c0, c1, c2, c3, c4, c5, c6, d0, d1, d2, d3, d4, d5, d6⟩ := cN7 M.out))
    (obtain ⟨A, c, hg, hc, hC, hne⟩ := HK.out); (obtain ⟨q0, q1, q2, q3, f0, f1, f2, f3⟩ := cN4 hg)
    replace q0 : w8.cell? ⟨g, 0, none⟩ = some (.slice A s2.set.length c) := q0
    have HC := As0 (show Kd.C k47 w8 A s2.set.length s2.set from hC)
    have hc1 : s2.set.length ≤ c := hc
    have HL := As0 hl
    clear hg hC hc hl q1 q2 q3
    cases hp : (Qcg s2.cost l ia).2 with
    | none =>
     refine Qcb (n := 13) (S := fun w' => w'.cell? ⟨g, 0, none⟩ = some (.slice A s2.set.length c) ∧ w'.cell? ⟨gi, 1, none⟩ = some (.int .i64 i1) ∧ w'.cell? ⟨gm, 1, none⟩ = some (.int .i64 m1)) (ds := [10, 12]) (bb 13 0) (by kernel_rfl) rfl rfl ⟨q0, a1, c1⟩ (fun hHeld => ?_)
     refine pu 0 38 (bb 13 1) ?_
     refine pu 1 39 (bb 13 3) ?_
     refine pu 2 40 (bb 13 7) ?_
     refine pu 3 41 (bb 13 15) ?_
     refine pu 5 43 (bb 13 47) ?_
     refine pu 7 45 (bb 13 175) ?_
     refine pu 11 49 (bb 13 2223) ?_
     refine tu hHeld 4 42 (bb 13 2239) ?_
     refine tu hHeld 6 44 (bb 13 2303) ?_
     refine tu hHeld 8 46 (bb 13 2559) ?_
     refine one_ (i := 9) (N := some 47) (bb 13 3071) rfl rfl (by kernel_rfl) (by decide) (fun K hK => ?_)
     refine gG Tryz.func161 #[.int .i64 m1] ?_
     with_reducible refine (location_Reg.calls m1 _ _ rfl).mono ?_
     rintro e w2 ⟨rfl, m, rfl⟩
     refine ⟨_, rfl, ?_⟩
     refine hK.out _ _ ⟨q0, a1, c1⟩ (fun hHeld => ?_)
     clear hK K
     refine Qb1 (a' := ?_) ?_ ?_
     rotate_left
     ·show Act.put _ (some 47) _ = _
      simp only [Act.put, List.setIfInBounds_toArray, List.set_cons_zero, List.set_cons_succ, Qbu, Qbv]
      rfl
     refine Qdu (i := 10) (N := some 48) (bb 13 4095) rfl rfl (by kernel_rfl) (by decide) (fun K hK => ?_)
     refine gG Tryz.func189 #[.slice A s2.set.length c, .int .i64 i1, .int .i64 (wrap64 (2 * m1))] ?_
     with_reducible refine (defineF_calls k A c s2.set l i1 (wrap64 (2 * m1)) _ (by repeat (first | exact HC.out | refine Kd.C_drewN ?_ _ | refine Kd.C_drew ?_)) hc1 HL.out).mono ?_
     rintro e w9 ⟨u, rfl, ho9, hb9⟩
     refine ⟨_, rfl, ?_⟩
     refine hK.out _ _ ?_
     clear hK K
     refine Qb1 (a' := ?_) ?_ ?_
     rotate_left
     ·show Act.put _ (some 48) _ = _
      simp only [Act.put, List.setIfInBounds_toArray, List.set_cons_zero, List.set_cons_succ, Qbu, Qbv]
      rfl
     refine Qdu (i := 12) (N := some 50) (bb 13 8191) rfl rfl (by kernel_rfl) (by decide) (fun K hK => ?_)
     refine gG Tryz.func156 #[.pointer (some ⟨g, 0, none⟩), u, .int .i64 ia] ?_
     with_reducible refine (Qc8 g s2.cost l ia u _ _ _ (HK.out.below (Qb5 (BU (Below.refl _ w8)) hb9)) (Kd.R_bound ho9) (fun k hk => Nat.ne_of_gt (Nat.lt_of_lt_of_le HK.out.lt (Nat.le_trans (Qbm (BU (Below.refl _ w8))) hk.2.1)))).mono ?_
     rintro e w10 ⟨he, hk, hf⟩
     replace HF := As0 ((HF.out.then (Qb5 (BU (Below.refl _ w8)) hb9)).trans hf)
     replace HK := As0 hk
     rw [hp] at he
     subst he
     refine ⟨_, rfl, ?_⟩
     refine hK.out _ _ ?_
     clear hK K
     refine Qb1 (a' := ?_) ?_ ?_
     rotate_left
     ·show Act.put _ (some 50) _ = _
      simp only [Act.put, List.setIfInBounds_toArray, List.set_cons_zero, List.set_cons_succ, Qbu, Qbv]
      rfl
     refine Qcy (by kernel_rfl) ?_
     go_wp2
     go_returns
     exact ⟨by rw [hp]; rfl, HK.out, HF.out⟩
    | some q =>
     refine Qcb (n := 13) (S := fun w' => w'.cell? ⟨g, 0, none⟩ = some (.slice A s2.set.length c) ∧ w'.cell? ⟨gi, 1, none⟩ = some (.int .i64 i1) ∧ w'.cell? ⟨gm, 1, none⟩ = some (.int .i64 m1)) (ds := [10, 12]) (bb 13 0) (by kernel_rfl) rfl rfl ⟨q0, a1, c1⟩ (fun hHeld => ?_)
     refine pu 0 38 (bb 13 1) ?_
     refine pu 1 39 (bb 13 3) ?_
     refine pu 2 40 (bb 13 7) ?_
     refine pu 3 41 (bb 13 15) ?_
     refine pu 5 43 (bb 13 47) ?_
     refine pu 7 45 (bb 13 175) ?_
     refine pu 11 49 (bb 13 2223) ?_
     refine tu hHeld 4 42 (bb 13 2239) ?_
     refine tu hHeld 6 44 (bb 13 2303) ?_
     refine tu hHeld 8 46 (bb 13 2559) ?_
     refine one_ (i := 9) (N := some 47) (bb 13 3071) rfl rfl (by kernel_rfl) (by decide) (fun K hK => ?_)
     refine gG Tryz.func161 #[.int .i64 m1] ?_
     with_reducible refine (location_Reg.calls m1 _ _ rfl).mono ?_
     rintro e w2 ⟨rfl, m, rfl⟩
     refine ⟨_, rfl, ?_⟩
     refine hK.out _ _ ⟨q0, a1, c1⟩ (fun hHeld => ?_)
     clear hK K
     refine Qb1 (a' := ?_) ?_ ?_
     rotate_left
     ·show Act.put _ (some 47) _ = _
      simp only [Act.put, List.setIfInBounds_toArray, List.set_cons_zero, List.set_cons_succ, Qbu, Qbv]
      rfl
     refine Qdu (i := 10) (N := some 48) (bb 13 4095) rfl rfl (by kernel_rfl) (by decide) (fun K hK => ?_)
     refine gG Tryz.func189 #[.slice A s2.set.length c, .int .i64 i1, .int .i64 (wrap64 (2 * m1))] ?_
     with_reducible refine (defineF_calls k A c s2.set l i1 (wrap64 (2 * m1)) _ (by repeat (first | exact HC.out | refine Kd.C_drewN ?_ _ | refine Kd.C_drew ?_)) hc1 HL.out).mono ?_
     rintro e w9 ⟨u, rfl, ho9, hb9⟩
     refine ⟨_, rfl, ?_⟩
     refine hK.out _ _ ?_
     clear hK K
     refine Qb1 (a' := ?_) ?_ ?_
     rotate_left
     ·show Act.put _ (some 48) _ = _
      simp only [Act.put, List.setIfInBounds_toArray, List.set_cons_zero, List.set_cons_succ, Qbu, Qbv]
      rfl
     refine Qdu (i := 12) (N := some 50) (bb 13 8191) rfl rfl (by kernel_rfl) (by decide) (fun K hK => ?_)
     refine goesP_ Tryz.func156 (by kernel_rfl) rfl #[.pointer (some ⟨g, 0, none⟩), u, .int .i64 ia] (by rfl) rfl rfl (by simp only [List.map_toArray, List.map_cons, List.map_nil]; rfl) ?_
     with_reducible refine (Qc8 g s2.cost l ia u _ _ _ (HK.out.below (Qb5 (BU (Below.refl _ w8)) hb9)) (Kd.R_bound ho9) (fun k hk => Nat.ne_of_gt (Nat.lt_of_lt_of_le HK.out.lt (Nat.le_trans (Qbm (BU (Below.refl _ w8))) hk.2.1)))).mono ?_
     rintro e w10 ⟨he, hk, hf⟩
     replace HF := As0 ((HF.out.then (Qb5 (BU (Below.refl _ w8)) hb9)).trans hf)
     replace HK := As0 hk
     rw [hp] at he
     subst he
     exact ⟨_, rfl, rfl, by rw [hp]; rfl, HK.out, HF.out⟩
end Go.Proofs.YtchpkjgibloleaaGreat.Z
