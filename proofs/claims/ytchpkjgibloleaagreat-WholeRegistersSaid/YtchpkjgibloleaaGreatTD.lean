/- TD -/
import Derived.Test.YtchpkjgibloleaaGreatTA
import Derived.Test.YtchpkjgibloleaaGreatTC
import Derived.Calls
import Derived.Orders
import Derived.LoopN
import Derived.Scope
import Derived.Recover
import Derived.Below
import Derived.Laws.AppendOwn
import Derived.Maps.AppendAt
import Derived.Laws.CopyOwn
import Derived.Laws.MakeOwn
import Derived.Laws.Cells
import Derived.Laws.Tables
import Derived.Handy
import Derived.WalkKit
import Derived.KernelRfl
set_option linter.unusedVariables false
set_option linter.unusedSimpArgs false
namespace Go.Proofs.YtchpkjgibloleaaGreat.Z
set_option maxRecDepth 100000
set_option maxHeartbeats 8000000
open Go.RowKit Go.Proofs.YtchpkjgibloleaaGreatW.PrintWords Go.Proofs.YtchpkjgibloleaaGreatW.PrintLast Go.Proofs.YtchpkjgibloleaaGreatW.PrintMore
attribute [local go_sem] Qbt Qb0
theorem win_ {c W : List S59} {i : Nat} {lo : Int} (h2 : lo = (i : Int) - 64) (hW : W = (c.take ((i : Int) + 1).toNat).drop lo.toNat) (h : Qc0 W 0) : Qc0 ((c.take (i + 1)).drop (i - 64)) 0 := by
 subst hW
 rwa [show ((i : Int) + 1).toNat = i + 1 by omega, show lo.toNat = i - 64 by omega] at h
def okIrmach (c : List S59) (r s : Int) (i : Nat) : Prop := mInB (Qaj c (i : Int)).f0 (Qaj c (i : Int)).f1 (Qaj c (i : Int)).f2 (Qaj c (i : Int)).f3 (Qaj c (i : Int)).f4 (Qaj c (i : Int)).f5 (Qaj c (i : Int)).f6 r s = 0 ∧ (64 ≤ i → Qc0 ((c.take (i + 1)).drop (i - 64)) 0)
def Qel (b : S57) (r s m : Int) : Prop := (∀ i : Nat, i < b.f0.length → okIrmach b.f0 r s i) ∧ trmR b.f1.f0 b.f1.f1 b.f1.f2 b.f1.f3 r m = 0
theorem rmach_calls (k : Nat) (a r s v : Int) (A0 : Option Addr) (c0 : Nat) (l : List S57) (w : World) (h0 : Kd.C k57 w A0 l.length l) (hc0 : l.length ≤ c0) (hv : Qa4.f k a r s l = some v) (hvb : v ≤ 1000000) (hrb : r ≤ 1000) (hsb : s ≤ 1000) (hl : l.length ≤ 1000) (hcl : ∀ i : Nat, i < l.length → (Qaq l (i : Int)).f0.length ≤ 1000) :
    Calls Tryz.prog 26 #[.agg #[.int .i64 a, .int .i64 r, .int .i64 s, .slice A0 l.length c0]] w fun e w' => (∃ x, e = .returned (.int .i64 x) ∧ (x = 0 → ((0 ≤ a ∧ a ≤ s) ∧ 0 ≤ r) ∧ l.length ≠ 0 ∧ ∀ i : Nat, i < l.length → Qel (Qaq l (i : Int)) r s l.length)) ∧ Below w.heap.size w w' := by
 have hu27 := Tryz.underlying27
 have hu57 := Tryz.underlying57
 have hu59 := Tryz.underlying59
 have hu37 := Tryz.underlying37
 have hu54 := Tryz.underlying54
 have H0 := As0 h0
 have HB := As0 (Below.refl w.heap.size w)
 clear h0
 obtain ⟨q0_, c0_⟩ : ∃ q, decide (a < 0) = q := ⟨_, rfl⟩
 obtain ⟨q1_, c1_⟩ : ∃ q, decide (s < a) = q := ⟨_, rfl⟩
 have k0_ : decide (1048576 < r) = false := by first | exact decide_eq_false (by omega) | (simp; omega)
 have k1_ : decide (1048576 < (l.length : Int)) = false := by first | exact decide_eq_false (by omega) | (simp; omega)
 have k2_ : decide (1048576 < l.length) = false := by first | exact decide_eq_false (by omega) | (simp; omega)
 have k3_ : decide (1048576 < v) = false := by first | exact decide_eq_false (by omega) | (simp; omega)
 have k4_ : decide (1048576 < s) = false := by first | exact decide_eq_false (by omega) | (simp; omega)
 go_enter Tryz.func26, Tryz.ntmps26
 go_wp2_with (first
  | ((with_reducible refine gD 1 ?_); refine bX ?_; intro gB hg w1 aC hb; have B := As0 aC; have GB := As0 (by rw [hg]; exact Qbi (BU HB.out) : w.heap.size ≤ gB); replace HB := sB HB hb; (obtain ⟨b0, b1, b2, b3, -⟩ := cN4 B.out); clear hb aC hg)
  | (go_at_call 53; refine (Qa4.calls k a r s A0 c0 l v _ (Kd.C_below H0.out (BU HB.out)) hc0 hv).mono ?_; rintro e w4 ⟨rfl, hb⟩; clear b0 b1 b2 b3; replace B := kB B hb; replace HB := sB HB hb; (obtain ⟨b0, b1, b2, b3, -⟩ := cN4 B.out); clear hb))
 any_goals (go_ret; exact ⟨⟨_, rfl, fun h => absurd h (by decide)⟩, BU HB.out⟩)
 go_loopg [3] (l.length + 1) (fun kq v3 w' => ∃ x : Int, v3 = .int .i64 x ∧ Qbf (0 ≤ x ∧ x ≤ (l.length : Int) ∧ (kq : Int) + x = (l.length : Int) + 1) ∧ Qbf (∀ i : Nat, (i : Int) < x → Qel (Qaq l (i : Int)) r s l.length) ∧ Qbf (w'.heap[gB]? = some (.cells #[.int .i64 a, .int .i64 r, .int .i64 s, .slice A0 l.length c0] 27 (0, 0))) ∧ Qbf (Below w.heap.size w w'))
 case atStart => exact ⟨0, rfl, ⟨by omega⟩, ⟨fun i hi => by omega⟩, ⟨bU B.out⟩, ⟨BU HB.out⟩⟩
 case round =>
  clear b0 b1 b2 b3 B HB
  obtain ⟨x, rfl, HI, HO, B, HB⟩ := hrel
  (obtain ⟨b0, b1, b2, b3, -⟩ := cN4 B.out)
  cases gk with
  | zero => exact absurd HI.out (by omega)
  | succ kq =>
   have hi0 : 0 ≤ x := HI.out.1
   by_cases hlt : x < (l.length : Int)
   ·have hd0 := decide_eq_true hlt
    obtain ⟨ad, A1, c1, e0, hx0, hx1, hx2, hx3, hx4, hl1, hC1⟩ := Qep H0.out x hi0 hlt
    have hcl1 := hcl x.toNat (by omega)
    rw [Int.toNat_of_nonneg hi0] at hcl1
    have hw : wrap64 (x + 1) = x + 1 := w64i (by omega) (by omega)
    generalize hbk : Qaq l x = bk at hx0 hx1 hx2 hx3 hx4 hl1 hC1 hcl1
    cases e0
    replace hx0 := cl HB hx0
    replace hx1 := cl HB hx1
    replace hx2 := cl HB hx2
    replace hx3 := cl HB hx3
    replace hx4 := cl HB hx4
    have C1 := As0 hC1
    have HW := As0 hw
    have HK := As0 hbk
    clear hC1 hw hbk
    have p0 := eq_true hi0
    have q0 := eq_true hlt
    go_wp2_with (first
     | ((with_reducible refine gD 4 ?_); refine bX ?_; intro gO hg w5 aC hb; have O := As0 aC; have GO := As0 (by rw [hg]; exact Qbi (BU HB.out) : w.heap.size ≤ gO); have NO := As0 (by have := Qbs (bU B.out); omega : gB ≠ gO); replace B := kB B hb; replace HB := sB HB hb; clear b0 b1 b2 b3; (obtain ⟨b0, b1, b2, b3, -⟩ := cN4 B.out); clear hb aC hg)
     | ((with_reducible refine Qcb (.store 57 (.tmp 4) (.tmp 53)) rfl ?_); go_loud (refine Qae rfl rfl 57 _ _ rfl gO #[.slice A1 bk.f0.length c1, .int .i64 bk.f1.f0, .int .i64 bk.f1.f1, .int .i64 bk.f1.f2, .int .i64 bk.f1.f3] rfl rfl 57 #[.slice none 0 0, .int .i64 0, .int .i64 0, .int .i64 0, .int .i64 0] (bU O.out) (by kernel_rfl) rfl (by kernel_rfl) ?_); intro w6 hg ho hB; replace HB := As0 (hB _ _ GO.out (BU HB.out)); replace B := As0 ((ho _ NO.out).trans (bU B.out)); replace O := As0 hg; clear b0 b1 b2 b3; (obtain ⟨b0, b1, b2, b3, -⟩ := cN4 B.out); (obtain ⟨o0, o1, o2, o3, o4, -⟩ := cN5 O.out); clear hg ho hB))
    go_loopg [5] (bk.f0.length + 1) (fun kq v5 w' => ∃ y : Int, v5 = .int .i64 y ∧ Qbf (0 ≤ y ∧ y ≤ (bk.f0.length : Int) ∧ (kq : Int) + y = (bk.f0.length : Int) + 1) ∧ Qbf (∀ i : Nat, (i : Int) < y → okIrmach bk.f0 r s i) ∧ Qbf (w'.heap[gB]? = some (.cells #[.int .i64 a, .int .i64 r, .int .i64 s, .slice (some ad) l.length c0] 27 (0, 0))) ∧ Qbf (w'.heap[gO]? = some (.cells #[.slice A1 bk.f0.length c1, .int .i64 bk.f1.f0, .int .i64 bk.f1.f1, .int .i64 bk.f1.f2, .int .i64 bk.f1.f3] 57 (0, 0))) ∧ Qbf (Below w.heap.size w w'))
    case atStart => exact ⟨0, rfl, ⟨by omega⟩, ⟨fun i hi => by omega⟩, ⟨bU B.out⟩, ⟨bU O.out⟩, ⟨BU HB.out⟩⟩
    case round =>
     clear b0 b1 b2 b3 o0 o1 o2 o3 o4 B O HB hx0 hx1 hx2 hx3 hx4 p0 q0 hd0
     obtain ⟨y, rfl, HJ, HP, B, O, HB⟩ := hrel
     (obtain ⟨b0, b1, b2, b3, -⟩ := cN4 B.out)
     (obtain ⟨o0, o1, o2, o3, o4, -⟩ := cN5 O.out)
     cases gk with
     | zero => exact absurd HJ.out (by omega)
     | succ kj =>
      have hj0 : 0 ≤ y := HJ.out.1
      by_cases hjt : y < (bk.f0.length : Int)
      ·have hd1 := decide_eq_true hjt
       obtain ⟨a1, e1, hy0, hy1, hy2, hy3, hy4, hy5, hy6⟩ := at_T59 C1.out y hj0 hjt
       have HV := As0 (w64i (n := y + 1) (by omega) (by omega))
       generalize hm : Qaj bk.f0 y = m at hy0 hy1 hy2 hy3 hy4 hy5 hy6
       have HM := As0 hm
       clear hm
       cases e1
       replace hy0 := cl HB hy0
       replace hy1 := cl HB hy1
       replace hy2 := cl HB hy2
       replace hy3 := cl HB hy3
       replace hy4 := cl HB hy4
       replace hy5 := cl HB hy5
       replace hy6 := cl HB hy6
       have p1 := eq_true hj0
       have q1 := eq_true hjt
       obtain ⟨z, hz⟩ : ∃ z, mInB m.f0 m.f1 m.f2 m.f3 m.f4 m.f5 m.f6 r s = z := ⟨_, rfl⟩
       go_wp2
       refine Qb1 (n := 11) (S := fun w' => w'.cell? ⟨gO, 0, none⟩ = some (.slice (some a1) bk.f0.length c1) ∧ w'.cell? (a1.add (y.toNat * 7)) = some (.int .i64 m.f0) ∧ w'.cell? ⟨(a1.add (y.toNat * 7)).block, (a1.add (y.toNat * 7)).off + 1, none⟩ = some (.int .i64 m.f1) ∧ w'.cell? ⟨(a1.add (y.toNat * 7)).block, (a1.add (y.toNat * 7)).off + 2, none⟩ = some (.int .i64 m.f2) ∧ w'.cell? ⟨(a1.add (y.toNat * 7)).block, (a1.add (y.toNat * 7)).off + 3, none⟩ = some (.int .i64 m.f3) ∧ w'.cell? ⟨(a1.add (y.toNat * 7)).block, (a1.add (y.toNat * 7)).off + 4, none⟩ = some (.int .i64 m.f4) ∧ w'.cell? ⟨(a1.add (y.toNat * 7)).block, (a1.add (y.toNat * 7)).off + 5, none⟩ = some (.int .i64 m.f5) ∧ w'.cell? ⟨(a1.add (y.toNat * 7)).block, (a1.add (y.toNat * 7)).off + 6, none⟩ = some (.int .i64 m.f6) ∧ w'.cell? ⟨gB, 1, none⟩ = some (.int .i64 r) ∧ w'.cell? ⟨gB, 2, none⟩ = some (.int .i64 s)) (ds := [9]) (bb 11 0) (by kernel_rfl) rfl rfl ⟨o0, hy0, hy1, hy2, hy3, hy4, hy5, hy6, b1, b2⟩ (fun aA => ?_)
       refine pu 0 61 (bb 11 1) ?_
       refine pu 2 63 (bb 11 5) ?_
       refine pu 5 66 (bb 11 37) ?_
       refine pu 7 68 (bb 11 165) ?_
       refine tu aA 1 62 (bb 11 167) ?_
       refine pu 3 64 (bb 11 175) ?_
       refine tu aA 4 65 (bb 11 191) ?_
       refine tu aA 6 67 (bb 11 255) ?_
       refine tu aA 8 69 (bb 11 511) ?_
       refine Qc7 (i := 9) (N := some 70) (bb 11 1023) rfl rfl (by kernel_rfl) (by decide) (fun K hK => ?_)
       refine gG Tryz.func56 #[.agg #[.int .i64 m.f0, .int .i64 m.f1, .int .i64 m.f2, .int .i64 m.f3, .int .i64 m.f4, .int .i64 m.f5, .int .i64 m.f6], .int .i64 r, .int .i64 s] ?_
       with_reducible refine (rmi_calls m.f0 m.f1 m.f2 m.f3 m.f4 m.f5 m.f6 r s _).mono ?_
       rintro e w7 ⟨he, hb⟩
       rw [hz] at he
       subst he
       replace B := kB B hb
       replace O := kB O hb
       replace HB := sB HB hb
       refine ⟨_, rfl, ?_⟩
       refine hK.out _ _ ?_
       clear hK K
       refine Qbz (a' := ?_) ?_ ?_
       rotate_left
       ·show Act.put _ (some 70) _ = _
        simp only [Act.put, List.setIfInBounds_toArray, List.set_cons_zero, List.set_cons_succ, Qbo, Qbp]
        rfl
       refine pu 10 6 (bb 11 2047) ?_
       refine Qch (by kernel_rfl) ?_
       clear b0 b1 b2 b3 o0 o1 o2 o3 o4 hy0 hy1 hy2 hy3 hy4 hy5 hy6 p1 q1
       (obtain ⟨b0, b1, b2, b3, -⟩ := cN4 B.out)
       (obtain ⟨o0, o1, o2, o3, o4, -⟩ := cN5 O.out)
       by_cases hz0 : z = 0
       ·have hzb : (z != 0) = false := bne_eq_false_iff_eq.mpr hz0
        by_cases h64 : 64 ≤ y
        ·have h6b := decide_eq_true h64
         obtain ⟨lo, hlo⟩ : ∃ q, wrap64 (y - 64) = q := ⟨_, rfl⟩
         have hl64 : lo = y - 64 := hlo ▸ w64i (by omega) (by omega)
         have hhi := HV.out
         have hlow : IntKind.i64.wrap (y - 64) = lo := (Qbo _).trans hlo
         have hhiw : IntKind.i64.wrap (y + 1) = y + 1 := (Qbo _).trans hhi
         obtain ⟨i0, hi0_, _, hsz, _⟩ := info_parts info59
         have hcut := cut_mid (P := Tryz.prog) 54 59 .i64 .i64 Tryz.underlying54 hi0_ 7 hsz (some a1) bk.f0.length c1 lo (y + 1) (by omega) (by omega) (by omega) hl1
         have hC := Kd.C_mid (c := c1) (lo := lo.toNat) (hi := (y + 1).toNat) C1.out (by omega) (by omega) hl1
         obtain ⟨A2, hA2⟩ : ∃ q, q = (if c1 = lo.toNat then some a1 else (some a1 : Option Addr).map (·.add (lo.toNat * 7))) := ⟨_, rfl⟩
         obtain ⟨W, hW⟩ : ∃ q, q = ((bk.f0.take (y + 1).toNat).drop lo.toNat) := ⟨_, rfl⟩
         have hWl : W.length = (y + 1).toNat - lo.toNat := by rw [hW, List.length_drop, List.length_take]; omega
         have HCW := As0 (show Kd.C k59 w A2 W.length W by rw [hA2, hW]; exact hC)
         rw [← hWl, ← hA2] at hcut
         obtain ⟨v, ⟨kv, hkv⟩, hvq⟩ := moves_spec W (by omega)
         have HL64 := As0 hl64
         have HW2 := As0 hW
         have HWl := As0 hWl
         clear hC hsz hi0_ hl64 hW hWl hA2
         by_cases hv6 : 64 < v
         ·have hv7 : decide (64 < (v : Int)) = true := decide_eq_true (by omega)
          have hv8 := decide_eq_true hv6
          go_wp2_with (go_at_call 16; refine (Qaf.calls kv A2 (c1 - lo.toNat) W v _ (Kd.C_below HCW.out (BU HB.out)) (by rw [HWl.out]; exact Nat.sub_le_sub_right (by omega) _) (hkv kv (Nat.le_refl _))).mono ?_; rintro e w9 ⟨rfl, ⟨nd, rfl⟩⟩)
          go_ret
          exact ⟨⟨_, rfl, fun h => absurd h (by decide)⟩, BU HB.out⟩
         ·have hv7 : decide (64 < (v : Int)) = false := decide_eq_false (by omega)
          have hv8 := decide_eq_false hv6
          go_wp2_with (go_at_call 16; refine (Qaf.calls kv A2 (c1 - lo.toNat) W v _ (Kd.C_below HCW.out (BU HB.out)) (by rw [HWl.out]; exact Nat.sub_le_sub_right (by omega) _) (hkv kv (Nat.le_refl _))).mono ?_; rintro e w9 ⟨rfl, ⟨nd, rfl⟩⟩)
          go_roundg kj
          case measure => omega
          case rel => exact ⟨_, rfl, ⟨by (try rw [HV.out]); have := HJ.out; omega⟩, ⟨fun i hi => by (try rw [HV.out] at hi); exact (Int.lt_or_eq_of_le (Int.le_of_lt_add_one hi)).elim (fun h => HP.out i h) (fun h => (by subst h; refine ⟨by show mInB _ _ _ _ _ _ _ _ _ = 0; rw [HM.out, hz]; exact hz0, fun _ => win_ HL64.out HW2.out (hvq.1 (Nat.le_of_not_lt hv6))⟩))⟩, ⟨bU B.out⟩, ⟨bU O.out⟩, ⟨BU HB.out⟩⟩
        ·have h6b := decide_eq_false h64
         go_wp2
         go_roundg kj
         case measure => omega
         case rel => exact ⟨_, rfl, ⟨by (try rw [HV.out]); have := HJ.out; omega⟩, ⟨fun i hi => by (try rw [HV.out] at hi); exact (Int.lt_or_eq_of_le (Int.le_of_lt_add_one hi)).elim (fun h => HP.out i h) (fun h => (by subst h; refine ⟨by show mInB _ _ _ _ _ _ _ _ _ = 0; rw [HM.out, hz]; exact hz0, fun h => by omega⟩))⟩, ⟨bU B.out⟩, ⟨bU O.out⟩, ⟨BU HB.out⟩⟩
       ·have hzb : (z != 0) = true := bne_iff_ne.mpr hz0
        go_wp2
        go_ret
        exact ⟨⟨_, rfl, fun h => absurd h hz0⟩, BU HB.out⟩
      ·have hd1 := decide_eq_false hjt
       have hyn : y = (bk.f0.length : Int) := by have := HJ.out; omega
       obtain ⟨u, hu_⟩ : ∃ u, trmR bk.f1.f0 bk.f1.f1 bk.f1.f2 bk.f1.f3 r l.length = u := ⟨_, rfl⟩
       by_cases hu0 : u = 0
       ·have hub : (u != 0) = false := bne_eq_false_iff_eq.mpr hu0
        go_wp2_with (go_at_call 55; refine (Qdx bk.f1.f0 bk.f1.f1 bk.f1.f2 bk.f1.f3 r (l.length : Int) _).mono ?_; rintro e w8 ⟨he, hb⟩; rw [hu_] at he; subst he; clear b0 b1 b2 b3 o0 o1 o2 o3 o4; replace B := kB B hb; replace O := kB O hb; replace HB := sB HB hb; (obtain ⟨b0, b1, b2, b3, -⟩ := cN4 B.out); clear hb)
        go_roundg kq
        case measure => omega
        case rel => exact ⟨_, rfl, ⟨by (try rw [HW.out]); have := HI.out; omega⟩, ⟨fun i hi => by (try rw [HW.out] at hi); exact (Int.lt_or_eq_of_le (Int.le_of_lt_add_one hi)).elim (fun h => HO.out i h) (fun h => by subst h; rw [HK.out]; exact ⟨fun i hi => HP.out i (by rw [hyn]; exact Int.ofNat_lt.2 hi), by rw [hu_]; exact hu0⟩)⟩, ⟨bU B.out⟩, ⟨BU HB.out⟩⟩
       ·have hub : (u != 0) = true := bne_iff_ne.mpr hu0
        go_wp2_with (go_at_call 55; refine (Qdx bk.f1.f0 bk.f1.f1 bk.f1.f2 bk.f1.f3 r (l.length : Int) _).mono ?_; rintro e w8 ⟨he, hb⟩; rw [hu_] at he; subst he; clear b0 b1 b2 b3 o0 o1 o2 o3 o4; replace B := kB B hb; replace O := kB O hb; replace HB := sB HB hb; (obtain ⟨b0, b1, b2, b3, -⟩ := cN4 B.out); clear hb)
        go_ret
        exact ⟨⟨_, rfl, fun h => absurd h hu0⟩, BU HB.out⟩
   ·have hd0 := decide_eq_false hlt
    go_wp2
    go_ret
    refine ⟨⟨_, rfl, fun _ => ?_⟩, BU HB.out⟩
    have hall : ∀ i : Nat, i < l.length → Qel (Qaq l (i : Int)) r s l.length := fun i hi => HO.out i (by omega)
    have e0 := of_decide_eq_false (c0_.trans (Bool.eq_false_iff.2 ‹¬q0_ = true›))
    have e1 := of_decide_eq_false (c1_.trans ‹q1_ = false›)
    have e2 := beq_eq_false_iff_ne.1 ‹((l.length : Int) == 0) = false›
    exact ⟨by first | exact ⟨by omega, by omega⟩ | exact ⟨⟨by omega, by omega⟩, by omega⟩, fun h => e2 (by rw [h]; rfl), hall⟩
def lessBt (q p : S47) : Bool := bif (q.f0 != p.f0) then decide (q.f0 < p.f0) else decide (q.f1 < p.f1)
def Qd5 (l : List S47) (m r s : Int) (j : Nat) : Prop := (0 ≤ (Qaa l (j : Int)).f0 ∧ (Qaa l (j : Int)).f0 < m) ∧ inrB (Qaa l (j : Int)).f1 r s = true ∧ (0 < j → lessBt (Qaa l ((j : Int) - 1)) (Qaa l (j : Int)) = true)
theorem redge_calls (n m r s : Int) (A0 : Option Addr) (c0 : Nat) (l : List (List S47)) (w : World) (h0 : Kd.C (Kd.slice 47 k47) w A0 l.length l) (hc0 : l.length ≤ c0) (hl : l.length ≤ 1000) (hcl : ∀ i : Nat, i < l.length → (Qao l (i : Int)).length ≤ 1000) :
    Calls Tryz.prog 27 #[.slice A0 l.length c0, .int .i64 n, .int .i64 m, .int .i64 r, .int .i64 s] w fun e w' => (∃ x, e = .returned (.int .i64 x) ∧ (x = 0 → (l.length : Int) = n ∧ ∀ i : Nat, i < l.length → ∀ j : Nat, j < (Qao l (i : Int)).length → Qd5 (Qao l (i : Int)) m r s j)) ∧ Below w.heap.size w w' := by
 have hu28 := Tryz.underlying28
 have hu44 := Tryz.underlying44
 have hu47 := Tryz.underlying47
 have H0 := As0 h0
 have HB := As0 (Below.refl w.heap.size w)
 clear h0
 by_cases hn : (l.length : Int) = n
 ·have hnb : ((l.length : Int) != n) = false := bne_eq_false_iff_eq.mpr hn
  have HN := As0 hn
  clear hn
  go_enter Tryz.func27, Tryz.ntmps27
  go_wp2
  go_loopg [11, 12] (l.length + 1) (fun kq v11 v12 w' => ∃ t x : Int, v11 = .int .i64 t ∧ v12 = .int .i64 x ∧ Qbf (0 ≤ x ∧ x ≤ (l.length : Int) ∧ (kq : Int) + x = (l.length : Int) + 1 ∧ 0 ≤ t ∧ t ≤ 1000 * x) ∧ Qbf (Below w.heap.size w w'))
  case atStart => exact ⟨0, 0, rfl, rfl, ⟨by omega⟩, ⟨BU HB.out⟩⟩
  case round =>
   clear HB
   obtain ⟨t, x, rfl, rfl, HI, HB⟩ := hrel
   cases gk with
   | zero => exact absurd HI.out (by omega)
   | succ kq =>
    have hi0 : 0 ≤ x := HI.out.1
    by_cases hlt : x < (l.length : Int)
    ·have hd0 := decide_eq_true hlt
     obtain ⟨ad, A1, c1, e0, hx, hl1, hC1⟩ := Qdk H0.out x hi0 hlt
     have hcl1 := hcl x.toNat (by omega)
     rw [Int.toNat_of_nonneg hi0] at hcl1
     have h6 := HI.out
     have hw : wrap64 (x + 1) = x + 1 := w64i (by omega) (by omega)
     have hw2 : wrap64 (t + ((Qao l x).length : Int)) = t + ((Qao l x).length : Int) := w64i (by omega) (by omega)
     have hd2 : decide (1048576 < wrap64 (t + ((Qao l x).length : Int))) = false := decide_eq_false (by rw [hw2]; omega)
     cases e0
     replace hx := cl HB hx
     have p0 := eq_true hi0
     have q0 := eq_true hlt
     go_wp2
     go_roundg kq
     case measure => omega
     case rel => exact ⟨_, _, rfl, rfl, ⟨by (try rw [hw]); (try rw [hw2]); omega⟩, ⟨BU HB.out⟩⟩
    ·have hd0 := decide_eq_false hlt
     clear HI hi0 hlt
     go_wp2
     go_loopg [13] (l.length + 1) (fun kq v13 w' => ∃ x : Int, v13 = .int .i64 x ∧ Qbf (0 ≤ x ∧ x ≤ (l.length : Int) ∧ (kq : Int) + x = (l.length : Int) + 1) ∧ Qbf (∀ i : Nat, (i : Int) < x → ∀ j : Nat, j < (Qao l (i : Int)).length → Qd5 (Qao l (i : Int)) m r s j) ∧ Qbf (Below w.heap.size w w'))
     case atStart => exact ⟨0, rfl, ⟨by omega⟩, ⟨fun i hi => by omega⟩, ⟨BU HB.out⟩⟩
     case round =>
      clear HB hd0
      obtain ⟨x, rfl, HI, HO, HB⟩ := hrel
      cases gk with
      | zero => exact absurd HI.out (by omega)
      | succ kq =>
       have hi0 : 0 ≤ x := HI.out.1
       by_cases hlt : x < (l.length : Int)
       ·have hd0 := decide_eq_true hlt
        obtain ⟨ad, A1, c1, e0, hx, hl1, hC1⟩ := Qdk H0.out x hi0 hlt
        have hcl1 := hcl x.toNat (by omega)
        rw [Int.toNat_of_nonneg hi0] at hcl1
        have HW := As0 (w64i (n := x + 1) (by omega) (by omega))
        generalize hbk : Qao l x = row at hx hl1 hC1 hcl1
        have HK := As0 hbk
        have C1 := As0 hC1
        have HX := As0 hx
        clear hbk hC1 hx
        cases e0
        have p0 := eq_true hi0
        have q0 := eq_true hlt
        go_wp2
        go_loopg [14] (row.length + 1) (fun kq v14 w' => ∃ y : Int, v14 = .int .i64 y ∧ Qbf (0 ≤ y ∧ y ≤ (row.length : Int) ∧ (kq : Int) + y = (row.length : Int) + 1) ∧ Qbf (∀ j : Nat, (j : Int) < y → Qd5 row m r s j) ∧ Qbf (Below w.heap.size w w'))
        case atStart => exact ⟨0, rfl, ⟨by omega⟩, ⟨fun i hi => by omega⟩, ⟨BU HB.out⟩⟩
        case round =>
         clear HB hd0
         obtain ⟨y, rfl, HJ, HP, HB⟩ := hrel
         have hx := (HB.out.cell (wblt w HX.out)).trans HX.out
         cases gk with
         | zero => exact absurd HJ.out (by omega)
         | succ kj =>
          have hj0 : 0 ≤ y := HJ.out.1
          by_cases hjt : y < (row.length : Int)
          ·have hd1 := decide_eq_true hjt
           obtain ⟨a1, e1, hy0, hy1⟩ := Qcc C1.out y hj0 hjt
           have HV := As0 (w64i (n := y + 1) (by omega) (by omega))
           generalize hm : Qaa row y = p at hy0 hy1
           have HM := As0 hm
           clear hm
           cases e1
           replace hy0 := cl HB hy0
           replace hy1 := cl HB hy1
           have p1 := eq_true hj0
           have q1 := eq_true hjt
           obtain ⟨q0_, c0_⟩ : ∃ q, decide (p.f0 < 0) = q := ⟨_, rfl⟩
           obtain ⟨q2_, c2_⟩ : ∃ q, decide (m ≤ p.f0) = q := ⟨_, rfl⟩
           obtain ⟨q1_, c1_⟩ : ∃ q, inrB p.f1 r s = q := ⟨_, rfl⟩
           go_wp2_with (first
            | ((with_reducible refine gD 15 ?_); refine bX ?_; intro gO hg w5 aC hb; have O := As0 aC; have GO := As0 (by rw [hg]; exact Qbi (BU HB.out) : w.heap.size ≤ gO); replace HB := sB HB hb; clear hb aC hg)
            | ((with_reducible refine Qcb (.store 47 (.tmp 15) (.tmp 56)) rfl ?_); go_loud (refine Qae rfl rfl 47 _ _ rfl gO #[.int .i64 p.f0, .int .i64 p.f1] rfl rfl 47 #[.int .i64 0, .int .i64 0] (bU O.out) (by kernel_rfl) rfl (by kernel_rfl) ?_); intro w6 hg ho hB; replace HB := As0 (hB _ _ GO.out (BU HB.out)); replace O := As0 hg; (obtain ⟨o0, o1, -⟩ := cN2 O.out); replace hx := (HB.out.cell (wblt w HX.out)).trans HX.out; clear hg ho hB)
            | (go_at_call 57; refine (inr_calls p.f1 r s _ c1_ _).mono ?_; rintro e w7 ⟨rfl, ⟨nd, rfl⟩⟩))
           any_goals (go_ret; exact ⟨⟨_, rfl, fun h => absurd h (by decide)⟩, BU HB.out⟩)
           have e0 := of_decide_eq_false (c0_.trans (by first | assumption | exact Bool.eq_false_iff.2 (by assumption)))
           have e1 := of_decide_eq_false (c2_.trans (by first | assumption | exact Bool.eq_false_iff.2 (by assumption)))
           have hpv : 0 ≤ p.f0 ∧ p.f0 < m := ⟨by omega, by omega⟩
           have hpl : inrB p.f1 r s = true := c1_.trans (by simpa using ‹(!q1_) = false›)
           by_cases hk : 0 < y
           ·have hkb := decide_eq_true hk
            have hwy : wrap64 (y - 1) = y - 1 := w64i (by omega) (by omega)
            have hp0 : 0 ≤ y - 1 := by omega
            have hp1 : y - 1 < (row.length : Int) := by omega
            obtain ⟨a2, e2, hz0, hz1⟩ := Qcc C1.out (y - 1) hp0 hp1
            cases e2
            rw [show (y - 1).toNat = y.toNat - 1 by omega] at hz0 hz1
            generalize hqq : Qaa row (y - 1) = q at hz0 hz1
            have HQ := As0 hqq
            clear hqq
            replace hz0 := cl HB hz0
            replace hz1 := cl HB hz1
            have p2 := eq_true (show 1 ≤ y by omega)
            have q2 := eq_true hp1
            obtain ⟨z, hz⟩ : ∃ z, (bif (q.f0 != p.f0) then decide (q.f0 < p.f0) else decide (q.f1 < p.f1)) = z := ⟨_, rfl⟩
            cases z with
            | true =>
             refine Qb1 (n := 15) (S := fun w' => w'.cell? (ad.add x.toNat) = some (.slice (some a1) row.length c1) ∧ w'.cell? (a1.add ((y.toNat - 1) * 2)) = some (.int .i64 q.f0) ∧ w'.cell? ⟨(a1.add ((y.toNat - 1) * 2)).block, (a1.add ((y.toNat - 1) * 2)).off + 1, none⟩ = some (.int .i64 q.f1) ∧ w'.cell? ⟨gO, 0, none⟩ = some (.int .i64 p.f0) ∧ w'.cell? ⟨gO, 1, none⟩ = some (.int .i64 p.f1)) (ds := [12]) (bb 15 0) (by kernel_rfl) rfl rfl ⟨hx, hz0, hz1, o0, o1⟩ (fun aA => ?_)
             refine pu 0 72 (bb 15 1) ?_
             refine pu 1 73 (bb 15 3) ?_
             refine pu 2 74 (bb 15 7) ?_
             refine pu 3 75 (bb 15 15) ?_
             refine pu 4 76 (bb 15 31) ?_
             refine pu 5 77 (bb 15 63) ?_
             refine pu 7 79 (bb 15 191) ?_
             refine pu 8 80 (bb 15 447) ?_
             refine tu aA 6 78 (bb 15 511) ?_
             refine pu 9 81 (bb 15 1023) ?_
             refine tu aA 10 82 (bb 15 2047) ?_
             refine tu aA 11 83 (bb 15 4095) ?_
             refine Qc7 (i := 12) (N := some 84) (bb 15 8191) rfl rfl (by kernel_rfl) (by decide) (fun K hK => ?_)
             refine gG Tryz.func58 #[.agg #[.int .i64 q.f0, .int .i64 q.f1], .agg #[.int .i64 p.f0, .int .i64 p.f1]] ?_
             with_reducible refine (less_calls q.f0 q.f1 p.f0 p.f1 _ _ rfl hz _).mono ?_
             rintro e w8 ⟨rfl, hb⟩
             replace HB := sB HB hb
             refine ⟨_, rfl, ?_⟩
             refine hK.out _ _ ?_
             clear hK K
             refine Qbz (a' := ?_) ?_ ?_
             rotate_left
             ·show Act.put _ (some 84) _ = _
              simp only [Act.put, List.setIfInBounds_toArray, List.set_cons_zero, List.set_cons_succ, Qbo, Qbp]
              rfl
             refine pu 13 85 (bb 15 16383) ?_
             refine pu 14 86 (bb 15 32767) ?_
             refine Qch (by kernel_rfl) ?_
             go_wp2
             go_roundg kj
             case measure => omega
             case rel => exact ⟨_, rfl, ⟨by (try rw [HV.out]); have := HJ.out; omega⟩, ⟨fun j hj => by (try rw [HV.out] at hj); exact (Int.lt_or_eq_of_le (Int.le_of_lt_add_one hj)).elim (fun h => HP.out j h) (fun h => by subst h; unfold Qd5; rw [HM.out]; exact ⟨hpv, hpl, fun h0 => (by rw [HQ.out]; exact hz)⟩)⟩, ⟨BU HB.out⟩⟩
            | false =>
             refine Qb1 (n := 15) (S := fun w' => w'.cell? (ad.add x.toNat) = some (.slice (some a1) row.length c1) ∧ w'.cell? (a1.add ((y.toNat - 1) * 2)) = some (.int .i64 q.f0) ∧ w'.cell? ⟨(a1.add ((y.toNat - 1) * 2)).block, (a1.add ((y.toNat - 1) * 2)).off + 1, none⟩ = some (.int .i64 q.f1) ∧ w'.cell? ⟨gO, 0, none⟩ = some (.int .i64 p.f0) ∧ w'.cell? ⟨gO, 1, none⟩ = some (.int .i64 p.f1)) (ds := [12]) (bb 15 0) (by kernel_rfl) rfl rfl ⟨hx, hz0, hz1, o0, o1⟩ (fun aA => ?_)
             refine pu 0 72 (bb 15 1) ?_
             refine pu 1 73 (bb 15 3) ?_
             refine pu 2 74 (bb 15 7) ?_
             refine pu 3 75 (bb 15 15) ?_
             refine pu 4 76 (bb 15 31) ?_
             refine pu 5 77 (bb 15 63) ?_
             refine pu 7 79 (bb 15 191) ?_
             refine pu 8 80 (bb 15 447) ?_
             refine tu aA 6 78 (bb 15 511) ?_
             refine pu 9 81 (bb 15 1023) ?_
             refine tu aA 10 82 (bb 15 2047) ?_
             refine tu aA 11 83 (bb 15 4095) ?_
             refine Qc7 (i := 12) (N := some 84) (bb 15 8191) rfl rfl (by kernel_rfl) (by decide) (fun K hK => ?_)
             refine gG Tryz.func58 #[.agg #[.int .i64 q.f0, .int .i64 q.f1], .agg #[.int .i64 p.f0, .int .i64 p.f1]] ?_
             with_reducible refine (less_calls q.f0 q.f1 p.f0 p.f1 _ _ rfl hz _).mono ?_
             rintro e w8 ⟨rfl, hb⟩
             replace HB := sB HB hb
             refine ⟨_, rfl, ?_⟩
             refine hK.out _ _ ?_
             clear hK K
             refine Qbz (a' := ?_) ?_ ?_
             rotate_left
             ·show Act.put _ (some 84) _ = _
              simp only [Act.put, List.setIfInBounds_toArray, List.set_cons_zero, List.set_cons_succ, Qbo, Qbp]
              rfl
             refine pu 13 85 (bb 15 16383) ?_
             refine pu 14 86 (bb 15 32767) ?_
             refine Qch (by kernel_rfl) ?_
             go_wp2
             go_ret
             exact ⟨⟨_, rfl, fun h => absurd h (by decide)⟩, BU HB.out⟩
           ·have hkb := decide_eq_false hk
            refine Qb1 (n := 15) (S := fun w' => True) (ds := []) (bb 15 0) (by kernel_rfl) rfl rfl trivial (fun aA => ?_)
            refine pu 0 72 (bb 15 1) ?_
            refine pu 1 73 (bb 15 3) ?_
            refine pu 2 74 (bb 15 7) ?_
            refine pz 3 75 (bb 15 15) ?_
            refine pz 4 76 (bb 15 31) ?_
            refine pz 5 77 (bb 15 63) ?_
            refine pz 6 78 (bb 15 127) ?_
            refine pz 7 79 (bb 15 255) ?_
            refine pz 8 80 (bb 15 511) ?_
            refine pz 9 81 (bb 15 1023) ?_
            refine pz 10 82 (bb 15 2047) ?_
            refine pz 11 83 (bb 15 4095) ?_
            refine pz 12 84 (bb 15 8191) ?_
            refine pz 13 85 (bb 15 16383) ?_
            refine pu 14 86 (bb 15 32767) ?_
            refine Qch (by kernel_rfl) ?_
            go_wp2
            go_roundg kj
            case measure => omega
            case rel => exact ⟨_, rfl, ⟨by (try rw [HV.out]); have := HJ.out; omega⟩, ⟨fun j hj => by (try rw [HV.out] at hj); exact (Int.lt_or_eq_of_le (Int.le_of_lt_add_one hj)).elim (fun h => HP.out j h) (fun h => by subst h; unfold Qd5; rw [HM.out]; exact ⟨hpv, hpl, fun h0 => (by omega)⟩)⟩, ⟨BU HB.out⟩⟩
          ·have hd1 := decide_eq_false hjt
           have hyn : y = (row.length : Int) := by have := HJ.out; omega
           go_wp2
           go_roundg kq
           case measure => omega
           case rel => exact ⟨_, rfl, ⟨by (try rw [HW.out]); have := HI.out; omega⟩, ⟨fun i hi => by (try rw [HW.out] at hi); exact (Int.lt_or_eq_of_le (Int.le_of_lt_add_one hi)).elim (fun h => HO.out i h) (fun h => by subst h; rw [HK.out]; exact fun j hj => HP.out j (by rw [hyn]; exact Int.ofNat_lt.2 hj))⟩, ⟨BU HB.out⟩⟩
       ·have hd0 := decide_eq_false hlt
        go_wp2
        go_ret
        exact ⟨⟨_, rfl, fun _ => ⟨HN.out, fun i hi => HO.out i (by have := HI.out; omega)⟩⟩, BU HB.out⟩
 ·have hnb : ((l.length : Int) != n) = true := bne_iff_ne.mpr hn
  go_enter Tryz.func27, Tryz.ntmps27
  go_wp2
  go_ret
  exact ⟨⟨_, rfl, fun h => absurd h (by decide)⟩, BU HB.out⟩
theorem rvalid_calls (k : Nat) (sa sr u1 : Int) (AS : Option Addr) (cS : Nat) (SB : List S39) (ta tr ts u2 : Int) (AT : Option Addr) (cT : Nat) (TB : List S57) (AW : Option Addr) (cW : Nat) (W : List (List S47)) (w : World)
    (hS : Kd.C k39 w AS SB.length SB) (hcS : SB.length ≤ cS) (hT : Kd.C k57 w AT TB.length TB) (hcT : TB.length ≤ cT) (hW : Kd.C (Kd.slice 47 k47) w AW W.length W) (hcW : W.length ≤ cW)
    (hu1 : Qa5.f k sa sr SB = some u1) (hb1 : u1 ≤ 1000000) (hu2 : Qa4.f k ta tr ts TB = some u2) (hb2 : u2 ≤ 1000000) (hB : Bnd sr SB tr ts TB W) :
    Calls Tryz.prog 9 #[.agg #[.int .i64 sa, .int .i64 sr, .slice AS SB.length cS, .int .i64 ta, .int .i64 tr, .int .i64 ts, .slice AT TB.length cT, .slice AW W.length cW]] w fun e w' => (∃ x, e = .returned (.int .i64 x) ∧ (x = 0 → ((0 ≤ sa ∧ sa ≤ sr) ∧ SB.length ≠ 0 ∧ ∀ i : Nat, i < SB.length → okBrsrc (Qag SB (i : Int)) sr SB.length) ∧ (((0 ≤ ta ∧ ta ≤ ts) ∧ 0 ≤ tr) ∧ TB.length ≠ 0 ∧ ∀ i : Nat, i < TB.length → Qel (Qaq TB (i : Int)) tr ts TB.length) ∧ ((SB.length : Int) = (TB.length : Int) ∧ sa = ta) ∧ (W.length : Int) = (SB.length : Int) ∧ ∀ i : Nat, i < W.length → ∀ j : Nat, j < (Qao W (i : Int)).length → Qd5 (Qao W (i : Int)) sr tr ts j)) ∧ Below w.heap.size w w' := by
 have hu24 := Tryz.underlying24
 have hu27 := Tryz.underlying27
 have hu30 := Tryz.underlying30
 have HB := As0 (Below.refl w.heap.size w)
 obtain ⟨q0_, c0_⟩ : ∃ q, ((SB.length : Int) != (TB.length : Int)) = q := ⟨_, rfl⟩
 obtain ⟨q1_, c1_⟩ : ∃ q, (sa != ta) = q := ⟨_, rfl⟩
 go_enter Tryz.func9, Tryz.ntmps9
 go_wp2_with (first
  | ((with_reducible refine gD 1 ?_); refine bX ?_; intro gB hg w1 aC hb; have B := As0 aC; replace HB := sB HB hb; (obtain ⟨b0, b1, b2, b3, b4, b5, b6, b7, -⟩ := cN8 B.out); clear hb aC hg)
  | (go_at_call 25; refine (rsrc_calls k sa sr u1 AS cS SB _ (Kd.C_below hS (BU HB.out)) hcS hu1 hb1 hB.b1 hB.l1 hB.c1).mono ?_; rintro e w2 ⟨⟨x1, rfl, hx1⟩, hb⟩; clear b0 b1 b2 b3 b4 b5 b6 b7; replace B := kB B hb; replace HB := sB HB hb; (obtain ⟨b0, b1, b2, b3, b4, b5, b6, b7, -⟩ := cN8 B.out); clear hb)
  | (go_at_call 26; refine (rmach_calls k ta tr ts u2 AT cT TB _ (Kd.C_below hT (BU HB.out)) hcT hu2 hb2 hB.b2 hB.b3 hB.l2 hB.c2).mono ?_; rintro e w2 ⟨⟨x2, rfl, hx2⟩, hb⟩; clear b0 b1 b2 b3 b4 b5 b6 b7; replace B := kB B hb; replace HB := sB HB hb; (obtain ⟨b0, b1, b2, b3, b4, b5, b6, b7, -⟩ := cN8 B.out); clear hb)
  | (go_at_call 27; refine (redge_calls SB.length sr tr ts AW cW W _ (Kd.C_below hW (BU HB.out)) hcW hB.l3 hB.c3).mono ?_; rintro e w2 ⟨⟨x3, rfl, hx3⟩, hb⟩; clear b0 b1 b2 b3 b4 b5 b6 b7; replace B := kB B hb; replace HB := sB HB hb; (obtain ⟨b0, b1, b2, b3, b4, b5, b6, b7, -⟩ := cN8 B.out); clear hb))
 all_goals go_ret
 all_goals first
  | exact ⟨⟨_, rfl, fun h => absurd h (by decide)⟩, BU HB.out⟩
  | exact ⟨⟨_, rfl, fun h => absurd h (bne_iff_ne.1 ‹(x2 != 0) = true›)⟩, BU HB.out⟩
  | exact ⟨⟨_, rfl, fun h => absurd h (bne_iff_ne.1 ‹(x1 != 0) = true›)⟩, BU HB.out⟩
  | exact ⟨⟨_, rfl, fun h => ⟨hx1 (bne_eq_false_iff_eq.1 ‹(x1 != 0) = false›), hx2 (bne_eq_false_iff_eq.1 ‹(x2 != 0) = false›), ⟨bne_eq_false_iff_eq.1 (c0_.trans (Bool.eq_false_iff.2 ‹¬q0_ = true›)), bne_eq_false_iff_eq.1 (c1_.trans ‹q1_ = false›)⟩, hx3 h⟩⟩, BU HB.out⟩
attribute [local go_sem high] eqA47
def Qar.l0 : Nat → Int → Int → Int → List (S39) → Int → Int → List (S39) → Option (Int × Int × (List (S39)))
 | 0, _, _, _, _, _, _, _ => none
 | k + 1, x4, x473000, x473001, fP, x475000, x475001, x475002 => if x4 < (fP.length : Int) then ((some (([] : List (S41)) : List (S41))).bind fun y475 => (if 0 ≤ x4 then (if y475.length + ((Qag fP x4).f0).length < 3518437208883 then (if x475002.length < 2513169434916 then (Qar.l0 k (wrap64 (x4 + 1)) x473000 x473001 fP x475000 x475001 (x475002 ++ [(⟨(y475 ++ ((Qag fP x4).f0)), (⟨(Qag fP x4).f1.f0, (Qag fP x4).f1.f1, (Qag fP x4).f1.f2, (Qag fP x4).f1.f3⟩ : S37)⟩ : S39)])) else (none)) else (none)) else (none))) else (some (x475000, x475001, x475002))
def Qar.f (k : Nat) (a0_0 a0_1 : Int) (l0_2 : List (S39)) : Option (Int × Int × (List (S39))) := Qar.l0 k 0 a0_0 a0_1 l0_2 a0_0 a0_1 ([] : List (S39))
def Qar.T5 : Bool × List (List Nat × List Nat) := (true, [([], []), ([0], [0]), ([], []), ([], []), ([3], [3]), ([], []), ([4, 5], [4, 5]), ([6], [6]), ([7], [7]), ([2, 8], [2, 8]), ([], []), ([10], [10]), ([], []), ([11, 12], [11, 12]), ([13], [13]), ([14], [14]), ([9, 15], [9, 15]), ([16], [16]), ([1, 17, 9], [1, 17]), ([0, 1, 2, 3, 4, 5, 6, 7, 8, 9, 10, 11, 12, 13, 14, 15, 16, 17, 18], []), ([19, 18, 18, 0, 1, 2, 3, 4, 5, 6, 7, 8, 9, 10, 11, 12, 13, 14, 15, 16, 17, 18], [18, 19])])
def Qar.B5 : List Nat := [0, 1, 0, 0, 8, 0, 56, 120, 248, 508, 0, 1024, 0, 7168, 15360, 31744, 65532, 131068, 262143, 524287, 1048575]
theorem Qar.tab5 : rtab .any (opsOf Tryz.f28 5) = Qar.T5 := by kernel_rfl
theorem Qar.bits5 : Qco Qar.T5.2 Qar.B5 = true := by kernel_rfl
theorem Qar.calls (k : Nat) (a0_0 a0_1 : Int) (A0_2 : Option Addr) (c0_2 : Nat) (l0_2 : List (S39)) (r1 r2 : Int) (r3 : List (S39)) (w : World) (hr0_2 : Kd.C k39 w A0_2 l0_2.length l0_2) (hc0_2 : l0_2.length ≤ c0_2) (h : Qar.f k a0_0 a0_1 l0_2 = some (r1, r2, r3)) :
 Calls Tryz.prog 28 #[.agg #[.int .i64 a0_0, .int .i64 a0_1, .slice A0_2 l0_2.length c0_2]] w fun e w' => ∃ v2_ : Value, e = .returned (.agg #[.int .i64 r1, .int .i64 r2, v2_]) ∧ Kd.S k39 39 w' w.heap.size (fun _ => True) v2_ r3 ∧ Below w.heap.size w w' := by
 have hu24 := Tryz.underlying24
 have hu37 := Tryz.underlying37
 have hu39 := Tryz.underlying39
 have R0_2 := As0 hr0_2
 have C0_2 := As0 hc0_2
 clear hr0_2 hc0_2
 have HB := As0 (Below.refl w.heap.size w)
 have H : (Qar.l0 k 0 a0_0 a0_1 l0_2 a0_0 a0_1 ([] : List (S39))) = some (r1, r2, r3) := h
 clear h
 have H' := As0 H
 clear H
 go_enter Tryz.func28, Tryz.ntmps28
 go_wp2_with (first | ((with_reducible refine gD 1 ?_); refine bY HB.out ?_; intro gb472 w2 hg hb dH GW472 HB; clear hb hg) | ((with_reducible refine gD 2 ?_); refine bY HB.out ?_; intro gb473 w3 hg hb fW GW473 HB; have N472_473 := nL hg dH; have N473_472 := nR hg dH; replace dH := kB dH hb; clear hb hg; have hnb4 := N472_473.out; have hnc4 := N473_472.out; have q5_ := cN3 dH.out) | ((with_reducible refine gD 3 ?_); refine bY HB.out ?_; intro gb474 w6 hg hb dU GW474 HB; have mI := nL hg dH; have mH := nR hg dH; replace dH := kB dH hb; have N473_474 := nL hg fW; have N474_473 := nR hg fW; replace fW := kB fW hb; clear hb hg; have hnb7 := mH.out; have hnc7 := mI.out; have hnb8 := N474_473.out; have hnc8 := N473_474.out; have q9_ := cN3 dU.out))
 go_loopg [4] k (fun kq v4 w' => ∃ (aE : Int) (cZ : List (S39)) (u475002 : Value), v4 = .int .i64 aE ∧ Qbf (Qar.l0 kq aE a0_0 a0_1 l0_2 a0_0 a0_1 cZ = some (r1, r2, r3)) ∧ Qbf (kq ≤ k) ∧ Qbf (Kd.S k39 39 w' w.heap.size (fun _ => True) u475002 cZ) ∧ Qbf (w'.heap[gb472]? = some (.cells #[.int .i64 a0_0, .int .i64 a0_1, (.slice A0_2 l0_2.length c0_2)] 24 (0, 0))) ∧ Qbf (w'.heap[gb473]? = some (.cells #[.int .i64 0, .int .i64 0, (.slice none 0 0)] 24 (0, 0))) ∧ Qbf (w'.heap[gb474]? = some (.cells #[.int .i64 a0_0, .int .i64 a0_1, u475002] 24 (0, 0))) ∧ Qbf (Below w.heap.size w w'))
 case atStart => exact ⟨(0), (([] : List (S39))), (.slice none 0 0), eR, H', ⟨Nat.le_refl _⟩, ⟨by first | exact Kd.S_nil _ _ _ _ _ | exact Kd.N_nil _ _ _ _ _ | exact Kd.V_nil _ _ _ _ _ | exact Kd.Q_nil _ _ _ _ _ | exact Kd.R_nil _ _ _ _ _⟩, ⟨kV dH⟩, ⟨kV fW⟩, ⟨kV dU⟩, ⟨BU HB.out⟩⟩
 case round =>
  clear H'
  obtain ⟨aE, cZ, u475002, rfl, HA, HK1, cH, dH, fW, dU, HB⟩ := hrel
  cases gk with
  | zero => exact absurd HA.out (by simp [Qar.l0])
  | succ k1 =>
   have H := HA.out
   clear HA
   simp only [Qar.l0] at H
   by_cases c10 : aE < (l0_2.length : Int)
   rotate_left
   ·rw [if_neg c10] at H
    have c10b0 := decide_eq_false c10
    clear c10
    simp only [Option.some.injEq, Prod.mk.injEq] at H
    obtain ⟨rfl, rfl, rfl⟩ := H
    have hnb25 := N472_473.out
    have hnc25 := N473_472.out
    have hnb26 := mI.out
    have hnc26 := mH.out
    have q27_ := cN3 dH.out
    have hnb28 := N474_473.out
    have hnc28 := N473_474.out
    have q29_ := cN3 dU.out
    have q30_ := cN3 fW.out
    obtain ⟨Ao31, co31, eo31⟩ := Kd.S_slice cH.out
    subst eo31
    go_wp2
    refine bodyPost_ret (results_cell_row rfl _ _ gb473 24 #[.int .i64 a0_0, .int .i64 a0_1, .slice Ao31 cZ.length co31] (0, 0) _ rfl (kV fW) Tryz.underlying24 rfl (by kernel_rfl)) rfl ?_
    exact ⟨_, by first | rfl | (simp [Qa9, Qa8] <;> rfl) | (simp [*, Qa9, Qa8] <;> rfl), by (with_reducible repeat (first | apply Kd.S_alloc | apply Kd.S_drewN | apply Kd.S_drew)); exact Kd.S_mono (Kd.S_far (p := ⟨gb473, 2, none⟩) (Kd.S_far (p := ⟨gb473, 1, none⟩) (Kd.S_far (p := ⟨gb473, 0, none⟩) (Kd.S_types cH.out fW.out (by decide)) (fun _ hk => hk.2) (.int .i64 a0_0)) (fun _ hk => hk.2) (.int .i64 a0_1)) (fun _ hk => hk.2) (.slice Ao31 cZ.length co31)) (fun _ hk => trivial), BU HB.out⟩
   rw [if_pos c10] at H
   have c10b0 := decide_eq_true c10
   clear c10
   obtain ⟨y475, hy475⟩ : ∃ y_ : List (S41), y_ = (([] : List (S41))) := ⟨_, rfl⟩
   replace H : (if 0 ≤ aE then (if y475.length + ((Qag l0_2 aE).f0).length < 3518437208883 then (if cZ.length < 2513169434916 then (Qar.l0 k1 (wrap64 (aE + 1)) a0_0 a0_1 l0_2 a0_0 a0_1 (cZ ++ [(⟨(y475 ++ ((Qag l0_2 aE).f0)), (⟨(Qag l0_2 aE).f1.f0, (Qag l0_2 aE).f1.f1, (Qag l0_2 aE).f1.f2, (Qag l0_2 aE).f1.f3⟩ : S37)⟩ : S39)])) else (none)) else (none)) else (none)) = some (r1, r2, r3) := by first | (rw [hy475]; exact H) | exact H
   have Ny475 := As0 hy475
   clear hy475
   by_cases c11 : 0 ≤ aE
   rotate_left
   ·rw [if_neg c11] at H
    exact absurd H (by simp)
   rw [if_pos c11] at H
   have c11b0 := decide_eq_true c11
   clear c11
   by_cases c12 : y475.length + ((Qag l0_2 aE).f0).length < 3518437208883
   rotate_left
   ·rw [if_neg c12] at H
    exact absurd H (by simp)
   rw [if_pos c12] at H
   have LMc12 := As0 c12
   clear c12
   obtain ⟨y479, hy479⟩ : ∃ y_ : List (S41), y_ = (y475 ++ ((Qag l0_2 aE).f0)) := ⟨_, rfl⟩
   replace H : (if cZ.length < 2513169434916 then (Qar.l0 k1 (wrap64 (aE + 1)) a0_0 a0_1 l0_2 a0_0 a0_1 (cZ ++ [(⟨y479, (⟨(Qag l0_2 aE).f1.f0, (Qag l0_2 aE).f1.f1, (Qag l0_2 aE).f1.f2, (Qag l0_2 aE).f1.f3⟩ : S37)⟩ : S39)])) else (none)) = some (r1, r2, r3) := by first | (rw [hy479]; exact H) | exact H
   have Ny479 := As0 hy479
   clear hy479
   by_cases c13 : cZ.length < 2513169434916
   rotate_left
   ·rw [if_neg c13] at H
    exact absurd H (by simp)
   rw [if_pos c13] at H
   have LMc13 := As0 c13
   clear c13
   obtain ⟨y483, hy483⟩ : ∃ y_ : List (S39), y_ = (cZ ++ [(⟨y479, (⟨(Qag l0_2 aE).f1.f0, (Qag l0_2 aE).f1.f1, (Qag l0_2 aE).f1.f2, (Qag l0_2 aE).f1.f3⟩ : S37)⟩ : S39)]) := ⟨_, rfl⟩
   replace H : (Qar.l0 k1 (wrap64 (aE + 1)) a0_0 a0_1 l0_2 a0_0 a0_1 y483) = some (r1, r2, r3) := by first | (rw [hy483]; exact H) | exact H
   have Ny483 := As0 hy483
   clear hy483
   have H' := As0 H
   clear H
   have hnb14 := N472_473.out
   have hnc14 := N473_472.out
   have hnb15 := mI.out
   have hnc15 := mH.out
   have q16_ := cN3 dH.out
   try go_wp2
   replace cH := As0 (Kd.S_drew cH.out)
   replace dH := As0 (Qbm dH.out)
   replace fW := As0 (Qbm fW.out)
   replace dU := As0 (Qbm dU.out)
   replace HB := As0 (bd1 HB.out)
   have p478 : 0 ≤ (aE : Int) := qR
   have q478 : aE < (l0_2.length : Int) := qR
   obtain ⟨eJ, A478_0, c478_0, e478, jZ, hx478_1, hx478_2, hx478_3, hx478_4, hl478_0, hi478_0⟩ := Qed R0_2.out aE p478 q478
   have hw478_4 := hx478_4
   have hw478_3 := hx478_3
   have hw478_2 := hx478_2
   have hw478_1 := hx478_1
   have hw478_0 := jZ
   cases e478
   replace jZ := cl HB jZ
   replace hx478_1 := cl HB hx478_1
   replace hx478_2 := cl HB hx478_2
   replace hx478_3 := cl HB hx478_3
   replace hx478_4 := cl HB hx478_4
   have R478_0 := As0 hi478_0
   have C478_0 := As0 hl478_0
   clear hi478_0 hl478_0
   replace p478 := eq_true p478
   replace q478 := eq_true q478
   have p482 : 0 ≤ (aE : Int) := qR
   have q482 : aE < (l0_2.length : Int) := qR
   obtain ⟨ad482, A482_0, c482_0, e482, jY, hx482_1, hx482_2, hx482_3, hx482_4, hl482_0, hi482_0⟩ := Qed R0_2.out aE p482 q482
   have hw482_4 := hx482_4
   have hw482_3 := hx482_3
   have hw482_2 := hx482_2
   have hw482_1 := hx482_1
   have hw482_0 := jY
   obtain rfl : eJ = ad482 := (by injection e482)
   replace jY := cl HB jY
   replace hx482_1 := cl HB hx482_1
   replace hx482_2 := cl HB hx482_2
   replace hx482_3 := cl HB hx482_3
   replace hx482_4 := cl HB hx482_4
   have R482_0 := As0 hi482_0
   have C482_0 := As0 hl482_0
   clear hi482_0 hl482_0
   replace p482 := eq_true p482
   replace q482 := eq_true q482
   have ea_ := Option.some.inj (jZ.symm.trans jY)
   injection ea_ with ea_ en_ ec_
   subst ea_
   subst ec_
   clear en_
   refine Qb1 (n := 21) (S := fun w' => w'.cell? ⟨gb474, 0, none⟩ = some (.int .i64 a0_0) ∧ w'.cell? ⟨gb474, 1, none⟩ = some (.int .i64 a0_1) ∧ w'.cell? ⟨gb474, 2, none⟩ = some (u475002) ∧ w'.cell? ⟨gb472, 0, none⟩ = some (.int .i64 a0_0) ∧ w'.cell? ⟨gb472, 1, none⟩ = some (.int .i64 a0_1) ∧ w'.cell? ⟨gb472, 2, none⟩ = some (.slice (some eJ) l0_2.length c0_2) ∧ w'.cell? (eJ.add ((aE).toNat * 5)) = some (.slice A478_0 ((Qag l0_2 aE).f0).length c478_0) ∧ w'.cell? ⟨(eJ.add ((aE).toNat * 5)).block, (eJ.add ((aE).toNat * 5)).off + 1, none⟩ = some (.int .i64 ((Qag l0_2 aE).f1.f0)) ∧ w'.cell? ⟨(eJ.add ((aE).toNat * 5)).block, (eJ.add ((aE).toNat * 5)).off + 2, none⟩ = some (.int .i64 ((Qag l0_2 aE).f1.f1)) ∧ w'.cell? ⟨(eJ.add ((aE).toNat * 5)).block, (eJ.add ((aE).toNat * 5)).off + 3, none⟩ = some (.int .i64 ((Qag l0_2 aE).f1.f2)) ∧ w'.cell? ⟨(eJ.add ((aE).toNat * 5)).block, (eJ.add ((aE).toNat * 5)).off + 4, none⟩ = some (.int .i64 ((Qag l0_2 aE).f1.f3)) ∧ w'.cell? (eJ.add ((aE).toNat * 5)) = some (.slice A478_0 ((Qag l0_2 aE).f0).length c478_0) ∧ w'.cell? ⟨(eJ.add ((aE).toNat * 5)).block, (eJ.add ((aE).toNat * 5)).off + 1, none⟩ = some (.int .i64 ((Qag l0_2 aE).f1.f0)) ∧ w'.cell? ⟨(eJ.add ((aE).toNat * 5)).block, (eJ.add ((aE).toNat * 5)).off + 2, none⟩ = some (.int .i64 ((Qag l0_2 aE).f1.f1)) ∧ w'.cell? ⟨(eJ.add ((aE).toNat * 5)).block, (eJ.add ((aE).toNat * 5)).off + 3, none⟩ = some (.int .i64 ((Qag l0_2 aE).f1.f2)) ∧ w'.cell? ⟨(eJ.add ((aE).toNat * 5)).block, (eJ.add ((aE).toNat * 5)).off + 4, none⟩ = some (.int .i64 ((Qag l0_2 aE).f1.f3))) (ds := [20]) (bb 21 0) (by kernel_rfl) rfl rfl ⟨bc dU 0, bc dU 1, bc dU 2, bc dH 0, bc dH 1, bc dH 2, (cl HB hw478_0), (cl HB hw478_1), (cl HB hw478_2), (cl HB hw478_3), (cl HB hw478_4), (cl HB hw482_0), (cl HB hw482_1), (cl HB hw482_2), (cl HB hw482_3), (cl HB hw482_4)⟩ (fun aA => ?_); refine Qb8 Qar.tab5 Qar.bits5 (fun HT_ HW_ => ?_)
   generalize wr.drew = w17 at cH dH fW dU HB R478_0 R482_0 jZ hx478_1 hx478_2 hx478_3 hx478_4 jY hx482_1 hx482_2 hx482_3 hx482_4 aA ⊢
   refine pv HT_.out 0 17 (bb 21 1) ?_
   refine pv HT_.out 3 20 (bb 21 9) ?_
   refine pv HT_.out 5 22 (bb 21 41) ?_
   refine pv HT_.out 10 27 (bb 21 1065) ?_
   refine pv HT_.out 12 29 (bb 21 5161) ?_
   refine tv aA HT_.out HW_.out 1 18 (bb 21 5163) ?_
   refine tv aA HT_.out HW_.out 4 21 (bb 21 5179) ?_
   refine pv HT_.out 6 23 (bb 21 5243) ?_
   refine pv HT_.out 7 24 (bb 21 5371) ?_
   refine tv aA HT_.out HW_.out 8 25 (bb 21 5627) ?_
   refine tv aA HT_.out HW_.out 11 28 (bb 21 7675) ?_
   refine pv HT_.out 13 30 (bb 21 15867) ?_
   refine pv HT_.out 14 31 (bb 21 32251) ?_
   refine tv aA HT_.out HW_.out 15 32 (bb 21 65019) ?_
   refine one_ (i := 2) (N := some 19) (bb 21 65023) rfl rfl (Qcf HT_.out (by kernel_rfl)) (by decide) (fun K hK => ?_)
   refine Kd.R_lit_step k41 _ 41 ?hg (N := 19) ?hd (xs := ([] : List (S41))) (inner := []) (ok := fun _ => True) (okp := fun _ => True) ?hr ?hp (fun _ hk => hk) trivial (Below.refl _ _) (Nat.le_refl _) (by simp) ?_; (case hd => rfl); (case hg => rfl); (case hr => first | (go_simp; done) | (go_simp; rfl)); (case hp => exact (Reps.none _ _))
   intro v476 w18 ho19 hb hg_ hnew_
   clear hg_ hnew_
   (first | rw [← Ny475.out] at ho19 | (simp only [Int.reduceToNat] at ho19; rw [← Ny475.out] at ho19))
   replace cH := As0 (Kd.S_elder' (SU cH.out) (Kd.R_base ho19) hb)
   have O477 := As0 (Kd.R_lower ho19 (Qbi (BU HB.out)))
   replace dH := kB dH hb
   replace fW := kB fW hb
   replace dU := kB dU hb
   replace HB := sB HB hb
   clear hb ho19
   refine hK.out _ _ ⟨bc dU 0, bc dU 1, bc dU 2, bc dH 0, bc dH 1, bc dH 2, (cl HB hw478_0), (cl HB hw478_1), (cl HB hw478_2), (cl HB hw478_3), (cl HB hw478_4), (cl HB hw482_0), (cl HB hw482_1), (cl HB hw482_2), (cl HB hw482_3), (cl HB hw482_4)⟩ (fun aA => ?_)
   clear hK K
   refine Qbz (a' := ?_) ?_ ?_
   rotate_left
   ·show Act.put _ (some 19) _ = _
    simp only [Act.put, sL1, sL2, sL3, Qbo, Qbp]
    rfl
   refine one_ (i := 9) (N := some 26) (bb 21 65535) rfl rfl (Qcf HT_.out (by kernel_rfl)) (by decide) (fun K hK => ?_)
   refine Kd.R_append_rows_step k41 (w0 := w) w.heap.size (by rfl) (.tmp 19) (.tmp 25) 35 41 (.agg #[(.int .i64 0), (.int .i64 0), (.int .i64 0), (.int .i64 0), (.int .i64 0)]) 40 rfl Tryz.underlying35 info41 rfl (by decide) (by omega) v476 y475 ((Qag l0_2 aE).f0) _ _ _ (fun _ => True) (fun _ => False) rfl rfl ?aO ?aR (fun _ _ h => h) (fun _ h => h.elim) ?aF ?aB ?aS ?aL ?_
   (case aR => exact CU (Kd.C_below R478_0.out HB.out))
   (case aB => exact (BU HB.out))
   (case aF => exact (fun _ _ => trivial))
   (case aO => exact (RU O477.out))
   (case aS => exact (Qbi (BU HB.out)))
   (case aL => have := LMc12.out; omega)
   intro v480 w20 ho hb hg hat
   rw [← Ny479.out] at ho
   replace cH := As0 (Kd.S_after (ok := (fun _ => True)) (SU cH.out) hg hat)
   replace dH := As0 (Qbu (bU dH.out) hg (Kd.R_ne O477.out dH.out (by decide)))
   replace fW := As0 (Qbu (bU fW.out) hg (Kd.R_ne O477.out fW.out (by decide)))
   replace dU := As0 (Qbu (bU dU.out) hg (Kd.R_ne O477.out dU.out (by decide)))
   replace HB := As0 (hb)
   have O481 := As0 (ho)
   clear O477 ho hb hg hat
   obtain ⟨Ao21, co21, eo21⟩ := Kd.R_slice O481.out
   (first | subst eo21 | (injection eo21 with f1_ f2_ f3_; have f4_ := f1_.symm; have f5_ := f3_.symm; clear f1_ f2_ f3_; subst f4_; subst f5_))
   refine hK.out _ _ ⟨bc dU 0, bc dU 1, bc dU 2, bc dH 0, bc dH 1, bc dH 2, (cl HB hw478_0), (cl HB hw478_1), (cl HB hw478_2), (cl HB hw478_3), (cl HB hw478_4), (cl HB hw482_0), (cl HB hw482_1), (cl HB hw482_2), (cl HB hw482_3), (cl HB hw482_4)⟩ (fun aA => ?_)
   clear hK K
   refine Qbz (a' := ?_) ?_ ?_
   rotate_left
   ·show Act.put _ (some 26) _ = _
    simp only [Act.put, sL1, sL2, sL3, Qbo, Qbp]
    rfl
   refine pv HT_.out 16 33 (bb 21 131071) ?_
   refine one_ (i := 17) (N := some 34) (bb 21 262143) rfl rfl (Qcf HT_.out (by kernel_rfl)) (by decide) (fun K hK => ?_)
   refine value_ (w1 := ?_) (v := ?_) (by rfl) rfl ?_ ?_
   rotate_left 2
   ·go_simp
    constructor
    ·rfl
    ·rfl
   refine hK.out _ _ ⟨(Qbh (Qbq dU.out _) 0).trans rfl, (Qbh (Qbq dU.out _) 1).trans rfl, (Qbh (Qbq dU.out _) 2).trans rfl, (Qbh (Qbq dH.out _) 0).trans rfl, (Qbh (Qbq dH.out _) 1).trans rfl, (Qbh (Qbq dH.out _) 2).trans rfl, (World.cell?_alloc_lt _ _ _ (World.block_lt_of_cell? _ _ ((cl HB hw478_0)))).trans ((cl HB hw478_0)), (World.cell?_alloc_lt _ _ _ (World.block_lt_of_cell? _ _ ((cl HB hw478_1)))).trans ((cl HB hw478_1)), (World.cell?_alloc_lt _ _ _ (World.block_lt_of_cell? _ _ ((cl HB hw478_2)))).trans ((cl HB hw478_2)), (World.cell?_alloc_lt _ _ _ (World.block_lt_of_cell? _ _ ((cl HB hw478_3)))).trans ((cl HB hw478_3)), (World.cell?_alloc_lt _ _ _ (World.block_lt_of_cell? _ _ ((cl HB hw478_4)))).trans ((cl HB hw478_4)), (World.cell?_alloc_lt _ _ _ (World.block_lt_of_cell? _ _ ((cl HB hw482_0)))).trans ((cl HB hw482_0)), (World.cell?_alloc_lt _ _ _ (World.block_lt_of_cell? _ _ ((cl HB hw482_1)))).trans ((cl HB hw482_1)), (World.cell?_alloc_lt _ _ _ (World.block_lt_of_cell? _ _ ((cl HB hw482_2)))).trans ((cl HB hw482_2)), (World.cell?_alloc_lt _ _ _ (World.block_lt_of_cell? _ _ ((cl HB hw482_3)))).trans ((cl HB hw482_3)), (World.cell?_alloc_lt _ _ _ (World.block_lt_of_cell? _ _ ((cl HB hw482_4)))).trans ((cl HB hw482_4))⟩ (fun aA => ?_)
   clear hK K
   refine Qbz (a' := ?_) ?_ ?_
   rotate_left
   ·show Act.put _ (some 34) _ = _
    simp only [Act.put, sL1, sL2, sL3, Qbo, Qbp]
    rfl
   refine one_ (i := 18) (N := some 35) (bb 21 524287) rfl rfl (Qcf HT_.out (by kernel_rfl)) (by decide) (fun K hK => ?_)
   refine Kd.S_append_step k39 (w0 := w) w.heap.size (by rfl) (.tmp 18) (.tmp 34) 22 39 (.agg #[(.slice none 0 0), (.int .i64 0), (.int .i64 0), (.int .i64 0), (.int .i64 0)]) 56 rfl Tryz.underlying22 info39 rfl (by decide) (by omega) u475002 cZ (⟨y479, (⟨(Qag l0_2 aE).f1.f0, (Qag l0_2 aE).f1.f1, (Qag l0_2 aE).f1.f2, (Qag l0_2 aE).f1.f3⟩ : S37)⟩ : S39) [.slice Ao21 y479.length co21, .int .i64 ((Qag l0_2 aE).f1.f0), .int .i64 ((Qag l0_2 aE).f1.f1), .int .i64 ((Qag l0_2 aE).f1.f2), .int .i64 ((Qag l0_2 aE).f1.f3)] (fun _ => True) (fun k_ => some k_ = (.slice Ao21 y479.length co21 : Value).ownBlock) rfl rfl ?aP (fun k_ hk_ => ((Kd.R_mono (ok' := fun k_ => ((fun _ => True)) k_ ∧ some k_ ≠ (u475002 : Value).ownBlock) (Kd.R_apart' (O481.out) (Kd.S_typed cH.out) (by decide)) (fun k_ hk => ⟨trivial, hk.2⟩))).1 k_ hk_.symm) ?aF ?aO ?aB ?aS ?aL ?_
   (case aP => exact k39_mkM _ _ _ (⟨y479, (⟨(Qag l0_2 aE).f1.f0, (Qag l0_2 aE).f1.f1, (Qag l0_2 aE).f1.f2, (Qag l0_2 aE).f1.f3⟩ : S37)⟩ : S39) (Kd.R_mono (Kd.R_tight rfl (Kd.R_mono (ok' := fun k_ => ((fun _ => True)) k_ ∧ some k_ ≠ (u475002 : Value).ownBlock) (Kd.R_apart' (O481.out) (Kd.S_typed cH.out) (by decide)) (fun k_ hk => ⟨trivial, hk.2⟩))) (fun _ h_ => h_)))
   (case aB => exact (BU HB.out))
   (case aF => exact (fun _ _ => trivial))
   (case aO => exact (SU (Kd.S_mono cH.out (fun k_ hk => ⟨trivial, fun e_ => hk.2 e_⟩))))
   (case aS => exact (Qbi (BU HB.out)))
   (case aL => have := LMc13.out; omega)
   intro v484 w22 ho hb hg hat
   rw [← Ny483.out] at ho
   replace dH := As0 (Qbu (bU dH.out) hg (Kd.S_ne cH.out dH.out (by decide)))
   replace fW := As0 (Qbu (bU fW.out) hg (Kd.S_ne cH.out fW.out (by decide)))
   replace dU := As0 (Qbu (bU dU.out) hg (Kd.S_ne cH.out dU.out (by decide)))
   replace HB := As0 (hb)
   have O485 := As0 (ho)
   clear cH O481 ho hb hg hat
   obtain ⟨Ao23, co23, eo23⟩ := Kd.S_slice O485.out
   (first | subst eo23 | (injection eo23 with f1_ f2_ f3_; have f4_ := f1_.symm; have f5_ := f3_.symm; clear f1_ f2_ f3_; subst f4_; subst f5_))
   refine hK.out _ _ ⟨bc dU 0, bc dU 1, bc dU 2, bc dH 0, bc dH 1, bc dH 2, (cl HB hw478_0), (cl HB hw478_1), (cl HB hw478_2), (cl HB hw478_3), (cl HB hw478_4), (cl HB hw482_0), (cl HB hw482_1), (cl HB hw482_2), (cl HB hw482_3), (cl HB hw482_4)⟩ (fun aA => ?_)
   clear hK K
   refine Qbz (a' := ?_) ?_ ?_
   rotate_left
   ·show Act.put _ (some 35) _ = _
    simp only [Act.put, sL1, sL2, sL3, Qbo, Qbp]
    rfl
   refine pv HT_.out 19 36 (bb 21 1048575) ?_
   refine Qc7 (i := 20) (N := none) (bb 21 2097151) rfl rfl (Qcf HT_.out (by kernel_rfl)) (by decide) (fun K hK => ?_)
   have hs24 : w22.cell? ⟨gb474, 2, none⟩ = some (u475002) := bc dU 2
   have hfs24 := Qbj dU.out 2
   have hns24_0 := mI.out
   have hns24_1 := N473_474.out
   have hms24_0 := mH.out
   have hms24_1 := N474_473.out
   refine skip_ (w1 := ?_) (by rfl) rfl ?_ ?_
   rotate_left
   ·go_simp
    rfl
   refine hK.out _ _ ?_
   clear hK K
   refine Qch (Qcm HT_.out (by kernel_rfl)) ?_
   try go_wp2
   go_roundg k1
   case measure => have := HK1.out; omega
   case rel => exact ⟨(wrap64 (aE + 1)), (y483), (.slice Ao23 y483.length co23), eR, H', ⟨by have := HK1.out; omega⟩, ⟨SU (Kd.S_mono (Kd.S_far (p := ⟨gb474, 2, none⟩) (Kd.S_types O485.out dU.out (by decide)) (fun _ hk => hk.2) (.slice Ao23 y483.length co23)) (fun _ hk => trivial))⟩, ⟨kV dH⟩, ⟨kV fW⟩, ⟨kV dU⟩, ⟨BU HB.out⟩⟩
def Qap.l0 : Nat → Int → Int → Int → Int → List (S57) → Int → Int → Int → List (S57) → Option (Int × Int × Int × (List (S57)))
 | 0, _, _, _, _, _, _, _, _, _ => none
 | k + 1, x4, x487000, x487001, x487002, fO, x489000, x489001, x489002, x489003 => if x4 < (fO.length : Int) then ((some (([] : List (S59)) : List (S59))).bind fun y489 => (if 0 ≤ x4 then (if y489.length + ((Qaq fO x4).f0).length < 2513169434916 then (if x489003.length < 2513169434916 then (Qap.l0 k (wrap64 (x4 + 1)) x487000 x487001 x487002 fO x489000 x489001 x489002 (x489003 ++ [(⟨(y489 ++ ((Qaq fO x4).f0)), (⟨(Qaq fO x4).f1.f0, (Qaq fO x4).f1.f1, (Qaq fO x4).f1.f2, (Qaq fO x4).f1.f3⟩ : S37)⟩ : S57)])) else (none)) else (none)) else (none))) else (some (x489000, x489001, x489002, x489003))
def Qap.f (k : Nat) (a0_0 a0_1 a0_2 : Int) (l0_3 : List (S57)) : Option (Int × Int × Int × (List (S57))) := Qap.l0 k 0 a0_0 a0_1 a0_2 l0_3 a0_0 a0_1 a0_2 ([] : List (S57))
def Qap.T5 : Bool × List (List Nat × List Nat) := (true, [([], []), ([0], [0]), ([], []), ([], []), ([3], [3]), ([], []), ([4, 5], [4, 5]), ([6], [6]), ([7], [7]), ([2, 8], [2, 8]), ([], []), ([10], [10]), ([], []), ([11, 12], [11, 12]), ([13], [13]), ([14], [14]), ([9, 15], [9, 15]), ([16], [16]), ([1, 17, 9], [1, 17]), ([0, 1, 2, 3, 4, 5, 6, 7, 8, 9, 10, 11, 12, 13, 14, 15, 16, 17, 18], []), ([19, 18, 18, 0, 1, 2, 3, 4, 5, 6, 7, 8, 9, 10, 11, 12, 13, 14, 15, 16, 17, 18], [18, 19])])
def Qap.B5 : List Nat := [0, 1, 0, 0, 8, 0, 56, 120, 248, 508, 0, 1024, 0, 7168, 15360, 31744, 65532, 131068, 262143, 524287, 1048575]
theorem Qap.tab5 : rtab .any (opsOf Tryz.f29 5) = Qap.T5 := by kernel_rfl
theorem Qap.bits5 : Qco Qap.T5.2 Qap.B5 = true := by kernel_rfl
theorem Qap.calls (k : Nat) (a0_0 a0_1 a0_2 : Int) (A0_3 : Option Addr) (c0_3 : Nat) (l0_3 : List (S57)) (r1 r2 r3 : Int) (r4 : List (S57)) (w : World) (hr0_3 : Kd.C k57 w A0_3 l0_3.length l0_3) (hc0_3 : l0_3.length ≤ c0_3) (h : Qap.f k a0_0 a0_1 a0_2 l0_3 = some (r1, r2, r3, r4)) :
 Calls Tryz.prog 29 #[.agg #[.int .i64 a0_0, .int .i64 a0_1, .int .i64 a0_2, .slice A0_3 l0_3.length c0_3]] w fun e w' => ∃ v3_ : Value, e = .returned (.agg #[.int .i64 r1, .int .i64 r2, .int .i64 r3, v3_]) ∧ Kd.S k57 57 w' w.heap.size (fun _ => True) v3_ r4 ∧ Below w.heap.size w w' := by
 have hu27 := Tryz.underlying27
 have hu37 := Tryz.underlying37
 have hu57 := Tryz.underlying57
 have R0_3 := As0 hr0_3
 have C0_3 := As0 hc0_3
 clear hr0_3 hc0_3
 have HB := As0 (Below.refl w.heap.size w)
 have H : (Qap.l0 k 0 a0_0 a0_1 a0_2 l0_3 a0_0 a0_1 a0_2 ([] : List (S57))) = some (r1, r2, r3, r4) := h
 clear h
 have H' := As0 H
 clear H
 go_enter Tryz.func29, Tryz.ntmps29
 go_wp2_with (first | ((with_reducible refine gD 1 ?_); refine bY HB.out ?_; intro gb486 w2 hg hb cV GW486 HB; clear hb hg) | ((with_reducible refine gD 2 ?_); refine bY HB.out ?_; intro gb487 w3 hg hb fV GW487 HB; have N486_487 := nL hg cV; have N487_486 := nR hg cV; replace cV := kB cV hb; clear hb hg; have hnb4 := N486_487.out; have hnc4 := N487_486.out; have q5_ := cN4 cV.out) | ((with_reducible refine gD 3 ?_); refine bY HB.out ?_; intro gb488 w6 hg hb dK GW488 HB; have mG := nL hg cV; have mF := nR hg cV; replace cV := kB cV hb; have N487_488 := nL hg fV; have N488_487 := nR hg fV; replace fV := kB fV hb; clear hb hg; have hnb7 := mF.out; have hnc7 := mG.out; have hnb8 := N488_487.out; have hnc8 := N487_488.out; have q9_ := cN4 dK.out))
 go_loopg [4] k (fun kq v4 w' => ∃ (aE : Int) (cY : List (S57)) (u489003 : Value), v4 = .int .i64 aE ∧ Qbf (Qap.l0 kq aE a0_0 a0_1 a0_2 l0_3 a0_0 a0_1 a0_2 cY = some (r1, r2, r3, r4)) ∧ Qbf (kq ≤ k) ∧ Qbf (Kd.S k57 57 w' w.heap.size (fun _ => True) u489003 cY) ∧ Qbf (w'.heap[gb486]? = some (.cells #[.int .i64 a0_0, .int .i64 a0_1, .int .i64 a0_2, (.slice A0_3 l0_3.length c0_3)] 27 (0, 0))) ∧ Qbf (w'.heap[gb487]? = some (.cells #[.int .i64 0, .int .i64 0, .int .i64 0, (.slice none 0 0)] 27 (0, 0))) ∧ Qbf (w'.heap[gb488]? = some (.cells #[.int .i64 a0_0, .int .i64 a0_1, .int .i64 a0_2, u489003] 27 (0, 0))) ∧ Qbf (Below w.heap.size w w'))
 case atStart => exact ⟨(0), (([] : List (S57))), (.slice none 0 0), eR, H', ⟨Nat.le_refl _⟩, ⟨by first | exact Kd.S_nil _ _ _ _ _ | exact Kd.N_nil _ _ _ _ _ | exact Kd.V_nil _ _ _ _ _ | exact Kd.Q_nil _ _ _ _ _ | exact Kd.R_nil _ _ _ _ _⟩, ⟨kV cV⟩, ⟨kV fV⟩, ⟨kV dK⟩, ⟨BU HB.out⟩⟩
 case round =>
  clear H'
  obtain ⟨aE, cY, u489003, rfl, HA, HK1, cG, cV, fV, dK, HB⟩ := hrel
  cases gk with
  | zero => exact absurd HA.out (by simp [Qap.l0])
  | succ k1 =>
   have H := HA.out
   clear HA
   simp only [Qap.l0] at H
   by_cases c10 : aE < (l0_3.length : Int)
   rotate_left
   ·rw [if_neg c10] at H
    have c10b0 := decide_eq_false c10
    clear c10
    simp only [Option.some.injEq, Prod.mk.injEq] at H
    obtain ⟨rfl, rfl, rfl, rfl⟩ := H
    have hnb25 := N486_487.out
    have hnc25 := N487_486.out
    have hnb26 := mG.out
    have hnc26 := mF.out
    have q27_ := cN4 cV.out
    have hnb28 := N488_487.out
    have hnc28 := N487_488.out
    have q29_ := cN4 dK.out
    have q30_ := cN4 fV.out
    obtain ⟨Ao31, co31, eo31⟩ := Kd.S_slice cG.out
    subst eo31
    go_wp2
    refine bodyPost_ret (results_cell_row rfl _ _ gb487 27 #[.int .i64 a0_0, .int .i64 a0_1, .int .i64 a0_2, .slice Ao31 cY.length co31] (0, 0) _ rfl (kV fV) Tryz.underlying27 rfl (by kernel_rfl)) rfl ?_
    exact ⟨_, by first | rfl | (simp [Qa9, Qa8] <;> rfl) | (simp [*, Qa9, Qa8] <;> rfl), by (with_reducible repeat (first | apply Kd.S_alloc | apply Kd.S_drewN | apply Kd.S_drew)); exact Kd.S_mono (Kd.S_far (p := ⟨gb487, 3, none⟩) (Kd.S_far (p := ⟨gb487, 2, none⟩) (Kd.S_far (p := ⟨gb487, 1, none⟩) (Kd.S_far (p := ⟨gb487, 0, none⟩) (Kd.S_types cG.out fV.out (by decide)) (fun _ hk => hk.2) (.int .i64 a0_0)) (fun _ hk => hk.2) (.int .i64 a0_1)) (fun _ hk => hk.2) (.int .i64 a0_2)) (fun _ hk => hk.2) (.slice Ao31 cY.length co31)) (fun _ hk => trivial), BU HB.out⟩
   rw [if_pos c10] at H
   have c10b0 := decide_eq_true c10
   clear c10
   obtain ⟨y489, hy489⟩ : ∃ y_ : List (S59), y_ = (([] : List (S59))) := ⟨_, rfl⟩
   replace H : (if 0 ≤ aE then (if y489.length + ((Qaq l0_3 aE).f0).length < 2513169434916 then (if cY.length < 2513169434916 then (Qap.l0 k1 (wrap64 (aE + 1)) a0_0 a0_1 a0_2 l0_3 a0_0 a0_1 a0_2 (cY ++ [(⟨(y489 ++ ((Qaq l0_3 aE).f0)), (⟨(Qaq l0_3 aE).f1.f0, (Qaq l0_3 aE).f1.f1, (Qaq l0_3 aE).f1.f2, (Qaq l0_3 aE).f1.f3⟩ : S37)⟩ : S57)])) else (none)) else (none)) else (none)) = some (r1, r2, r3, r4) := by first | (rw [hy489]; exact H) | exact H
   have Ny489 := As0 hy489
   clear hy489
   by_cases c11 : 0 ≤ aE
   rotate_left
   ·rw [if_neg c11] at H
    exact absurd H (by simp)
   rw [if_pos c11] at H
   have c11b0 := decide_eq_true c11
   clear c11
   by_cases c12 : y489.length + ((Qaq l0_3 aE).f0).length < 2513169434916
   rotate_left
   ·rw [if_neg c12] at H
    exact absurd H (by simp)
   rw [if_pos c12] at H
   have LMc12 := As0 c12
   clear c12
   obtain ⟨y493, hy493⟩ : ∃ y_ : List (S59), y_ = (y489 ++ ((Qaq l0_3 aE).f0)) := ⟨_, rfl⟩
   replace H : (if cY.length < 2513169434916 then (Qap.l0 k1 (wrap64 (aE + 1)) a0_0 a0_1 a0_2 l0_3 a0_0 a0_1 a0_2 (cY ++ [(⟨y493, (⟨(Qaq l0_3 aE).f1.f0, (Qaq l0_3 aE).f1.f1, (Qaq l0_3 aE).f1.f2, (Qaq l0_3 aE).f1.f3⟩ : S37)⟩ : S57)])) else (none)) = some (r1, r2, r3, r4) := by first | (rw [hy493]; exact H) | exact H
   have Ny493 := As0 hy493
   clear hy493
   by_cases c13 : cY.length < 2513169434916
   rotate_left
   ·rw [if_neg c13] at H
    exact absurd H (by simp)
   rw [if_pos c13] at H
   have LMc13 := As0 c13
   clear c13
   obtain ⟨y497, hy497⟩ : ∃ y_ : List (S57), y_ = (cY ++ [(⟨y493, (⟨(Qaq l0_3 aE).f1.f0, (Qaq l0_3 aE).f1.f1, (Qaq l0_3 aE).f1.f2, (Qaq l0_3 aE).f1.f3⟩ : S37)⟩ : S57)]) := ⟨_, rfl⟩
   replace H : (Qap.l0 k1 (wrap64 (aE + 1)) a0_0 a0_1 a0_2 l0_3 a0_0 a0_1 a0_2 y497) = some (r1, r2, r3, r4) := by first | (rw [hy497]; exact H) | exact H
   have Ny497 := As0 hy497
   clear hy497
   have H' := As0 H
   clear H
   have hnb14 := N486_487.out
   have hnc14 := N487_486.out
   have hnb15 := mG.out
   have hnc15 := mF.out
   have q16_ := cN4 cV.out
   try go_wp2
   replace cG := As0 (Kd.S_drew cG.out)
   replace cV := As0 (Qbm cV.out)
   replace fV := As0 (Qbm fV.out)
   replace dK := As0 (Qbm dK.out)
   replace HB := As0 (bd1 HB.out)
   have p492 : 0 ≤ (aE : Int) := qR
   have q492 : aE < (l0_3.length : Int) := qR
   obtain ⟨eI, A492_0, c492_0, e492, jX, hx492_1, hx492_2, hx492_3, hx492_4, hl492_0, hi492_0⟩ := Qep R0_3.out aE p492 q492
   have hw492_4 := hx492_4
   have hw492_3 := hx492_3
   have hw492_2 := hx492_2
   have hw492_1 := hx492_1
   have hw492_0 := jX
   cases e492
   replace jX := cl HB jX
   replace hx492_1 := cl HB hx492_1
   replace hx492_2 := cl HB hx492_2
   replace hx492_3 := cl HB hx492_3
   replace hx492_4 := cl HB hx492_4
   have R492_0 := As0 hi492_0
   have C492_0 := As0 hl492_0
   clear hi492_0 hl492_0
   replace p492 := eq_true p492
   replace q492 := eq_true q492
   have p496 : 0 ≤ (aE : Int) := qR
   have q496 : aE < (l0_3.length : Int) := qR
   obtain ⟨ad496, A496_0, c496_0, e496, jW, hx496_1, hx496_2, hx496_3, hx496_4, hl496_0, hi496_0⟩ := Qep R0_3.out aE p496 q496
   have hw496_4 := hx496_4
   have hw496_3 := hx496_3
   have hw496_2 := hx496_2
   have hw496_1 := hx496_1
   have hw496_0 := jW
   obtain rfl : eI = ad496 := (by injection e496)
   replace jW := cl HB jW
   replace hx496_1 := cl HB hx496_1
   replace hx496_2 := cl HB hx496_2
   replace hx496_3 := cl HB hx496_3
   replace hx496_4 := cl HB hx496_4
   have R496_0 := As0 hi496_0
   have C496_0 := As0 hl496_0
   clear hi496_0 hl496_0
   replace p496 := eq_true p496
   replace q496 := eq_true q496
   have ea_ := Option.some.inj (jX.symm.trans jW)
   injection ea_ with ea_ en_ ec_
   subst ea_
   subst ec_
   clear en_
   refine Qb1 (n := 21) (S := fun w' => w'.cell? ⟨gb488, 0, none⟩ = some (.int .i64 a0_0) ∧ w'.cell? ⟨gb488, 1, none⟩ = some (.int .i64 a0_1) ∧ w'.cell? ⟨gb488, 2, none⟩ = some (.int .i64 a0_2) ∧ w'.cell? ⟨gb488, 3, none⟩ = some (u489003) ∧ w'.cell? ⟨gb486, 0, none⟩ = some (.int .i64 a0_0) ∧ w'.cell? ⟨gb486, 1, none⟩ = some (.int .i64 a0_1) ∧ w'.cell? ⟨gb486, 2, none⟩ = some (.int .i64 a0_2) ∧ w'.cell? ⟨gb486, 3, none⟩ = some (.slice (some eI) l0_3.length c0_3) ∧ w'.cell? (eI.add ((aE).toNat * 5)) = some (.slice A492_0 ((Qaq l0_3 aE).f0).length c492_0) ∧ w'.cell? ⟨(eI.add ((aE).toNat * 5)).block, (eI.add ((aE).toNat * 5)).off + 1, none⟩ = some (.int .i64 ((Qaq l0_3 aE).f1.f0)) ∧ w'.cell? ⟨(eI.add ((aE).toNat * 5)).block, (eI.add ((aE).toNat * 5)).off + 2, none⟩ = some (.int .i64 ((Qaq l0_3 aE).f1.f1)) ∧ w'.cell? ⟨(eI.add ((aE).toNat * 5)).block, (eI.add ((aE).toNat * 5)).off + 3, none⟩ = some (.int .i64 ((Qaq l0_3 aE).f1.f2)) ∧ w'.cell? ⟨(eI.add ((aE).toNat * 5)).block, (eI.add ((aE).toNat * 5)).off + 4, none⟩ = some (.int .i64 ((Qaq l0_3 aE).f1.f3)) ∧ w'.cell? (eI.add ((aE).toNat * 5)) = some (.slice A492_0 ((Qaq l0_3 aE).f0).length c492_0) ∧ w'.cell? ⟨(eI.add ((aE).toNat * 5)).block, (eI.add ((aE).toNat * 5)).off + 1, none⟩ = some (.int .i64 ((Qaq l0_3 aE).f1.f0)) ∧ w'.cell? ⟨(eI.add ((aE).toNat * 5)).block, (eI.add ((aE).toNat * 5)).off + 2, none⟩ = some (.int .i64 ((Qaq l0_3 aE).f1.f1)) ∧ w'.cell? ⟨(eI.add ((aE).toNat * 5)).block, (eI.add ((aE).toNat * 5)).off + 3, none⟩ = some (.int .i64 ((Qaq l0_3 aE).f1.f2)) ∧ w'.cell? ⟨(eI.add ((aE).toNat * 5)).block, (eI.add ((aE).toNat * 5)).off + 4, none⟩ = some (.int .i64 ((Qaq l0_3 aE).f1.f3))) (ds := [20]) (bb 21 0) (by kernel_rfl) rfl rfl ⟨bc dK 0, bc dK 1, bc dK 2, bc dK 3, bc cV 0, bc cV 1, bc cV 2, bc cV 3, (cl HB hw492_0), (cl HB hw492_1), (cl HB hw492_2), (cl HB hw492_3), (cl HB hw492_4), (cl HB hw496_0), (cl HB hw496_1), (cl HB hw496_2), (cl HB hw496_3), (cl HB hw496_4)⟩ (fun aA => ?_); refine Qb8 Qap.tab5 Qap.bits5 (fun HT_ HW_ => ?_)
   generalize wr.drew = w17 at cG cV fV dK HB R492_0 R496_0 jX hx492_1 hx492_2 hx492_3 hx492_4 jW hx496_1 hx496_2 hx496_3 hx496_4 aA ⊢
   refine pv HT_.out 0 19 (bb 21 1) ?_
   refine pv HT_.out 3 22 (bb 21 9) ?_
   refine pv HT_.out 5 24 (bb 21 41) ?_
   refine pv HT_.out 10 29 (bb 21 1065) ?_
   refine pv HT_.out 12 31 (bb 21 5161) ?_
   refine tv aA HT_.out HW_.out 1 20 (bb 21 5163) ?_
   refine tv aA HT_.out HW_.out 4 23 (bb 21 5179) ?_
   refine pv HT_.out 6 25 (bb 21 5243) ?_
   refine pv HT_.out 7 26 (bb 21 5371) ?_
   refine tv aA HT_.out HW_.out 8 27 (bb 21 5627) ?_
   refine tv aA HT_.out HW_.out 11 30 (bb 21 7675) ?_
   refine pv HT_.out 13 32 (bb 21 15867) ?_
   refine pv HT_.out 14 33 (bb 21 32251) ?_
   refine tv aA HT_.out HW_.out 15 34 (bb 21 65019) ?_
   refine one_ (i := 2) (N := some 21) (bb 21 65023) rfl rfl (Qcf HT_.out (by kernel_rfl)) (by decide) (fun K hK => ?_)
   refine Kd.R_lit_step k59 _ 59 ?hg (N := 21) ?hd (xs := ([] : List (S59))) (inner := []) (ok := fun _ => True) (okp := fun _ => True) ?hr ?hp (fun _ hk => hk) trivial (Below.refl _ _) (Nat.le_refl _) (by simp) ?_; (case hd => rfl); (case hg => rfl); (case hr => first | (go_simp; done) | (go_simp; rfl)); (case hp => exact (Reps.none _ _))
   intro v490 w18 ho19 hb hg_ hnew_
   clear hg_ hnew_
   (first | rw [← Ny489.out] at ho19 | (simp only [Int.reduceToNat] at ho19; rw [← Ny489.out] at ho19))
   replace cG := As0 (Kd.S_elder' (SU cG.out) (Kd.R_base ho19) hb)
   have O491 := As0 (Kd.R_lower ho19 (Qbi (BU HB.out)))
   replace cV := kB cV hb
   replace fV := kB fV hb
   replace dK := kB dK hb
   replace HB := sB HB hb
   clear hb ho19
   refine hK.out _ _ ⟨bc dK 0, bc dK 1, bc dK 2, bc dK 3, bc cV 0, bc cV 1, bc cV 2, bc cV 3, (cl HB hw492_0), (cl HB hw492_1), (cl HB hw492_2), (cl HB hw492_3), (cl HB hw492_4), (cl HB hw496_0), (cl HB hw496_1), (cl HB hw496_2), (cl HB hw496_3), (cl HB hw496_4)⟩ (fun aA => ?_)
   clear hK K
   refine Qbz (a' := ?_) ?_ ?_
   rotate_left
   ·show Act.put _ (some 21) _ = _
    simp only [Act.put, sL1, sL2, sL3, Qbo, Qbp]
    rfl
   refine one_ (i := 9) (N := some 28) (bb 21 65535) rfl rfl (Qcf HT_.out (by kernel_rfl)) (by decide) (fun K hK => ?_)
   refine Kd.R_append_rows_step k59 (w0 := w) w.heap.size (by rfl) (.tmp 21) (.tmp 27) 54 59 (.agg #[(.int .i64 0), (.int .i64 0), (.int .i64 0), (.int .i64 0), (.int .i64 0), (.int .i64 0), (.int .i64 0)]) 56 rfl Tryz.underlying54 info59 rfl (by decide) (by omega) v490 y489 ((Qaq l0_3 aE).f0) _ _ _ (fun _ => True) (fun _ => False) rfl rfl ?aO ?aR (fun _ _ h => h) (fun _ h => h.elim) ?aF ?aB ?aS ?aL ?_
   (case aR => exact CU (Kd.C_below R492_0.out HB.out))
   (case aB => exact (BU HB.out))
   (case aF => exact (fun _ _ => trivial))
   (case aO => exact (RU O491.out))
   (case aS => exact (Qbi (BU HB.out)))
   (case aL => have := LMc12.out; omega)
   intro v494 w20 ho hb hg hat
   rw [← Ny493.out] at ho
   replace cG := As0 (Kd.S_after (ok := (fun _ => True)) (SU cG.out) hg hat)
   replace cV := As0 (Qbu (bU cV.out) hg (Kd.R_ne O491.out cV.out (by decide)))
   replace fV := As0 (Qbu (bU fV.out) hg (Kd.R_ne O491.out fV.out (by decide)))
   replace dK := As0 (Qbu (bU dK.out) hg (Kd.R_ne O491.out dK.out (by decide)))
   replace HB := As0 (hb)
   have O495 := As0 (ho)
   clear O491 ho hb hg hat
   obtain ⟨Ao21, co21, eo21⟩ := Kd.R_slice O495.out
   (first | subst eo21 | (injection eo21 with f1_ f2_ f3_; have f4_ := f1_.symm; have f5_ := f3_.symm; clear f1_ f2_ f3_; subst f4_; subst f5_))
   refine hK.out _ _ ⟨bc dK 0, bc dK 1, bc dK 2, bc dK 3, bc cV 0, bc cV 1, bc cV 2, bc cV 3, (cl HB hw492_0), (cl HB hw492_1), (cl HB hw492_2), (cl HB hw492_3), (cl HB hw492_4), (cl HB hw496_0), (cl HB hw496_1), (cl HB hw496_2), (cl HB hw496_3), (cl HB hw496_4)⟩ (fun aA => ?_)
   clear hK K
   refine Qbz (a' := ?_) ?_ ?_
   rotate_left
   ·show Act.put _ (some 28) _ = _
    simp only [Act.put, sL1, sL2, sL3, Qbo, Qbp]
    rfl
   refine pv HT_.out 16 35 (bb 21 131071) ?_
   refine one_ (i := 17) (N := some 36) (bb 21 262143) rfl rfl (Qcf HT_.out (by kernel_rfl)) (by decide) (fun K hK => ?_)
   refine value_ (w1 := ?_) (v := ?_) (by rfl) rfl ?_ ?_
   rotate_left 2
   ·go_simp
    constructor
    ·rfl
    ·rfl
   refine hK.out _ _ ⟨(Qbh (Qbq dK.out _) 0).trans rfl, (Qbh (Qbq dK.out _) 1).trans rfl, (Qbh (Qbq dK.out _) 2).trans rfl, (Qbh (Qbq dK.out _) 3).trans rfl, (Qbh (Qbq cV.out _) 0).trans rfl, (Qbh (Qbq cV.out _) 1).trans rfl, (Qbh (Qbq cV.out _) 2).trans rfl, (Qbh (Qbq cV.out _) 3).trans rfl, (World.cell?_alloc_lt _ _ _ (World.block_lt_of_cell? _ _ ((cl HB hw492_0)))).trans ((cl HB hw492_0)), (World.cell?_alloc_lt _ _ _ (World.block_lt_of_cell? _ _ ((cl HB hw492_1)))).trans ((cl HB hw492_1)), (World.cell?_alloc_lt _ _ _ (World.block_lt_of_cell? _ _ ((cl HB hw492_2)))).trans ((cl HB hw492_2)), (World.cell?_alloc_lt _ _ _ (World.block_lt_of_cell? _ _ ((cl HB hw492_3)))).trans ((cl HB hw492_3)), (World.cell?_alloc_lt _ _ _ (World.block_lt_of_cell? _ _ ((cl HB hw492_4)))).trans ((cl HB hw492_4)), (World.cell?_alloc_lt _ _ _ (World.block_lt_of_cell? _ _ ((cl HB hw496_0)))).trans ((cl HB hw496_0)), (World.cell?_alloc_lt _ _ _ (World.block_lt_of_cell? _ _ ((cl HB hw496_1)))).trans ((cl HB hw496_1)), (World.cell?_alloc_lt _ _ _ (World.block_lt_of_cell? _ _ ((cl HB hw496_2)))).trans ((cl HB hw496_2)), (World.cell?_alloc_lt _ _ _ (World.block_lt_of_cell? _ _ ((cl HB hw496_3)))).trans ((cl HB hw496_3)), (World.cell?_alloc_lt _ _ _ (World.block_lt_of_cell? _ _ ((cl HB hw496_4)))).trans ((cl HB hw496_4))⟩ (fun aA => ?_)
   clear hK K
   refine Qbz (a' := ?_) ?_ ?_
   rotate_left
   ·show Act.put _ (some 36) _ = _
    simp only [Act.put, sL1, sL2, sL3, Qbo, Qbp]
    rfl
   refine one_ (i := 18) (N := some 37) (bb 21 524287) rfl rfl (Qcf HT_.out (by kernel_rfl)) (by decide) (fun K hK => ?_)
   refine Kd.S_append_step k57 (w0 := w) w.heap.size (by rfl) (.tmp 20) (.tmp 36) 25 57 (.agg #[(.slice none 0 0), (.int .i64 0), (.int .i64 0), (.int .i64 0), (.int .i64 0)]) 56 rfl Tryz.underlying25 info57 rfl (by decide) (by omega) u489003 cY (⟨y493, (⟨(Qaq l0_3 aE).f1.f0, (Qaq l0_3 aE).f1.f1, (Qaq l0_3 aE).f1.f2, (Qaq l0_3 aE).f1.f3⟩ : S37)⟩ : S57) [.slice Ao21 y493.length co21, .int .i64 ((Qaq l0_3 aE).f1.f0), .int .i64 ((Qaq l0_3 aE).f1.f1), .int .i64 ((Qaq l0_3 aE).f1.f2), .int .i64 ((Qaq l0_3 aE).f1.f3)] (fun _ => True) (fun k_ => some k_ = (.slice Ao21 y493.length co21 : Value).ownBlock) rfl rfl ?aP (fun k_ hk_ => ((Kd.R_mono (ok' := fun k_ => ((fun _ => True)) k_ ∧ some k_ ≠ (u489003 : Value).ownBlock) (Kd.R_apart' (O495.out) (Kd.S_typed cG.out) (by decide)) (fun k_ hk => ⟨trivial, hk.2⟩))).1 k_ hk_.symm) ?aF ?aO ?aB ?aS ?aL ?_
   (case aP => exact k57_mkM _ _ _ (⟨y493, (⟨(Qaq l0_3 aE).f1.f0, (Qaq l0_3 aE).f1.f1, (Qaq l0_3 aE).f1.f2, (Qaq l0_3 aE).f1.f3⟩ : S37)⟩ : S57) (Kd.R_mono (Kd.R_tight rfl (Kd.R_mono (ok' := fun k_ => ((fun _ => True)) k_ ∧ some k_ ≠ (u489003 : Value).ownBlock) (Kd.R_apart' (O495.out) (Kd.S_typed cG.out) (by decide)) (fun k_ hk => ⟨trivial, hk.2⟩))) (fun _ h_ => h_)))
   (case aB => exact (BU HB.out))
   (case aF => exact (fun _ _ => trivial))
   (case aO => exact (SU (Kd.S_mono cG.out (fun k_ hk => ⟨trivial, fun e_ => hk.2 e_⟩))))
   (case aS => exact (Qbi (BU HB.out)))
   (case aL => have := LMc13.out; omega)
   intro v498 w22 ho hb hg hat
   rw [← Ny497.out] at ho
   replace cV := As0 (Qbu (bU cV.out) hg (Kd.S_ne cG.out cV.out (by decide)))
   replace fV := As0 (Qbu (bU fV.out) hg (Kd.S_ne cG.out fV.out (by decide)))
   replace dK := As0 (Qbu (bU dK.out) hg (Kd.S_ne cG.out dK.out (by decide)))
   replace HB := As0 (hb)
   have O499 := As0 (ho)
   clear cG O495 ho hb hg hat
   obtain ⟨Ao23, co23, eo23⟩ := Kd.S_slice O499.out
   (first | subst eo23 | (injection eo23 with f1_ f2_ f3_; have f4_ := f1_.symm; have f5_ := f3_.symm; clear f1_ f2_ f3_; subst f4_; subst f5_))
   refine hK.out _ _ ⟨bc dK 0, bc dK 1, bc dK 2, bc dK 3, bc cV 0, bc cV 1, bc cV 2, bc cV 3, (cl HB hw492_0), (cl HB hw492_1), (cl HB hw492_2), (cl HB hw492_3), (cl HB hw492_4), (cl HB hw496_0), (cl HB hw496_1), (cl HB hw496_2), (cl HB hw496_3), (cl HB hw496_4)⟩ (fun aA => ?_)
   clear hK K
   refine Qbz (a' := ?_) ?_ ?_
   rotate_left
   ·show Act.put _ (some 37) _ = _
    simp only [Act.put, sL1, sL2, sL3, Qbo, Qbp]
    rfl
   refine pv HT_.out 19 38 (bb 21 1048575) ?_
   refine Qc7 (i := 20) (N := none) (bb 21 2097151) rfl rfl (Qcf HT_.out (by kernel_rfl)) (by decide) (fun K hK => ?_)
   have hs24 : w22.cell? ⟨gb488, 3, none⟩ = some (u489003) := bc dK 3
   have hfs24 := Qbj dK.out 3
   have hns24_0 := mG.out
   have hns24_1 := N487_488.out
   have hms24_0 := mF.out
   have hms24_1 := N488_487.out
   refine skip_ (w1 := ?_) (by rfl) rfl ?_ ?_
   rotate_left
   ·go_simp
    rfl
   refine hK.out _ _ ?_
   clear hK K
   refine Qch (Qcm HT_.out (by kernel_rfl)) ?_
   try go_wp2
   go_roundg k1
   case measure => have := HK1.out; omega
   case rel => exact ⟨(wrap64 (aE + 1)), (y497), (.slice Ao23 y497.length co23), eR, H', ⟨by have := HK1.out; omega⟩, ⟨SU (Kd.S_mono (Kd.S_far (p := ⟨gb488, 3, none⟩) (Kd.S_types O499.out dK.out (by decide)) (fun _ hk => hk.2) (.slice Ao23 y497.length co23)) (fun _ hk => trivial))⟩, ⟨kV cV⟩, ⟨kV fV⟩, ⟨kV dK⟩, ⟨BU HB.out⟩⟩
def Qah.l0 : Nat → Int → Int → Int → List (S39) → Int → Int → Int → List (S57) → List (List (S47)) → Int → Int → List (S39) → Int → Int → Int → List (S57) → List (List (S47)) → Option (Int × Int × (List (S39)) × Int × Int × Int × (List (S57)) × (List (List (S47))))
 | 0, _, _, _, _, _, _, _, _, _, _, _, _, _, _, _, _, _ => none
 | k + 1, x4, x501000, x501001, x501002, x501003, x501004, x501005, x501006, x501007, x514000, x514001, x514002, x514003, x514004, x514005, x514006, x514007 => if x4 < (x501007.length : Int) then ((some (([] : List (S47)) : List (S47))).bind fun y514 => (if 0 ≤ x4 then (if y514.length + (Qao x501007 x4).length < 8796093022208 then (if x514007.length < 5864062014805 then (Qah.l0 k (wrap64 (x4 + 1)) x501000 x501001 x501002 x501003 x501004 x501005 x501006 x501007 x514000 x514001 x514002 x514003 x514004 x514005 x514006 (x514007 ++ [(y514 ++ (Qao x501007 x4))])) else (none)) else (none)) else (none))) else (some (x514000, x514001, x514002, x514003, x514004, x514005, x514006, x514007))
def Qah.f (k : Nat) (a0_0 a0_1 : Int) (l0_2 : List (S39)) (a0_3 a0_4 a0_5 : Int) (l0_6 : List (S57)) (l0_7 : List (List (S47))) : Option (Int × Int × (List (S39)) × Int × Int × Int × (List (S57)) × (List (List (S47)))) := (Qar.f k a0_0 a0_1 l0_2).bind fun bt502 => ((Qap.f k a0_3 a0_4 a0_5 l0_6).bind fun bt507 => (Qah.l0 k 0 a0_0 a0_1 l0_2 a0_3 a0_4 a0_5 l0_6 l0_7 bt502.1 bt502.2.1 bt502.2.2 bt507.1 bt507.2.1 bt507.2.2.1 bt507.2.2.2 ([] : List (List (S47)))))
def Qah.T1 : Bool × List (List Nat × List Nat) := (true, [([], []), ([0], [0]), ([1], [1]), ([], []), ([3], [3]), ([4, 2], [4]), ([2, 5], [2, 5]), ([], []), ([7, 6, 5, 0, 1, 2, 3, 4, 5, 6, 7], [6, 7])])
def Qah.B1 : List Nat := [0, 1, 3, 0, 8, 31, 63, 0, 255]
theorem Qah.tab1 : rtab .any (opsOf Tryz.f10 1) = Qah.T1 := by kernel_rfl
theorem Qah.bits1 : Qco Qah.T1.2 Qah.B1 = true := by kernel_rfl
def Qah.T5 : Bool × List (List Nat × List Nat) := (true, [([], []), ([0], [0]), ([], []), ([], []), ([3], [3]), ([], []), ([4, 5], [4, 5]), ([6], [6]), ([2, 7], [2, 7]), ([8], [8]), ([1, 9, 8], [1, 9]), ([0, 1, 2, 3, 4, 5, 6, 7, 8, 9, 10], []), ([11, 10, 10, 0, 1, 2, 3, 4, 5, 6, 7, 8, 9, 10], [10, 11])])
def Qah.B5 : List Nat := [0, 1, 0, 0, 8, 0, 56, 120, 252, 508, 1023, 2047, 4095]
theorem Qah.tab5 : rtab .any (opsOf Tryz.f10 5) = Qah.T5 := by kernel_rfl
theorem Qah.bits5 : Qco Qah.T5.2 Qah.B5 = true := by kernel_rfl
theorem Qah.calls (k : Nat) (a0_0 a0_1 : Int) (A0_2 : Option Addr) (c0_2 : Nat) (l0_2 : List (S39)) (a0_3 a0_4 a0_5 : Int) (A0_6 : Option Addr) (c0_6 : Nat) (l0_6 : List (S57)) (A0_7 : Option Addr) (c0_7 : Nat) (l0_7 : List (List (S47))) (r1 r2 : Int) (r3 : List (S39)) (r4 r5 r6 : Int) (r7 : List (S57)) (r8 : List (List (S47))) (w : World) (hr0_2 : Kd.C k39 w A0_2 l0_2.length l0_2) (hc0_2 : l0_2.length ≤ c0_2) (hr0_6 : Kd.C k57 w A0_6 l0_6.length l0_6) (hc0_6 : l0_6.length ≤ c0_6) (hr0_7 : Kd.C (Kd.slice 47 k47) w A0_7 l0_7.length l0_7) (hc0_7 : l0_7.length ≤ c0_7) (h : Qah.f k a0_0 a0_1 l0_2 a0_3 a0_4 a0_5 l0_6 l0_7 = some (r1, r2, r3, r4, r5, r6, r7, r8)) :
 Calls Tryz.prog 10 #[.agg #[.int .i64 a0_0, .int .i64 a0_1, .slice A0_2 l0_2.length c0_2, .int .i64 a0_3, .int .i64 a0_4, .int .i64 a0_5, .slice A0_6 l0_6.length c0_6, .slice A0_7 l0_7.length c0_7]] w fun e w' => ∃ v2_ v6_ v7_ : Value, e = .returned (.agg #[.int .i64 r1, .int .i64 r2, v2_, .int .i64 r4, .int .i64 r5, .int .i64 r6, v6_, v7_]) ∧ Kd.S k39 39 w' w.heap.size (fun _ => True) v2_ r3 ∧ Kd.S k57 57 w' w.heap.size (fun _ => True) v6_ r7 ∧ Kd.S (Kd.slice 47 k47) 44 w' w.heap.size (fun _ => True) v7_ r8 ∧ Below w.heap.size w w' := by
 have hu30 := Tryz.underlying30
 have hu24 := Tryz.underlying24
 have hu27 := Tryz.underlying27
 have R0_2 := As0 hr0_2
 have C0_2 := As0 hc0_2
 clear hr0_2 hc0_2
 have R0_6 := As0 hr0_6
 have C0_6 := As0 hc0_6
 clear hr0_6 hc0_6
 have R0_7 := As0 hr0_7
 have C0_7 := As0 hc0_7
 clear hr0_7 hc0_7
 have HB := As0 (Below.refl w.heap.size w)
 have H : ((Qar.f k a0_0 a0_1 l0_2).bind fun bt502 => ((Qap.f k a0_3 a0_4 a0_5 l0_6).bind fun bt507 => (Qah.l0 k 0 a0_0 a0_1 l0_2 a0_3 a0_4 a0_5 l0_6 l0_7 bt502.1 bt502.2.1 bt502.2.2 bt507.1 bt507.2.1 bt507.2.2.1 bt507.2.2.2 ([] : List (List (S47)))))) = some (r1, r2, r3, r4, r5, r6, r7, r8) := h
 clear h
 replace H := Option.bind_eq_some_iff.mp H
 obtain ⟨⟨jF, iZ, fU⟩, A20, H⟩ := H
 have A2 := As0 A20
 clear A20
 replace H := Option.bind_eq_some_iff.mp H
 obtain ⟨⟨iJ, iI, iH, fM⟩, A30, H⟩ := H
 have A3 := As0 A30
 clear A30
 have H' := As0 H
 clear H
 go_enter Tryz.func10, Tryz.ntmps10
 try go_wp2_with (first | ((with_reducible refine gD 1 ?_); refine bY HB.out ?_; intro cF w4 hg hb aH GW500 HB; clear hb hg) | ((with_reducible refine gD 2 ?_); refine bY HB.out ?_; intro cQ w5 hg hb cR GW501 HB; have N500_501 := nL hg aH; have N501_500 := nR hg aH; replace aH := kB aH hb; clear hb hg))
 replace aH := As0 (Qbm aH.out)
 replace cR := As0 (Qbm cR.out)
 replace HB := As0 (bd1 HB.out)
 refine Qb1 (n := 9) (S := fun w' => w'.cell? ⟨cF, 0, none⟩ = some (.int .i64 a0_0) ∧ w'.cell? ⟨cF, 1, none⟩ = some (.int .i64 a0_1) ∧ w'.cell? ⟨cF, 2, none⟩ = some (.slice A0_2 l0_2.length c0_2) ∧ w'.cell? ⟨cF, 3, none⟩ = some (.int .i64 a0_3) ∧ w'.cell? ⟨cF, 4, none⟩ = some (.int .i64 a0_4) ∧ w'.cell? ⟨cF, 5, none⟩ = some (.int .i64 a0_5) ∧ w'.cell? ⟨cF, 6, none⟩ = some (.slice A0_6 l0_6.length c0_6) ∧ w'.cell? ⟨cF, 7, none⟩ = some (.slice A0_7 l0_7.length c0_7)) (ds := []) (bb 9 0) (by kernel_rfl) rfl rfl ⟨bc aH 0, bc aH 1, bc aH 2, bc aH 3, bc aH 4, bc aH 5, bc aH 6, bc aH 7⟩ (fun aA => ?_); refine Qb8 Qah.tab1 Qah.bits1 (fun HT_ HW_ => ?_)
 generalize w5.drew = w6 at aH cR HB aA ⊢
 refine pv HT_.out 0 5 (bb 9 1) ?_
 refine pv HT_.out 3 8 (bb 9 9) ?_
 refine tv aA HT_.out HW_.out 1 6 (bb 9 11) ?_
 refine tv aA HT_.out HW_.out 4 9 (bb 9 27) ?_
 refine join_ (σ := Value × Value × Nat) 1 (bb 9 255) (fun s_ => [(7, .agg #[.int .i64 jF, .int .i64 iZ, s_.1]), (10, .agg #[.int .i64 iJ, .int .i64 iI, .int .i64 iH, s_.2.1]), (3, .pointer (some ⟨s_.2.2, 0, none⟩)), (11, .agg #[.int .i64 jF, .int .i64 iZ, s_.1, .int .i64 iJ, .int .i64 iI, .int .i64 iH, s_.2.1, .slice none 0 0])]) (fun s_ w' => (w'.cell? ⟨cF, 0, none⟩ = some (.int .i64 a0_0) ∧ w'.cell? ⟨cF, 1, none⟩ = some (.int .i64 a0_1) ∧ w'.cell? ⟨cF, 2, none⟩ = some (.slice A0_2 l0_2.length c0_2) ∧ w'.cell? ⟨cF, 3, none⟩ = some (.int .i64 a0_3) ∧ w'.cell? ⟨cF, 4, none⟩ = some (.int .i64 a0_4) ∧ w'.cell? ⟨cF, 5, none⟩ = some (.int .i64 a0_5) ∧ w'.cell? ⟨cF, 6, none⟩ = some (.slice A0_6 l0_6.length c0_6) ∧ w'.cell? ⟨cF, 7, none⟩ = some (.slice A0_7 l0_7.length c0_7)) ∧ (Kd.S k39 39 w' w.heap.size (fun _ => True) s_.1 fU) ∧ (Kd.S k57 57 w' w.heap.size (fun _ => True) s_.2.1 fM) ∧ (w'.heap[cF]? = some (.cells #[.int .i64 a0_0, .int .i64 a0_1, .slice A0_2 l0_2.length c0_2, .int .i64 a0_3, .int .i64 a0_4, .int .i64 a0_5, .slice A0_6 l0_6.length c0_6, .slice A0_7 l0_7.length c0_7] 30 (0, 0))) ∧ (w'.heap[cQ]? = some (.cells #[.int .i64 0, .int .i64 0, .slice none 0 0, .int .i64 0, .int .i64 0, .int .i64 0, .slice none 0 0, .slice none 0 0] 30 (0, 0))) ∧ (w'.heap[s_.2.2]? = some (.cells #[.int .i64 0, .int .i64 0, .slice none 0 0, .int .i64 0, .int .i64 0, .int .i64 0, .slice none 0 0, .slice none 0 0] 30 (0, 0))) ∧ (w.heap.size ≤ s_.2.2) ∧ (w.heap.size ≤ s_.2.2) ∧ (cF ≠ s_.2.2) ∧ (s_.2.2 ≠ cF) ∧ (cQ ≠ s_.2.2) ∧ (s_.2.2 ≠ cQ) ∧ (Below w.heap.size w w')) ?_ ?_
 rotate_left
 ·intro hCont
  refine two_ (i := 2) (j := 7) (Ni := some 7) (Nj := some 3) (bb 9 31) (bb 9 155) rfl rfl rfl rfl (two_of HT_.out (by kernel_rfl)) (by decide) (by decide) (fun K hK => ?_) (fun K hK => ?_)
  ·skip
   refine gG Tryz.func28 #[.agg #[.int .i64 a0_0, .int .i64 a0_1, .slice A0_2 l0_2.length c0_2]] ?_
   with_reducible refine (Qar.calls k a0_0 a0_1 _ _ l0_2 jF iZ fU _ ?side1 ?side2 A2.out).mono ?_
   (case side1 => exact CU (Kd.C_below R0_2.out HB.out))
   (case side2 => exact C0_2.out)
   rintro e w7 ⟨v505, rfl, ho0, hb⟩
   refine ⟨_, rfl, ?_⟩
   have fZ := As0 (Kd.S_lower ho0 (Qbi (BU HB.out)))
   replace aH := kB aH hb
   replace cR := kB cR hb
   replace HB := sB HB hb
   (try clear hb)
   (try clear hb2)
   (try clear hk)
   (try clear hi)
   (try clear ho0)
   refine hK.out _ _ ⟨bc aH 0, bc aH 1, bc aH 2, bc aH 3, bc aH 4, bc aH 5, bc aH 6, bc aH 7⟩ (fun aA => ?_)
   clear hK K
   refine Qbz (a' := ?_) ?_ ?_
   rotate_left
   ·show Act.put _ (some 7) _ = _
    simp only [Act.put, sL1, sL2, sL3, Qbo, Qbp]
    rfl
   refine two_ (i := 5) (j := 7) (Ni := some 10) (Nj := some 3) (bb 9 63) (bb 9 159) rfl rfl rfl rfl (two_of HT_.out (by kernel_rfl)) (by decide) (by decide) (fun K hK => ?_) (fun K hK => ?_)
   ·skip
    refine gG Tryz.func29 #[.agg #[.int .i64 a0_3, .int .i64 a0_4, .int .i64 a0_5, .slice A0_6 l0_6.length c0_6]] ?_
    with_reducible refine (Qap.calls k a0_3 a0_4 a0_5 _ _ l0_6 iJ iI iH fM _ ?side1 ?side2 A3.out).mono ?_
    (case side1 => exact CU (Kd.C_below R0_6.out HB.out))
    (case side2 => exact C0_6.out)
    rintro e w8 ⟨v511, rfl, ho0, hb⟩
    refine ⟨_, rfl, ?_⟩
    replace fZ := As0 (Kd.S_below (SU fZ.out) hb)
    have O512 := As0 (Kd.S_lower ho0 (Qbi (BU HB.out)))
    replace aH := kB aH hb
    replace cR := kB cR hb
    replace HB := sB HB hb
    (try clear hb)
    (try clear hb2)
    (try clear hk)
    (try clear hi)
    (try clear ho0)
    obtain ⟨Ao9, co9, eo9⟩ := Kd.S_slice O512.out
    (first | subst eo9 | (injection eo9 with f1_ f2_ f3_; have f4_ := f1_.symm; have f5_ := f3_.symm; clear f1_ f2_ f3_; subst f4_; subst f5_))
    obtain ⟨Ao10, co10, eo10⟩ := Kd.S_slice fZ.out
    (first | subst eo10 | (injection eo10 with f1_ f2_ f3_; have f4_ := f1_.symm; have f5_ := f3_.symm; clear f1_ f2_ f3_; subst f4_; subst f5_))
    refine hK.out _ _ ⟨bc aH 0, bc aH 1, bc aH 2, bc aH 3, bc aH 4, bc aH 5, bc aH 6, bc aH 7⟩ (fun aA => ?_)
    clear hK K
    refine Qbz (a' := ?_) ?_ ?_
    rotate_left
    ·show Act.put _ (some 10) _ = _
     simp only [Act.put, sL1, sL2, sL3, Qbo, Qbp]
     rfl
    refine pv HT_.out 6 11 (bb 9 127) ?_
    refine one_ (i := 7) (N := some 3) (bb 9 255) rfl rfl (Qcf HT_.out (by kernel_rfl)) (by decide) (fun K hK => ?_)
    refine box_step ?hg (N := 3) ?hd (cs := #[.int .i64 0, .int .i64 0, .slice none 0 0, .int .i64 0, .int .i64 0, .int .i64 0, .slice none 0 0, .slice none 0 0]) (t := 30) ?hr ?_; (case hd => rfl); (case hg => rfl); (case hr => first | (go_simp; done) | (go_simp; rfl))
    intro aG hg w11 aC hb
    replace fZ := As0 (Kd.S_below (SU fZ.out) hb)
    replace O512 := As0 (Kd.S_below (SU O512.out) hb)
    have aU := As0 (aC)
    have GW513 := gW hg HB.out
    have GE513 := gW hg HB.out
    replace HB := sB HB hb
    have aD := nL hg aH
    have cK := nR hg aH
    replace aH := kB aH hb
    have cP := nL hg cR
    have cO := nR hg cR
    replace cR := kB cR hb
    clear hb aC hg
    refine hK.out _ _ ⟨bc aH 0, bc aH 1, bc aH 2, bc aH 3, bc aH 4, bc aH 5, bc aH 6, bc aH 7⟩ (fun aA => ?_)
    clear hK K
    refine Qbz (a' := ?_) ?_ ?_
    rotate_left
    ·show Act.put _ (some 3) _ = _
     simp only [Act.put, sL1, sL2, sL3, Qbo, Qbp]
     rfl
    exact Qbz (by simp only [Qda, Act.put, sL1, sL2, sL3]) (hCont (.slice Ao10 fU.length co10, .slice Ao9 fM.length co9, aG) _ ⟨aA, (SU fZ.out), (SU O512.out), (bU aH.out), (bU cR.out), (bU aU.out), GW513.out, GE513.out, aD.out, cK.out, cP.out, cO.out, (BU HB.out)⟩)
   ·skip
    refine box_step ?hg (N := 3) ?hd (cs := #[.int .i64 0, .int .i64 0, .slice none 0 0, .int .i64 0, .int .i64 0, .int .i64 0, .slice none 0 0, .slice none 0 0]) (t := 30) ?hr ?_; (case hd => rfl); (case hg => rfl); (case hr => first | (go_simp; done) | (go_simp; rfl))
    intro aG hg w8 aC hb
    replace fZ := As0 (Kd.S_below (SU fZ.out) hb)
    have aU := As0 (aC)
    have GW513 := gW hg HB.out
    have GE513 := gW hg HB.out
    replace HB := sB HB hb
    have aD := nL hg aH
    have cK := nR hg aH
    replace aH := kB aH hb
    have cP := nL hg cR
    have cO := nR hg cR
    replace cR := kB cR hb
    clear hb aC hg
    refine hK.out _ _ ⟨bc aH 0, bc aH 1, bc aH 2, bc aH 3, bc aH 4, bc aH 5, bc aH 6, bc aH 7⟩ (fun aA => ?_)
    clear hK K
    refine Qbz (a' := ?_) ?_ ?_
    rotate_left
    ·show Act.put _ (some 3) _ = _
     simp only [Act.put, sL1, sL2, sL3, Qbo, Qbp]
     rfl
    refine one_ (i := 5) (N := some 10) (bb 9 191) rfl rfl (Qcf HT_.out (by kernel_rfl)) (by decide) (fun K hK => ?_)
    refine gG Tryz.func29 #[.agg #[.int .i64 a0_3, .int .i64 a0_4, .int .i64 a0_5, .slice A0_6 l0_6.length c0_6]] ?_
    with_reducible refine (Qap.calls k a0_3 a0_4 a0_5 _ _ l0_6 iJ iI iH fM _ ?side1 ?side2 A3.out).mono ?_
    (case side1 => exact CU (Kd.C_below R0_6.out HB.out))
    (case side2 => exact C0_6.out)
    rintro e w9 ⟨v511, rfl, ho0, hb⟩
    refine ⟨_, rfl, ?_⟩
    replace fZ := As0 (Kd.S_below (SU fZ.out) hb)
    have O512 := As0 (Kd.S_lower ho0 (Qbi (BU HB.out)))
    replace aH := kB aH hb
    replace cR := kB cR hb
    replace aU := kB aU hb
    replace HB := sB HB hb
    (try clear hb)
    (try clear hb2)
    (try clear hk)
    (try clear hi)
    (try clear ho0)
    obtain ⟨Ao10, co10, eo10⟩ := Kd.S_slice O512.out
    (first | subst eo10 | (injection eo10 with f1_ f2_ f3_; have f4_ := f1_.symm; have f5_ := f3_.symm; clear f1_ f2_ f3_; subst f4_; subst f5_))
    obtain ⟨Ao11, co11, eo11⟩ := Kd.S_slice fZ.out
    (first | subst eo11 | (injection eo11 with f1_ f2_ f3_; have f4_ := f1_.symm; have f5_ := f3_.symm; clear f1_ f2_ f3_; subst f4_; subst f5_))
    refine hK.out _ _ ⟨bc aH 0, bc aH 1, bc aH 2, bc aH 3, bc aH 4, bc aH 5, bc aH 6, bc aH 7⟩ (fun aA => ?_)
    clear hK K
    refine Qbz (a' := ?_) ?_ ?_
    rotate_left
    ·show Act.put _ (some 10) _ = _
     simp only [Act.put, sL1, sL2, sL3, Qbo, Qbp]
     rfl
    refine pv HT_.out 6 11 (bb 9 255) ?_
    exact Qbz (by simp only [Qda, Act.put, sL1, sL2, sL3]) (hCont (.slice Ao11 fU.length co11, .slice Ao10 fM.length co10, aG) _ ⟨aA, (SU fZ.out), (SU O512.out), (bU aH.out), (bU cR.out), (bU aU.out), GW513.out, GE513.out, aD.out, cK.out, cP.out, cO.out, (BU HB.out)⟩)
  ·skip
   refine box_step ?hg (N := 3) ?hd (cs := #[.int .i64 0, .int .i64 0, .slice none 0 0, .int .i64 0, .int .i64 0, .int .i64 0, .slice none 0 0, .slice none 0 0]) (t := 30) ?hr ?_; (case hd => rfl); (case hg => rfl); (case hr => first | (go_simp; done) | (go_simp; rfl))
   intro aG hg w7 aC hb
   have aU := As0 (aC)
   have GW513 := gW hg HB.out
   have GE513 := gW hg HB.out
   replace HB := sB HB hb
   have aD := nL hg aH
   have cK := nR hg aH
   replace aH := kB aH hb
   have cP := nL hg cR
   have cO := nR hg cR
   replace cR := kB cR hb
   clear hb aC hg
   refine hK.out _ _ ⟨bc aH 0, bc aH 1, bc aH 2, bc aH 3, bc aH 4, bc aH 5, bc aH 6, bc aH 7⟩ (fun aA => ?_)
   clear hK K
   refine Qbz (a' := ?_) ?_ ?_
   rotate_left
   ·show Act.put _ (some 3) _ = _
    simp only [Act.put, sL1, sL2, sL3, Qbo, Qbp]
    rfl
   refine one_ (i := 2) (N := some 7) (bb 9 159) rfl rfl (Qcf HT_.out (by kernel_rfl)) (by decide) (fun K hK => ?_)
   refine gG Tryz.func28 #[.agg #[.int .i64 a0_0, .int .i64 a0_1, .slice A0_2 l0_2.length c0_2]] ?_
   with_reducible refine (Qar.calls k a0_0 a0_1 _ _ l0_2 jF iZ fU _ ?side1 ?side2 A2.out).mono ?_
   (case side1 => exact CU (Kd.C_below R0_2.out HB.out))
   (case side2 => exact C0_2.out)
   rintro e w8 ⟨v505, rfl, ho0, hb⟩
   refine ⟨_, rfl, ?_⟩
   have fZ := As0 (Kd.S_lower ho0 (Qbi (BU HB.out)))
   replace aH := kB aH hb
   replace cR := kB cR hb
   replace aU := kB aU hb
   replace HB := sB HB hb
   (try clear hb)
   (try clear hb2)
   (try clear hk)
   (try clear hi)
   (try clear ho0)
   refine hK.out _ _ ⟨bc aH 0, bc aH 1, bc aH 2, bc aH 3, bc aH 4, bc aH 5, bc aH 6, bc aH 7⟩ (fun aA => ?_)
   clear hK K
   refine Qbz (a' := ?_) ?_ ?_
   rotate_left
   ·show Act.put _ (some 7) _ = _
    simp only [Act.put, sL1, sL2, sL3, Qbo, Qbp]
    rfl
   refine one_ (i := 5) (N := some 10) (bb 9 191) rfl rfl (Qcf HT_.out (by kernel_rfl)) (by decide) (fun K hK => ?_)
   refine gG Tryz.func29 #[.agg #[.int .i64 a0_3, .int .i64 a0_4, .int .i64 a0_5, .slice A0_6 l0_6.length c0_6]] ?_
   with_reducible refine (Qap.calls k a0_3 a0_4 a0_5 _ _ l0_6 iJ iI iH fM _ ?side1 ?side2 A3.out).mono ?_
   (case side1 => exact CU (Kd.C_below R0_6.out HB.out))
   (case side2 => exact C0_6.out)
   rintro e w9 ⟨v511, rfl, ho0, hb⟩
   refine ⟨_, rfl, ?_⟩
   replace fZ := As0 (Kd.S_below (SU fZ.out) hb)
   have O512 := As0 (Kd.S_lower ho0 (Qbi (BU HB.out)))
   replace aH := kB aH hb
   replace cR := kB cR hb
   replace aU := kB aU hb
   replace HB := sB HB hb
   (try clear hb)
   (try clear hb2)
   (try clear hk)
   (try clear hi)
   (try clear ho0)
   obtain ⟨Ao10, co10, eo10⟩ := Kd.S_slice O512.out
   (first | subst eo10 | (injection eo10 with f1_ f2_ f3_; have f4_ := f1_.symm; have f5_ := f3_.symm; clear f1_ f2_ f3_; subst f4_; subst f5_))
   obtain ⟨Ao11, co11, eo11⟩ := Kd.S_slice fZ.out
   (first | subst eo11 | (injection eo11 with f1_ f2_ f3_; have f4_ := f1_.symm; have f5_ := f3_.symm; clear f1_ f2_ f3_; subst f4_; subst f5_))
   refine hK.out _ _ ⟨bc aH 0, bc aH 1, bc aH 2, bc aH 3, bc aH 4, bc aH 5, bc aH 6, bc aH 7⟩ (fun aA => ?_)
   clear hK K
   refine Qbz (a' := ?_) ?_ ?_
   rotate_left
   ·show Act.put _ (some 10) _ = _
    simp only [Act.put, sL1, sL2, sL3, Qbo, Qbp]
    rfl
   refine pv HT_.out 6 11 (bb 9 255) ?_
   exact Qbz (by simp only [Qda, Act.put, sL1, sL2, sL3]) (hCont (.slice Ao11 fU.length co11, .slice Ao10 fM.length co10, aG) _ ⟨aA, (SU fZ.out), (SU O512.out), (bU aH.out), (bU cR.out), (bU aU.out), GW513.out, GE513.out, aD.out, cK.out, cP.out, cO.out, (BU HB.out)⟩)
 rintro ⟨v505, v511, aG⟩ w12 ⟨hS_, h0_, h1_, h2_, h3_, h4_, h5_, h6_, h7_, h8_, h9_, h10_, h11_⟩
 have fZ : Qbf (Kd.S k39 39 w12 w.heap.size (fun _ => True) v505 fU) := ⟨h0_⟩
 have O512 : Qbf (Kd.S k57 57 w12 w.heap.size (fun _ => True) v511 fM) := ⟨h1_⟩
 replace aH : Qbf (w12.heap[cF]? = some (.cells #[.int .i64 a0_0, .int .i64 a0_1, .slice A0_2 l0_2.length c0_2, .int .i64 a0_3, .int .i64 a0_4, .int .i64 a0_5, .slice A0_6 l0_6.length c0_6, .slice A0_7 l0_7.length c0_7] 30 (0, 0))) := ⟨h2_⟩
 replace cR : Qbf (w12.heap[cQ]? = some (.cells #[.int .i64 0, .int .i64 0, .slice none 0 0, .int .i64 0, .int .i64 0, .int .i64 0, .slice none 0 0, .slice none 0 0] 30 (0, 0))) := ⟨h3_⟩
 have aU : Qbf (w12.heap[aG]? = some (.cells #[.int .i64 0, .int .i64 0, .slice none 0 0, .int .i64 0, .int .i64 0, .int .i64 0, .slice none 0 0, .slice none 0 0] 30 (0, 0))) := ⟨h4_⟩
 have GW513 : Qbf (w.heap.size ≤ aG) := ⟨h5_⟩
 have GE513 : Qbf (w.heap.size ≤ aG) := ⟨h6_⟩
 have aD : Qbf (cF ≠ aG) := ⟨h7_⟩
 have cK : Qbf (aG ≠ cF) := ⟨h8_⟩
 have cP : Qbf (cQ ≠ aG) := ⟨h9_⟩
 have cO : Qbf (aG ≠ cQ) := ⟨h10_⟩
 replace HB : Qbf (Below w.heap.size w w12) := ⟨h11_⟩
 clear h0_ h1_ h2_ h3_ h4_ h5_ h6_ h7_ h8_ h9_ h10_ h11_
 have aA : w12.cell? ⟨cF, 0, none⟩ = some (.int .i64 a0_0) ∧ w12.cell? ⟨cF, 1, none⟩ = some (.int .i64 a0_1) ∧ w12.cell? ⟨cF, 2, none⟩ = some (.slice A0_2 l0_2.length c0_2) ∧ w12.cell? ⟨cF, 3, none⟩ = some (.int .i64 a0_3) ∧ w12.cell? ⟨cF, 4, none⟩ = some (.int .i64 a0_4) ∧ w12.cell? ⟨cF, 5, none⟩ = some (.int .i64 a0_5) ∧ w12.cell? ⟨cF, 6, none⟩ = some (.slice A0_6 l0_6.length c0_6) ∧ w12.cell? ⟨cF, 7, none⟩ = some (.slice A0_7 l0_7.length c0_7) := hS_
 obtain ⟨Ao13, co13, eo13⟩ := Kd.S_slice O512.out
 (first | subst eo13 | (injection eo13 with f1_ f2_ f3_; have f4_ := f1_.symm; have f5_ := f3_.symm; clear f1_ f2_ f3_; subst f4_; subst f5_))
 obtain ⟨Ao14, co14, eo14⟩ := Kd.S_slice fZ.out
 (first | subst eo14 | (injection eo14 with f1_ f2_ f3_; have f4_ := f1_.symm; have f5_ := f3_.symm; clear f1_ f2_ f3_; subst f4_; subst f5_))
 refine Qbz (a' := ?_) ?_ ?_
 rotate_left
 ·simp only [Qda, Act.put, sL1, sL2, sL3]
  rfl
 refine one_ (i := 8) (N := none) (bb 9 511) rfl rfl (Qcf HT_.out (by kernel_rfl)) (by decide) (fun K hK => ?_)
 have hs15 : w12.cell? ⟨aG, 0, none⟩ = some (.int .i64 0) := bc aU 0
 have hfs15 := Qbj aU.out 0
 have hns15_0 := aD.out
 have hns15_1 := cP.out
 have hms15_0 := cK.out
 have hms15_1 := cO.out
 have hs16 : w12.cell? ⟨aG, 1, none⟩ = some (.int .i64 0) := bc aU 1
 have hfs16 := Qbj aU.out 1
 have hns16_0 := aD.out
 have hns16_1 := cP.out
 have hms16_0 := cK.out
 have hms16_1 := cO.out
 have hs17 : w12.cell? ⟨aG, 2, none⟩ = some (.slice none 0 0) := bc aU 2
 have hfs17 := Qbj aU.out 2
 have hns17_0 := aD.out
 have hns17_1 := cP.out
 have hms17_0 := cK.out
 have hms17_1 := cO.out
 have hs18 : w12.cell? ⟨aG, 3, none⟩ = some (.int .i64 0) := bc aU 3
 have hfs18 := Qbj aU.out 3
 have hns18_0 := aD.out
 have hns18_1 := cP.out
 have hms18_0 := cK.out
 have hms18_1 := cO.out
 have hs19 : w12.cell? ⟨aG, 4, none⟩ = some (.int .i64 0) := bc aU 4
 have hfs19 := Qbj aU.out 4
 have hns19_0 := aD.out
 have hns19_1 := cP.out
 have hms19_0 := cK.out
 have hms19_1 := cO.out
 have hs20 : w12.cell? ⟨aG, 5, none⟩ = some (.int .i64 0) := bc aU 5
 have hfs20 := Qbj aU.out 5
 have hns20_0 := aD.out
 have hns20_1 := cP.out
 have hms20_0 := cK.out
 have hms20_1 := cO.out
 have hs21 : w12.cell? ⟨aG, 6, none⟩ = some (.slice none 0 0) := bc aU 6
 have hfs21 := Qbj aU.out 6
 have hns21_0 := aD.out
 have hns21_1 := cP.out
 have hms21_0 := cK.out
 have hms21_1 := cO.out
 have hs22 : w12.cell? ⟨aG, 7, none⟩ = some (.slice none 0 0) := bc aU 7
 have hfs22 := Qbj aU.out 7
 have hns22_0 := aD.out
 have hns22_1 := cP.out
 have hms22_0 := cK.out
 have hms22_1 := cO.out
 refine skip_ (w1 := ?_) (by rfl) rfl ?_ ?_
 rotate_left
 ·go_simp
  rfl
 refine hK.out _ _ ⟨((Qbl (p := ⟨aG, _, none⟩) aD.out _).trans (((Qbl (p := ⟨aG, _, none⟩) aD.out _).trans (((Qbl (p := ⟨aG, _, none⟩) aD.out _).trans (((Qbl (p := ⟨aG, _, none⟩) aD.out _).trans (((Qbl (p := ⟨aG, _, none⟩) aD.out _).trans (((Qbl (p := ⟨aG, _, none⟩) aD.out _).trans (((Qbl (p := ⟨aG, _, none⟩) aD.out _).trans (((Qbl (p := ⟨aG, _, none⟩) aD.out _).trans (aA.1)))))))))))))))), ((Qbl (p := ⟨aG, _, none⟩) aD.out _).trans (((Qbl (p := ⟨aG, _, none⟩) aD.out _).trans (((Qbl (p := ⟨aG, _, none⟩) aD.out _).trans (((Qbl (p := ⟨aG, _, none⟩) aD.out _).trans (((Qbl (p := ⟨aG, _, none⟩) aD.out _).trans (((Qbl (p := ⟨aG, _, none⟩) aD.out _).trans (((Qbl (p := ⟨aG, _, none⟩) aD.out _).trans (((Qbl (p := ⟨aG, _, none⟩) aD.out _).trans (aA.2.1)))))))))))))))), ((Qbl (p := ⟨aG, _, none⟩) aD.out _).trans (((Qbl (p := ⟨aG, _, none⟩) aD.out _).trans (((Qbl (p := ⟨aG, _, none⟩) aD.out _).trans (((Qbl (p := ⟨aG, _, none⟩) aD.out _).trans (((Qbl (p := ⟨aG, _, none⟩) aD.out _).trans (((Qbl (p := ⟨aG, _, none⟩) aD.out _).trans (((Qbl (p := ⟨aG, _, none⟩) aD.out _).trans (((Qbl (p := ⟨aG, _, none⟩) aD.out _).trans (aA.2.2.1)))))))))))))))), ((Qbl (p := ⟨aG, _, none⟩) aD.out _).trans (((Qbl (p := ⟨aG, _, none⟩) aD.out _).trans (((Qbl (p := ⟨aG, _, none⟩) aD.out _).trans (((Qbl (p := ⟨aG, _, none⟩) aD.out _).trans (((Qbl (p := ⟨aG, _, none⟩) aD.out _).trans (((Qbl (p := ⟨aG, _, none⟩) aD.out _).trans (((Qbl (p := ⟨aG, _, none⟩) aD.out _).trans (((Qbl (p := ⟨aG, _, none⟩) aD.out _).trans (aA.2.2.2.1)))))))))))))))), ((Qbl (p := ⟨aG, _, none⟩) aD.out _).trans (((Qbl (p := ⟨aG, _, none⟩) aD.out _).trans (((Qbl (p := ⟨aG, _, none⟩) aD.out _).trans (((Qbl (p := ⟨aG, _, none⟩) aD.out _).trans (((Qbl (p := ⟨aG, _, none⟩) aD.out _).trans (((Qbl (p := ⟨aG, _, none⟩) aD.out _).trans (((Qbl (p := ⟨aG, _, none⟩) aD.out _).trans (((Qbl (p := ⟨aG, _, none⟩) aD.out _).trans (aA.2.2.2.2.1)))))))))))))))), ((Qbl (p := ⟨aG, _, none⟩) aD.out _).trans (((Qbl (p := ⟨aG, _, none⟩) aD.out _).trans (((Qbl (p := ⟨aG, _, none⟩) aD.out _).trans (((Qbl (p := ⟨aG, _, none⟩) aD.out _).trans (((Qbl (p := ⟨aG, _, none⟩) aD.out _).trans (((Qbl (p := ⟨aG, _, none⟩) aD.out _).trans (((Qbl (p := ⟨aG, _, none⟩) aD.out _).trans (((Qbl (p := ⟨aG, _, none⟩) aD.out _).trans (aA.2.2.2.2.2.1)))))))))))))))), ((Qbl (p := ⟨aG, _, none⟩) aD.out _).trans (((Qbl (p := ⟨aG, _, none⟩) aD.out _).trans (((Qbl (p := ⟨aG, _, none⟩) aD.out _).trans (((Qbl (p := ⟨aG, _, none⟩) aD.out _).trans (((Qbl (p := ⟨aG, _, none⟩) aD.out _).trans (((Qbl (p := ⟨aG, _, none⟩) aD.out _).trans (((Qbl (p := ⟨aG, _, none⟩) aD.out _).trans (((Qbl (p := ⟨aG, _, none⟩) aD.out _).trans (aA.2.2.2.2.2.2.1)))))))))))))))), ((Qbl (p := ⟨aG, _, none⟩) aD.out _).trans (((Qbl (p := ⟨aG, _, none⟩) aD.out _).trans (((Qbl (p := ⟨aG, _, none⟩) aD.out _).trans (((Qbl (p := ⟨aG, _, none⟩) aD.out _).trans (((Qbl (p := ⟨aG, _, none⟩) aD.out _).trans (((Qbl (p := ⟨aG, _, none⟩) aD.out _).trans (((Qbl (p := ⟨aG, _, none⟩) aD.out _).trans (((Qbl (p := ⟨aG, _, none⟩) aD.out _).trans (aA.2.2.2.2.2.2.2))))))))))))))))⟩ (fun aA => ?_)
 clear hK K
 refine Qch (Qcm HT_.out (by kernel_rfl)) ?_
 try go_wp2
 go_loopg [4] k (fun kq v4 w' => ∃ (aE : Int) (cM : List (List (S47))) (u514007 : Value), v4 = .int .i64 aE ∧ Qbf (Qah.l0 kq aE a0_0 a0_1 l0_2 a0_3 a0_4 a0_5 l0_6 l0_7 jF iZ fU iJ iI iH fM cM = some (r1, r2, r3, r4, r5, r6, r7, r8)) ∧ Qbf (kq ≤ k) ∧ Qbf (Kd.S k39 39 w' w.heap.size (fun _ => True) (.slice Ao14 fU.length co14) fU) ∧ Qbf (Kd.S k57 57 w' w.heap.size (fun _ => True) (.slice Ao13 fM.length co13) fM) ∧ Qbf (Kd.S (Kd.slice 47 k47) 44 w' w.heap.size (fun _ => True) u514007 cM) ∧ Qbf (w'.heap[cF]? = some (.cells #[.int .i64 a0_0, .int .i64 a0_1, (.slice A0_2 l0_2.length c0_2), .int .i64 a0_3, .int .i64 a0_4, .int .i64 a0_5, (.slice A0_6 l0_6.length c0_6), (.slice A0_7 l0_7.length c0_7)] 30 (0, 0))) ∧ Qbf (w'.heap[cQ]? = some (.cells #[.int .i64 0, .int .i64 0, (.slice none 0 0), .int .i64 0, .int .i64 0, .int .i64 0, (.slice none 0 0), (.slice none 0 0)] 30 (0, 0))) ∧ Qbf (w'.heap[aG]? = some (.cells #[.int .i64 jF, .int .i64 iZ, (.slice Ao14 fU.length co14), .int .i64 iJ, .int .i64 iI, .int .i64 iH, (.slice Ao13 fM.length co13), u514007] 30 (0, 0))) ∧ Qbf (Below w.heap.size w w'))
 case atStart => exact ⟨(0), (([] : List (List (S47)))), (.slice none 0 0), eR, H', ⟨Nat.le_refl _⟩, ⟨SU (Kd.S_mono (Kd.S_far (p := ⟨aG, 7, none⟩) (Kd.S_far (p := ⟨aG, 6, none⟩) (Kd.S_far (p := ⟨aG, 5, none⟩) (Kd.S_far (p := ⟨aG, 4, none⟩) (Kd.S_far (p := ⟨aG, 3, none⟩) (Kd.S_far (p := ⟨aG, 2, none⟩) (Kd.S_far (p := ⟨aG, 1, none⟩) (Kd.S_far (p := ⟨aG, 0, none⟩) (Kd.S_types fZ.out aU.out (by decide)) (fun _ hk => hk.2) (.int .i64 jF)) (fun _ hk => hk.2) (.int .i64 iZ)) (fun _ hk => hk.2) (.slice Ao14 fU.length co14)) (fun _ hk => hk.2) (.int .i64 iJ)) (fun _ hk => hk.2) (.int .i64 iI)) (fun _ hk => hk.2) (.int .i64 iH)) (fun _ hk => hk.2) (.slice Ao13 fM.length co13)) (fun _ hk => hk.2) (.slice none 0 0)) (fun _ hk => trivial))⟩, ⟨SU (Kd.S_mono (Kd.S_far (p := ⟨aG, 7, none⟩) (Kd.S_far (p := ⟨aG, 6, none⟩) (Kd.S_far (p := ⟨aG, 5, none⟩) (Kd.S_far (p := ⟨aG, 4, none⟩) (Kd.S_far (p := ⟨aG, 3, none⟩) (Kd.S_far (p := ⟨aG, 2, none⟩) (Kd.S_far (p := ⟨aG, 1, none⟩) (Kd.S_far (p := ⟨aG, 0, none⟩) (Kd.S_types O512.out aU.out (by decide)) (fun _ hk => hk.2) (.int .i64 jF)) (fun _ hk => hk.2) (.int .i64 iZ)) (fun _ hk => hk.2) (.slice Ao14 fU.length co14)) (fun _ hk => hk.2) (.int .i64 iJ)) (fun _ hk => hk.2) (.int .i64 iI)) (fun _ hk => hk.2) (.int .i64 iH)) (fun _ hk => hk.2) (.slice Ao13 fM.length co13)) (fun _ hk => hk.2) (.slice none 0 0)) (fun _ hk => trivial))⟩, ⟨by first | exact Kd.S_nil _ _ _ _ _ | exact Kd.N_nil _ _ _ _ _ | exact Kd.V_nil _ _ _ _ _ | exact Kd.Q_nil _ _ _ _ _ | exact Kd.R_nil _ _ _ _ _⟩, ⟨kV aH⟩, ⟨kV cR⟩, ⟨kV aU⟩, ⟨BU HB.out⟩⟩
 case round =>
  clear H'
  obtain ⟨aE, cM, u514007, rfl, HA, HK1, dF, dE, cA, aH, cR, aU, HB⟩ := hrel
  cases gk with
  | zero => exact absurd HA.out (by simp [Qah.l0])
  | succ k1 =>
   have H := HA.out
   clear HA
   simp only [Qah.l0] at H
   by_cases c23 : aE < (l0_7.length : Int)
   rotate_left
   ·rw [if_neg c23] at H
    have c23b0 := decide_eq_false c23
    clear c23
    simp only [Option.some.injEq, Prod.mk.injEq] at H
    obtain ⟨rfl, rfl, rfl, rfl, rfl, rfl, rfl, rfl⟩ := H
    have hnb38 := N500_501.out
    have hnc38 := N501_500.out
    have hnb39 := aD.out
    have hnc39 := cK.out
    have q40_ := cN8 aH.out
    have hnb41 := cO.out
    have hnc41 := cP.out
    have q42_ := cN8 aU.out
    have q43_ := cN8 cR.out
    obtain ⟨Ao44, co44, eo44⟩ := Kd.S_slice cA.out
    subst eo44
    go_wp2
    refine bodyPost_ret (results_cell_row rfl _ _ cQ 30 #[.int .i64 jF, .int .i64 iZ, .slice Ao14 fU.length co14, .int .i64 iJ, .int .i64 iI, .int .i64 iH, .slice Ao13 fM.length co13, .slice Ao44 cM.length co44] (0, 0) _ rfl (kV cR) Tryz.underlying30 rfl (by kernel_rfl)) rfl ?_
    exact ⟨_, _, _, by first | rfl | (simp [Qa9, Qa8] <;> rfl) | (simp [*, Qa9, Qa8] <;> rfl), by (with_reducible repeat (first | apply Kd.S_alloc | apply Kd.S_drewN | apply Kd.S_drew)); exact Kd.S_mono (Kd.S_far (p := ⟨cQ, 7, none⟩) (Kd.S_far (p := ⟨cQ, 6, none⟩) (Kd.S_far (p := ⟨cQ, 5, none⟩) (Kd.S_far (p := ⟨cQ, 4, none⟩) (Kd.S_far (p := ⟨cQ, 3, none⟩) (Kd.S_far (p := ⟨cQ, 2, none⟩) (Kd.S_far (p := ⟨cQ, 1, none⟩) (Kd.S_far (p := ⟨cQ, 0, none⟩) (Kd.S_types dF.out cR.out (by decide)) (fun _ hk => hk.2) (.int .i64 jF)) (fun _ hk => hk.2) (.int .i64 iZ)) (fun _ hk => hk.2) (.slice Ao14 fU.length co14)) (fun _ hk => hk.2) (.int .i64 iJ)) (fun _ hk => hk.2) (.int .i64 iI)) (fun _ hk => hk.2) (.int .i64 iH)) (fun _ hk => hk.2) (.slice Ao13 fM.length co13)) (fun _ hk => hk.2) (.slice Ao44 cM.length co44)) (fun _ hk => trivial), by (with_reducible repeat (first | apply Kd.S_alloc | apply Kd.S_drewN | apply Kd.S_drew)); exact Kd.S_mono (Kd.S_far (p := ⟨cQ, 7, none⟩) (Kd.S_far (p := ⟨cQ, 6, none⟩) (Kd.S_far (p := ⟨cQ, 5, none⟩) (Kd.S_far (p := ⟨cQ, 4, none⟩) (Kd.S_far (p := ⟨cQ, 3, none⟩) (Kd.S_far (p := ⟨cQ, 2, none⟩) (Kd.S_far (p := ⟨cQ, 1, none⟩) (Kd.S_far (p := ⟨cQ, 0, none⟩) (Kd.S_types dE.out cR.out (by decide)) (fun _ hk => hk.2) (.int .i64 jF)) (fun _ hk => hk.2) (.int .i64 iZ)) (fun _ hk => hk.2) (.slice Ao14 fU.length co14)) (fun _ hk => hk.2) (.int .i64 iJ)) (fun _ hk => hk.2) (.int .i64 iI)) (fun _ hk => hk.2) (.int .i64 iH)) (fun _ hk => hk.2) (.slice Ao13 fM.length co13)) (fun _ hk => hk.2) (.slice Ao44 cM.length co44)) (fun _ hk => trivial), by (with_reducible repeat (first | apply Kd.S_alloc | apply Kd.S_drewN | apply Kd.S_drew)); exact Kd.S_mono (Kd.S_far (p := ⟨cQ, 7, none⟩) (Kd.S_far (p := ⟨cQ, 6, none⟩) (Kd.S_far (p := ⟨cQ, 5, none⟩) (Kd.S_far (p := ⟨cQ, 4, none⟩) (Kd.S_far (p := ⟨cQ, 3, none⟩) (Kd.S_far (p := ⟨cQ, 2, none⟩) (Kd.S_far (p := ⟨cQ, 1, none⟩) (Kd.S_far (p := ⟨cQ, 0, none⟩) (Kd.S_types cA.out cR.out (by decide)) (fun _ hk => hk.2) (.int .i64 jF)) (fun _ hk => hk.2) (.int .i64 iZ)) (fun _ hk => hk.2) (.slice Ao14 fU.length co14)) (fun _ hk => hk.2) (.int .i64 iJ)) (fun _ hk => hk.2) (.int .i64 iI)) (fun _ hk => hk.2) (.int .i64 iH)) (fun _ hk => hk.2) (.slice Ao13 fM.length co13)) (fun _ hk => hk.2) (.slice Ao44 cM.length co44)) (fun _ hk => trivial), BU HB.out⟩
   rw [if_pos c23] at H
   have c23b0 := decide_eq_true c23
   clear c23
   obtain ⟨y514, hy514⟩ : ∃ y_ : List (S47), y_ = (([] : List (S47))) := ⟨_, rfl⟩
   replace H : (if 0 ≤ aE then (if y514.length + (Qao l0_7 aE).length < 8796093022208 then (if cM.length < 5864062014805 then (Qah.l0 k1 (wrap64 (aE + 1)) a0_0 a0_1 l0_2 a0_3 a0_4 a0_5 l0_6 l0_7 jF iZ fU iJ iI iH fM (cM ++ [(y514 ++ (Qao l0_7 aE))])) else (none)) else (none)) else (none)) = some (r1, r2, r3, r4, r5, r6, r7, r8) := by first | (rw [hy514]; exact H) | exact H
   have Ny514 := As0 hy514
   clear hy514
   by_cases c24 : 0 ≤ aE
   rotate_left
   ·rw [if_neg c24] at H
    exact absurd H (by simp)
   rw [if_pos c24] at H
   have c24b0 := decide_eq_true c24
   clear c24
   by_cases c25 : y514.length + (Qao l0_7 aE).length < 8796093022208
   rotate_left
   ·rw [if_neg c25] at H
    exact absurd H (by simp)
   rw [if_pos c25] at H
   have LMc25 := As0 c25
   clear c25
   obtain ⟨y518, hy518⟩ : ∃ y_ : List (S47), y_ = (y514 ++ (Qao l0_7 aE)) := ⟨_, rfl⟩
   replace H : (if cM.length < 5864062014805 then (Qah.l0 k1 (wrap64 (aE + 1)) a0_0 a0_1 l0_2 a0_3 a0_4 a0_5 l0_6 l0_7 jF iZ fU iJ iI iH fM (cM ++ [y518])) else (none)) = some (r1, r2, r3, r4, r5, r6, r7, r8) := by first | (rw [hy518]; exact H) | exact H
   have Ny518 := As0 hy518
   clear hy518
   by_cases c26 : cM.length < 5864062014805
   rotate_left
   ·rw [if_neg c26] at H
    exact absurd H (by simp)
   rw [if_pos c26] at H
   have LMc26 := As0 c26
   clear c26
   obtain ⟨y521, hy521⟩ : ∃ y_ : List (List (S47)), y_ = (cM ++ [y518]) := ⟨_, rfl⟩
   replace H : (Qah.l0 k1 (wrap64 (aE + 1)) a0_0 a0_1 l0_2 a0_3 a0_4 a0_5 l0_6 l0_7 jF iZ fU iJ iI iH fM y521) = some (r1, r2, r3, r4, r5, r6, r7, r8) := by first | (rw [hy521]; exact H) | exact H
   have Ny521 := As0 hy521
   clear hy521
   have H' := As0 H
   clear H
   have hnb27 := N500_501.out
   have hnc27 := N501_500.out
   have hnb28 := aD.out
   have hnc28 := cK.out
   have q29_ := cN8 aH.out
   try go_wp2
   replace dF := As0 (Kd.S_drew dF.out)
   replace dE := As0 (Kd.S_drew dE.out)
   replace cA := As0 (Kd.S_drew cA.out)
   replace aH := As0 (Qbm aH.out)
   replace cR := As0 (Qbm cR.out)
   replace aU := As0 (Qbm aU.out)
   replace HB := As0 (bd1 HB.out)
   have p517 : 0 ≤ (aE : Int) := qR
   have q517 : aE < (l0_7.length : Int) := qR
   obtain ⟨ad517, A517_0, c517_0, e517, hx517_0, hl517_0, hi517_0⟩ := Qdk R0_7.out aE p517 q517
   have hw517_0 := hx517_0
   cases e517
   replace hx517_0 := cl HB hx517_0
   have R517_0 := As0 hi517_0
   have C517_0 := As0 hl517_0
   clear hi517_0 hl517_0
   replace p517 := eq_true p517
   replace q517 := eq_true q517
   refine Qb1 (n := 13) (S := fun w' => w'.cell? ⟨aG, 0, none⟩ = some (.int .i64 jF) ∧ w'.cell? ⟨aG, 1, none⟩ = some (.int .i64 iZ) ∧ w'.cell? ⟨aG, 2, none⟩ = some (.slice Ao14 fU.length co14) ∧ w'.cell? ⟨aG, 3, none⟩ = some (.int .i64 iJ) ∧ w'.cell? ⟨aG, 4, none⟩ = some (.int .i64 iI) ∧ w'.cell? ⟨aG, 5, none⟩ = some (.int .i64 iH) ∧ w'.cell? ⟨aG, 6, none⟩ = some (.slice Ao13 fM.length co13) ∧ w'.cell? ⟨aG, 7, none⟩ = some (u514007) ∧ w'.cell? ⟨cF, 0, none⟩ = some (.int .i64 a0_0) ∧ w'.cell? ⟨cF, 1, none⟩ = some (.int .i64 a0_1) ∧ w'.cell? ⟨cF, 2, none⟩ = some (.slice A0_2 l0_2.length c0_2) ∧ w'.cell? ⟨cF, 3, none⟩ = some (.int .i64 a0_3) ∧ w'.cell? ⟨cF, 4, none⟩ = some (.int .i64 a0_4) ∧ w'.cell? ⟨cF, 5, none⟩ = some (.int .i64 a0_5) ∧ w'.cell? ⟨cF, 6, none⟩ = some (.slice A0_6 l0_6.length c0_6) ∧ w'.cell? ⟨cF, 7, none⟩ = some (.slice (some ad517) l0_7.length c0_7) ∧ w'.cell? (ad517.add (aE).toNat) = some (.slice A517_0 (Qao l0_7 aE).length c517_0)) (ds := [12]) (bb 13 0) (by kernel_rfl) rfl rfl ⟨bc aU 0, bc aU 1, bc aU 2, bc aU 3, bc aU 4, bc aU 5, bc aU 6, bc aU 7, bc aH 0, bc aH 1, bc aH 2, bc aH 3, bc aH 4, bc aH 5, bc aH 6, bc aH 7, (cl HB hw517_0)⟩ (fun aA => ?_); refine Qb8 Qah.tab5 Qah.bits5 (fun HT_ HW_ => ?_)
   generalize wr.drew = w30 at dF dE cA aH cR aU HB R517_0 hx517_0 aA ⊢
   refine pv HT_.out 0 19 (bb 13 1) ?_
   refine pv HT_.out 3 22 (bb 13 9) ?_
   refine pv HT_.out 5 24 (bb 13 41) ?_
   refine tv aA HT_.out HW_.out 1 20 (bb 13 43) ?_
   refine tv aA HT_.out HW_.out 4 23 (bb 13 59) ?_
   refine pv HT_.out 6 25 (bb 13 123) ?_
   refine tv aA HT_.out HW_.out 7 26 (bb 13 251) ?_
   refine one_ (i := 2) (N := some 21) (bb 13 255) rfl rfl (Qcf HT_.out (by kernel_rfl)) (by decide) (fun K hK => ?_)
   refine Kd.R_lit_step k47 _ 47 ?hg (N := 21) ?hd (xs := ([] : List (S47))) (inner := []) (ok := fun _ => True) (okp := fun _ => True) ?hr ?hp (fun _ hk => hk) trivial (Below.refl _ _) (Nat.le_refl _) (by simp) ?_; (case hd => rfl); (case hg => rfl); (case hr => first | (go_simp; done) | (go_simp; rfl)); (case hp => exact (Reps.none _ _))
   intro v515 w31 ho32 hb hg_ hnew_
   clear hg_ hnew_
   (first | rw [← Ny514.out] at ho32 | (simp only [Int.reduceToNat] at ho32; rw [← Ny514.out] at ho32))
   replace dF := As0 (Kd.S_below (SU dF.out) hb)
   replace dE := As0 (Kd.S_below (SU dE.out) hb)
   replace cA := As0 (Kd.S_elder' (SU cA.out) (Kd.R_base ho32) hb)
   have O516 := As0 (Kd.R_lower ho32 (Qbi (BU HB.out)))
   replace aH := kB aH hb
   replace cR := kB cR hb
   replace aU := kB aU hb
   replace HB := sB HB hb
   clear hb ho32
   refine hK.out _ _ ⟨bc aU 0, bc aU 1, bc aU 2, bc aU 3, bc aU 4, bc aU 5, bc aU 6, bc aU 7, bc aH 0, bc aH 1, bc aH 2, bc aH 3, bc aH 4, bc aH 5, bc aH 6, bc aH 7, (cl HB hw517_0)⟩ (fun aA => ?_)
   clear hK K
   refine Qbz (a' := ?_) ?_ ?_
   rotate_left
   ·show Act.put _ (some 21) _ = _
    simp only [Act.put, sL1, sL2, sL3, Qbo, Qbp]
    rfl
   refine one_ (i := 8) (N := some 27) (bb 13 511) rfl rfl (Qcf HT_.out (by kernel_rfl)) (by decide) (fun K hK => ?_)
   refine Kd.R_append_rows_step k47 (w0 := w) w.heap.size (by rfl) (.tmp 21) (.tmp 26) 44 47 (.agg #[(.int .i64 0), (.int .i64 0)]) 16 rfl Tryz.underlying44 Qcq rfl (by decide) (by omega) v515 y514 (Qao l0_7 aE) _ _ _ (fun _ => True) (fun _ => False) rfl rfl ?aO ?aR (fun _ _ h => h) (fun _ h => h.elim) ?aF ?aB ?aS ?aL ?_
   (case aR => exact CU (Kd.C_below R517_0.out HB.out))
   (case aB => exact (BU HB.out))
   (case aF => exact (fun _ _ => trivial))
   (case aO => exact (RU O516.out))
   (case aS => exact (Qbi (BU HB.out)))
   (case aL => have := LMc25.out; omega)
   intro v519 w33 ho hb hg hat
   rw [← Ny518.out] at ho
   replace dF := As0 (Kd.S_over' (SU dF.out) (Kd.R_typed (RU O516.out)) (by decide) hg)
   replace dE := As0 (Kd.S_over' (SU dE.out) (Kd.R_typed (RU O516.out)) (by decide) hg)
   replace cA := As0 (Kd.S_after (ok := (fun _ => True)) (SU cA.out) hg hat)
   replace aH := As0 (Qbu (bU aH.out) hg (Kd.R_ne O516.out aH.out (by decide)))
   replace cR := As0 (Qbu (bU cR.out) hg (Kd.R_ne O516.out cR.out (by decide)))
   replace aU := As0 (Qbu (bU aU.out) hg (Kd.R_ne O516.out aU.out (by decide)))
   replace HB := As0 (hb)
   have O520 := As0 (ho)
   clear O516 ho hb hg hat
   obtain ⟨Ao35, co35, eo35⟩ := Kd.R_slice O520.out
   (first | subst eo35 | (injection eo35 with f1_ f2_ f3_; have f4_ := f1_.symm; have f5_ := f3_.symm; clear f1_ f2_ f3_; subst f4_; subst f5_))
   refine hK.out _ _ ⟨bc aU 0, bc aU 1, bc aU 2, bc aU 3, bc aU 4, bc aU 5, bc aU 6, bc aU 7, bc aH 0, bc aH 1, bc aH 2, bc aH 3, bc aH 4, bc aH 5, bc aH 6, bc aH 7, (cl HB hw517_0)⟩ (fun aA => ?_)
   clear hK K
   refine Qbz (a' := ?_) ?_ ?_
   rotate_left
   ·show Act.put _ (some 27) _ = _
    simp only [Act.put, sL1, sL2, sL3, Qbo, Qbp]
    rfl
   refine one_ (i := 9) (N := some 28) (bb 13 1023) rfl rfl (Qcf HT_.out (by kernel_rfl)) (by decide) (fun K hK => ?_)
   refine value_ (w1 := ?_) (v := ?_) (by rfl) rfl ?_ ?_
   rotate_left 2
   ·go_simp
    constructor
    ·rfl
    ·rfl
   refine hK.out _ _ ⟨(Qbh (Qbq aU.out _) 0).trans rfl, (Qbh (Qbq aU.out _) 1).trans rfl, (Qbh (Qbq aU.out _) 2).trans rfl, (Qbh (Qbq aU.out _) 3).trans rfl, (Qbh (Qbq aU.out _) 4).trans rfl, (Qbh (Qbq aU.out _) 5).trans rfl, (Qbh (Qbq aU.out _) 6).trans rfl, (Qbh (Qbq aU.out _) 7).trans rfl, (Qbh (Qbq aH.out _) 0).trans rfl, (Qbh (Qbq aH.out _) 1).trans rfl, (Qbh (Qbq aH.out _) 2).trans rfl, (Qbh (Qbq aH.out _) 3).trans rfl, (Qbh (Qbq aH.out _) 4).trans rfl, (Qbh (Qbq aH.out _) 5).trans rfl, (Qbh (Qbq aH.out _) 6).trans rfl, (Qbh (Qbq aH.out _) 7).trans rfl, (World.cell?_alloc_lt _ _ _ (World.block_lt_of_cell? _ _ ((cl HB hw517_0)))).trans ((cl HB hw517_0))⟩ (fun aA => ?_)
   clear hK K
   refine Qbz (a' := ?_) ?_ ?_
   rotate_left
   ·show Act.put _ (some 28) _ = _
    simp only [Act.put, sL1, sL2, sL3, Qbo, Qbp]
    rfl
   refine one_ (i := 10) (N := some 29) (bb 13 2047) rfl rfl (Qcf HT_.out (by kernel_rfl)) (by decide) (fun K hK => ?_)
   refine Kd.S_append_step (Kd.slice 47 k47) (w0 := w) w.heap.size (by rfl) (.tmp 20) (.tmp 28) 28 44 (.slice none 0 0) 24 rfl Tryz.underlying28 info44 rfl (by decide) (by omega) u514007 cM y518 [.slice Ao35 y518.length co35] (fun _ => True) (fun k_ => some k_ = (.slice Ao35 y518.length co35 : Value).ownBlock) rfl rfl ?aP (fun k_ hk_ => ((Kd.R_mono (ok' := fun k_ => ((fun _ => True)) k_ ∧ some k_ ≠ (u514007 : Value).ownBlock) (Kd.R_apart' (O520.out) (Kd.S_typed cA.out) (by decide)) (fun k_ hk => ⟨trivial, hk.2⟩))).1 k_ hk_.symm) ?aF ?aO ?aB ?aS ?aL ?_
   (case aP => exact Kd.M_row (Kd.R_mono (Kd.R_tight rfl (Kd.R_mono (ok' := fun k_ => ((fun _ => True)) k_ ∧ some k_ ≠ (u514007 : Value).ownBlock) (Kd.R_apart' (O520.out) (Kd.S_typed cA.out) (by decide)) (fun k_ hk => ⟨trivial, hk.2⟩))) (fun _ h_ => h_)))
   (case aB => exact (BU HB.out))
   (case aF => exact (fun _ _ => trivial))
   (case aO => exact (SU (Kd.S_mono cA.out (fun k_ hk => ⟨trivial, fun e_ => hk.2 e_⟩))))
   (case aS => exact (Qbi (BU HB.out)))
   (case aL => have := LMc26.out; omega)
   intro v522 w34 ho hb hg hat
   rw [← Ny521.out] at ho
   replace dF := As0 (Kd.S_over' (SU dF.out) (Kd.S_typed (SU cA.out)) (by decide) hg)
   replace dE := As0 (Kd.S_over' (SU dE.out) (Kd.S_typed (SU cA.out)) (by decide) hg)
   replace aH := As0 (Qbu (bU aH.out) hg (Kd.S_ne cA.out aH.out (by decide)))
   replace cR := As0 (Qbu (bU cR.out) hg (Kd.S_ne cA.out cR.out (by decide)))
   replace aU := As0 (Qbu (bU aU.out) hg (Kd.S_ne cA.out aU.out (by decide)))
   replace HB := As0 (hb)
   have O523 := As0 (ho)
   clear cA O520 ho hb hg hat
   obtain ⟨Ao36, co36, eo36⟩ := Kd.S_slice O523.out
   (first | subst eo36 | (injection eo36 with f1_ f2_ f3_; have f4_ := f1_.symm; have f5_ := f3_.symm; clear f1_ f2_ f3_; subst f4_; subst f5_))
   refine hK.out _ _ ⟨bc aU 0, bc aU 1, bc aU 2, bc aU 3, bc aU 4, bc aU 5, bc aU 6, bc aU 7, bc aH 0, bc aH 1, bc aH 2, bc aH 3, bc aH 4, bc aH 5, bc aH 6, bc aH 7, (cl HB hw517_0)⟩ (fun aA => ?_)
   clear hK K
   refine Qbz (a' := ?_) ?_ ?_
   rotate_left
   ·show Act.put _ (some 29) _ = _
    simp only [Act.put, sL1, sL2, sL3, Qbo, Qbp]
    rfl
   refine pv HT_.out 11 30 (bb 13 4095) ?_
   refine Qc7 (i := 12) (N := none) (bb 13 8191) rfl rfl (Qcf HT_.out (by kernel_rfl)) (by decide) (fun K hK => ?_)
   have hs37 : w34.cell? ⟨aG, 7, none⟩ = some (u514007) := bc aU 7
   have hfs37 := Qbj aU.out 7
   have hns37_0 := aD.out
   have hns37_1 := cP.out
   have hms37_0 := cK.out
   have hms37_1 := cO.out
   refine skip_ (w1 := ?_) (by rfl) rfl ?_ ?_
   rotate_left
   ·go_simp
    rfl
   refine hK.out _ _ ?_
   clear hK K
   refine Qch (Qcm HT_.out (by kernel_rfl)) ?_
   try go_wp2
   go_roundg k1
   case measure => have := HK1.out; omega
   case rel => exact ⟨(wrap64 (aE + 1)), (y521), (.slice Ao36 y521.length co36), eR, H', ⟨by have := HK1.out; omega⟩, ⟨SU (Kd.S_mono (Kd.S_far (p := ⟨aG, 7, none⟩) (Kd.S_types dF.out aU.out (by decide)) (fun _ hk => hk.2) (.slice Ao36 y521.length co36)) (fun _ hk => trivial))⟩, ⟨SU (Kd.S_mono (Kd.S_far (p := ⟨aG, 7, none⟩) (Kd.S_types dE.out aU.out (by decide)) (fun _ hk => hk.2) (.slice Ao36 y521.length co36)) (fun _ hk => trivial))⟩, ⟨SU (Kd.S_mono (Kd.S_far (p := ⟨aG, 7, none⟩) (Kd.S_types O523.out aU.out (by decide)) (fun _ hk => hk.2) (.slice Ao36 y521.length co36)) (fun _ hk => trivial))⟩, ⟨kV aH⟩, ⟨kV cR⟩, ⟨kV aU⟩, ⟨BU HB.out⟩⟩
theorem LeO.then {o o' : OBs} {f f' : Bs → OBs} (h : LeO o o') (hf : ∀ s, LeO (f s) (f' s)) : LeO (o.then f) (o'.then f') := by
 refine LeO.bind h fun p => ?_
 obtain ⟨s, q⟩ := p
 cases q with
 | none => exact hf s
 | some q => exact LeO.refl _
def checker_Check.f (k : Nat) (sa sr : Int) (SB : List S39) (ta tr ts : Int) (TB : List S57) (Wl : List (List S47)) : Option (Int × Int × Int × Int × Int × Int × Int) := (Qeb k sa sr SB ta tr ts TB Wl).map fun r => (r.f0, r.f1, r.f2, r.f3, r.f4, r.f5, r.f6)
theorem checker_Check.calls (k : Nat) (a0_0 a0_1 : Int) (A0_2 : Option Addr) (c0_2 : Nat) (l0_2 : List (S39)) (a0_3 a0_4 a0_5 : Int) (A0_6 : Option Addr) (c0_6 : Nat) (l0_6 : List (S57)) (A0_7 : Option Addr) (c0_7 : Nat) (l0_7 : List (List (S47))) (r1 r2 r3 r4 r5 r6 r7 : Int) (w : World) (hr0_2 : Kd.C k39 w A0_2 l0_2.length l0_2) (hc0_2 : l0_2.length ≤ c0_2) (hr0_6 : Kd.C k57 w A0_6 l0_6.length l0_6) (hc0_6 : l0_6.length ≤ c0_6) (hr0_7 : Kd.C (Kd.slice 47 k47) w A0_7 l0_7.length l0_7) (hc0_7 : l0_7.length ≤ c0_7) (h : checker_Check.f k a0_0 a0_1 l0_2 a0_3 a0_4 a0_5 l0_6 l0_7 = some (r1, r2, r3, r4, r5, r6, r7)) :
 Calls Tryz.prog 14 #[.agg #[.int .i64 a0_0, .int .i64 a0_1, .slice A0_2 l0_2.length c0_2, .int .i64 a0_3, .int .i64 a0_4, .int .i64 a0_5, .slice A0_6 l0_6.length c0_6, .slice A0_7 l0_7.length c0_7]] w fun e w' => e = .returned (.agg #[.int .i64 r1, .int .i64 r2, .int .i64 r3, .int .i64 r4, .int .i64 r5, .int .i64 r6, .int .i64 r7]) ∧ Below w.heap.size w w' := by
 obtain ⟨x, hx, hr⟩ := Option.map_eq_some_iff.1 h
 simp only [Prod.mk.injEq] at hr
 obtain ⟨rfl, rfl, rfl, rfl, rfl, rfl, rfl⟩ := hr
 exact check_calls k a0_0 a0_1 A0_2 c0_2 l0_2 a0_3 a0_4 a0_5 A0_6 c0_6 l0_6 A0_7 c0_7 l0_7 x w hr0_2 hc0_2 hr0_6 hc0_6 hr0_7 hc0_7 hx
end Go.Proofs.YtchpkjgibloleaaGreat.Z
namespace Go.Proofs.YtchpkjgibloleaaGreat.V
set_option maxRecDepth 100000
set_option maxHeartbeats 8000000
open Go
inductive C0 where
 | b (x : Bool)
 | i (k : IntKind) (n : Int)
 | p (a : Option (Nat × Nat))
 | s (a : Option (Nat × Nat)) (len : Nat) (cap : Option Nat) (sz : Nat) (full : Bool)
 | nilI
 | nilF
 deriving DecidableEq
inductive C1 where
 | c (x : C0)
 | f (fn : FuncId) (first cap : List C0)
 deriving DecidableEq
inductive T1 where
 | c (x : C1)
 | g (l : List C1)
 deriving DecidableEq
inductive AV where
 | c (x : C1)
 | g (l : List C1)
 | t (l : List T1)
 deriving DecidableEq
abbrev Ren := Nat → Option (Nat × Nat)
def Ren.le (ρ ρ' : Ren) : Prop := ∀ n x, ρ n = some x → ρ' n = some x
theorem Ren.le_refl (ρ : Ren) : ρ.le ρ := fun _ _ h => h
theorem Ren.le.trans {ρ ρ' ρ'' : Ren} (h : ρ.le ρ') (h' : ρ'.le ρ'') : ρ.le ρ'' := fun n x e => h' n x (h n x e)
def All2 {α β : Type} (R : α → β → Prop) : List α → List β → Prop
 | [], [] => True
 | a :: l, b :: m => R a b ∧ All2 R l m
 | _, _ => False
theorem All2.imp {α β : Type} {R R' : α → β → Prop} (h : ∀ a b, R a b → R' a b) : ∀ {l : List α} {m : List β}, All2 R l m → All2 R' l m
 | [], [], _ => trivial
 | _ :: _, _ :: _, ⟨h1, h2⟩ => ⟨h _ _ h1, All2.imp h h2⟩
 | [], _ :: _, hh => hh.elim
 | _ :: _, [], hh => hh.elim
theorem All2.len {α β : Type} {R : α → β → Prop} : ∀ {l : List α} {m : List β}, All2 R l m → l.length = m.length
 | [], [], _ => rfl
 | _ :: _, _ :: _, ⟨_, h2⟩ => by simp [All2.len h2]
 | [], _ :: _, hh => hh.elim
 | _ :: _, [], hh => hh.elim
theorem All2.get {α β : Type} {R : α → β → Prop} : ∀ {l : List α} {m : List β}, All2 R l m → ∀ (i : Nat) {x : α}, l[i]? = some x → ∃ y, m[i]? = some y ∧ R x y
 | a :: l, b :: m, ⟨h1, h2⟩, 0, x, h => by
  simp at h; subst h; exact ⟨b, by simp, h1⟩
 | a :: l, b :: m, ⟨_, h2⟩, i + 1, x, h => by
  simp at h
  obtain ⟨y, hy, hr⟩ := All2.get h2 i h
  exact ⟨y, by simpa using hy, hr⟩
 | [], [], _, i, x, h => by simp at h
 | [], _ :: _, hh, _, _, _ => hh.elim
 | _ :: _, [], hh, _, _, _ => hh.elim
theorem All2.app {α β : Type} {R : α → β → Prop} : ∀ {l l' : List α} {m m' : List β}, All2 R l m → All2 R l' m' → All2 R (l ++ l') (m ++ m')
 | [], _, [], _, _, h => h
 | _ :: _, _, _ :: _, _, ⟨h1, h2⟩, h => ⟨h1, All2.app h2 h⟩
 | [], _, _ :: _, _, hh, _ => hh.elim
 | _ :: _, _, [], _, hh, _ => hh.elim
theorem All2.set {α β : Type} {R : α → β → Prop} {x : α} {y : β} (hr : R x y) : ∀ {l : List α} {m : List β}, All2 R l m → ∀ i, All2 R (l.set i x) (m.set i y)
 | [], [], _, _ => trivial
 | _ :: _, _ :: _, ⟨h1, h2⟩, 0 => ⟨hr, h2⟩
 | _ :: _, _ :: _, ⟨h1, h2⟩, i + 1 => ⟨h1, All2.set hr h2 i⟩
 | [], _ :: _, hh, _ => hh.elim
 | _ :: _, [], hh, _ => hh.elim
theorem All2.of {α β : Type} {R : α → β → Prop} : ∀ {l : List α} {m : List β}, l.length = m.length → (∀ (i : Nat) x, l[i]? = some x → ∃ y, m[i]? = some y ∧ R x y) → All2 R l m
 | [], [], _, _ => trivial
 | a :: l, b :: m, hl, h => by
  obtain ⟨y, hy, hr⟩ := h 0 a (by simp)
  simp at hy; subst hy
  exact ⟨hr, All2.of (by simpa using hl) fun i x hx => by simpa using h (i + 1) x (by simpa using hx)⟩
 | [], _ :: _, hl, _ => by simp at hl
 | _ :: _, [], hl, _ => by simp at hl
theorem All2.rep {α β : Type} {R : α → β → Prop} {x : α} {y : β} (h : R x y) : ∀ n, All2 R (List.replicate n x) (List.replicate n y)
 | 0 => trivial
 | n + 1 => ⟨h, All2.rep h n⟩
theorem All2.left {α β : Type} {R : α → β → Prop} : ∀ {l : List α} {m : List β}, All2 R l m → ∀ {P : β → Prop}, (∀ a b, R a b → P b) → ∀ b ∈ m, P b
 | [], [], _, _, _, _, hb => by cases hb
 | _ :: _, _ :: _, ⟨h1, h2⟩, P, h, b, hb => by
  rcases List.mem_cons.1 hb with rfl | hb
  ·exact h _ _ h1
  ·exact All2.left h2 h b hb
 | [], _ :: _, hh, _, _, _, _ => hh.elim
 | _ :: _, [], hh, _, _, _, _ => hh.elim
def C0.R (ρ : Ren) : C0 → Value → Prop
 | .b x, v => v = .bool x
 | .i k n, v => v = .int k n
 | .p none, v => v = .pointer none
 | .p (some (n, o)), v => ∃ g z, ρ n = some (g, z) ∧ v = .pointer (some ⟨g, o, none⟩)
 | .s none _ _ _ _, v => v = .slice none 0 0
 | .s (some (n, o)) len cap sz full, v => ∃ g z c, ρ n = some (g, z) ∧ v = .slice (some ⟨g, o, none⟩) len c ∧ (∀ c', cap = some c' → c = c') ∧ len ≤ c ∧ c ≤ maxLen ∧ o + c * sz ≤ z ∧ (full = true → o + c * sz = z)
 | .nilI, v => v = .nilIface
 | .nilF, v => v = .nilFunc
def C1.R (ρ : Ren) : C1 → Value → Prop
 | .c x, v => x.R ρ v
 | .f fn first cap, v => ∃ F C, All2 (C0.R ρ) first F ∧ All2 (C0.R ρ) cap C ∧ v = .func (.func fn) F.toArray C.toArray
def T1.R (ρ : Ren) : T1 → Value → Prop
 | .c x, v => x.R ρ v
 | .g l, v => ∃ L, All2 (C1.R ρ) l L ∧ v = .agg L.toArray
def AV.R (ρ : Ren) : AV → Value → Prop
 | .c x, v => x.R ρ v
 | .g l, v => ∃ L, All2 (C1.R ρ) l L ∧ v = .agg L.toArray
 | .t l, v => ∃ L, All2 (T1.R ρ) l L ∧ v = .tuple L.toArray
theorem C0.mono {ρ ρ' : Ren} (h : ρ.le ρ') : ∀ (x : C0) (v : Value), x.R ρ v → x.R ρ' v := by
 intro x v hx
 cases x with
 | p a =>
  cases a with
  | none => exact hx
  | some a => obtain ⟨g, z, h1, h2⟩ := hx; exact ⟨g, z, h _ _ h1, h2⟩
 | s a len cap sz full =>
  cases a with
  | none => exact hx
  | some a => obtain ⟨g, z, c, h1, h2⟩ := hx; exact ⟨g, z, c, h _ _ h1, h2⟩
 | _ => exact hx
theorem C1.mono {ρ ρ' : Ren} (h : ρ.le ρ') : ∀ (x : C1) (v : Value), x.R ρ v → x.R ρ' v := by
 intro x v hx
 cases x with
 | c x => exact C0.mono h x v hx
 | f fn first cap => obtain ⟨F, C, h1, h2, h3⟩ := hx; exact ⟨F, C, h1.imp (C0.mono h), h2.imp (C0.mono h), h3⟩
theorem T1.mono {ρ ρ' : Ren} (h : ρ.le ρ') : ∀ (x : T1) (v : Value), x.R ρ v → x.R ρ' v := by
 intro x v hx
 cases x with
 | c x => exact C1.mono h x v hx
 | g l => obtain ⟨L, h1, h2⟩ := hx; exact ⟨L, h1.imp (C1.mono h), h2⟩
theorem AV.mono {ρ ρ' : Ren} (h : ρ.le ρ') : ∀ (x : AV) (v : Value), x.R ρ v → x.R ρ' v := by
 intro x v hx
 cases x with
 | c x => exact C1.mono h x v hx
 | g l => obtain ⟨L, h1, h2⟩ := hx; exact ⟨L, h1.imp (C1.mono h), h2⟩
 | t l => obtain ⟨L, h1, h2⟩ := hx; exact ⟨L, h1.imp (T1.mono h), h2⟩
theorem C0.one {ρ : Ren} {x : C0} {v : Value} (h : x.R ρ v) : v.oneCell' = true := by
 cases x with
 | p a => cases a with
  | none => cases h; rfl
  | some a => obtain ⟨g, z, h1, rfl⟩ := h; rfl
 | s a len cap sz full => cases a with
  | none => cases h; rfl
  | some a => obtain ⟨g, z, c, h1, rfl, _⟩ := h; rfl
 | _ => cases h; rfl
theorem C1.one {ρ : Ren} {x : C1} {v : Value} (h : x.R ρ v) : v.oneCell' = true := by
 cases x with
 | c x => exact C0.one h
 | f fn first cap => obtain ⟨F, C, h1, h2, rfl⟩ := h; rfl
def C0.lit : C0 → Option Value
 | .b x => some (.bool x)
 | .i k n => some (.int k n)
 | .p none => some (.pointer none)
 | .s none _ _ _ _ => some (.slice none 0 0)
 | .nilI => some .nilIface
 | .nilF => some .nilFunc
 | _ => none
def C1.lit : C1 → Option Value
 | .c x => x.lit
 | _ => none
def litCs : List C1 → Option (List Value)
 | [] => some []
 | x :: l => match x.lit, litCs l with
  | some v, some vs => some (v :: vs)
  | _, _ => none
def AV.lit : AV → Option Value
 | .c x => x.lit
 | .g l => (litCs l).map fun vs => .agg vs.toArray
 | _ => none
theorem C1.lit_eq {ρ : Ren} {x : C1} {V v : Value} (h : x.lit = some V) (hr : x.R ρ v) : v = V := by
 cases x with
 | c x => cases x with
  | p a => cases a <;> simp [C1.lit, C0.lit] at h; subst h; exact hr
  | s a len cap sz full => cases a <;> simp [C1.lit, C0.lit] at h; subst h; exact hr
  | _ => simp [C1.lit, C0.lit] at h; subst h; exact hr
 | f fn first cap => simp [C1.lit] at h
theorem litCs_eq {ρ : Ren} : ∀ {l : List C1} {vs L : List Value}, litCs l = some vs → All2 (C1.R ρ) l L → L = vs
 | [], vs, [], h, _ => by simp [litCs] at h; exact h.symm
 | x :: l, vs, V :: L, h, ⟨h1, h2⟩ => by
  unfold litCs at h
  split at h
  ·rename_i v vs' hv hvs
   simp at h; subst h
   rw [C1.lit_eq hv h1, litCs_eq hvs h2]
  ·cases h
 | [], _, _ :: _, _, hh => hh.elim
 | _ :: _, _, [], _, hh => hh.elim
theorem AV.lit_eq {ρ : Ren} {x : AV} {V v : Value} (h : x.lit = some V) (hr : x.R ρ v) : v = V := by
 cases x with
 | c x => exact C1.lit_eq h hr
 | g l =>
  obtain ⟨vs, hvs, rfl⟩ := Option.map_eq_some_iff.1 h
  obtain ⟨L, h1, rfl⟩ := hr
  rw [litCs_eq hvs h1]
 | t l => simp [AV.lit] at h
def absC : Value → Option C0
 | .bool x => some (.b x)
 | .int k n => some (.i k n)
 | .pointer none => some (.p none)
 | .slice none 0 0 => some (.s none 0 none 0 false)
 | .nilIface => some .nilI
 | .nilFunc => some .nilF
 | _ => none
theorem absC_R {ρ : Ren} {v : Value} {x : C0} (h : absC v = some x) : x.R ρ v := by
 unfold absC at h
 split at h <;> simp at h <;> subst h <;> rfl
def absCs : List Value → Option (List C1)
 | [] => some []
 | v :: l => match absC v, absCs l with
  | some x, some xs => some (.c x :: xs)
  | _, _ => none
theorem absCs_R {ρ : Ren} : ∀ {l : List Value} {m : List C1}, absCs l = some m → All2 (C1.R ρ) m l
 | [], m, h => by simp [absCs] at h; subst h; trivial
 | v :: l, m, h => by
  unfold absCs at h
  split at h
  ·rename_i x xs hx hxs
   simp at h; subst h
   exact ⟨absC_R hx, absCs_R hxs⟩
  ·cases h
def absV : Value → Option AV
 | .agg cs => (absCs cs.toList).map .g
 | .tuple cs => if cs.size = 0 then some (.t []) else none
 | v => (absC v).map fun x => .c (.c x)
theorem absV_R {ρ : Ren} {v : Value} {x : AV} (h : absV v = some x) : x.R ρ v := by
 unfold absV at h
 split at h
 ·rename_i cs
  obtain ⟨m, hm, rfl⟩ := Option.map_eq_some_iff.1 h
  exact ⟨cs.toList, absCs_R hm, by simp⟩
 ·rename_i cs
  split at h
  ·rename_i h0
   simp at h; subst h
   exact ⟨[], trivial, by simp [Array.size_eq_zero_iff.1 h0]⟩
  ·cases h
 ·obtain ⟨m, hm, rfl⟩ := Option.map_eq_some_iff.1 h
  exact absC_R hm
structure Ent where
 cs : List C1
 ty : TypeId
 ex : Bool
 deriving DecidableEq
abbrev Hp := List (Nat × Ent)
noncomputable def get (H : Hp) : Nat → Option Ent :=
 @List.rec (Nat × Ent) (fun _ => Nat → Option Ent) (fun _ => none) (fun x _ ih n => cond (Nat.beq x.1 n) (some x.2) (ih n)) H
noncomputable def ins (n : Nat) (e : Ent) (H : Hp) : Hp :=
 @List.rec (Nat × Ent) (fun _ => Hp) [(n, e)] (fun x l ih => cond (Nat.blt x.1 n) ((n, e) :: x :: l) (x :: ih)) H
noncomputable def upd (n : Nat) (e : Ent) (H : Hp) : Hp :=
 @List.rec (Nat × Ent) (fun _ => Hp) [] (fun x l ih => cond (Nat.beq x.1 n) ((x.1, e) :: l) (x :: ih)) H
noncomputable def del (n : Nat) (H : Hp) : Hp :=
 @List.rec (Nat × Ent) (fun _ => Hp) [] (fun x l ih => cond (Nat.beq x.1 n) ih (x :: ih)) H
theorem Qdz (n : Nat) : get [] n = none := rfl
theorem beq_if {α : Type} (m n : Nat) (a b : α) : (bif Nat.beq m n then a else b) = if m = n then a else b := by
 by_cases h : m = n
 ·subst h; simp
 ·have : Nat.beq m n = false := by
    cases hh : Nat.beq m n with
    | false => rfl
    | true => exact absurd (Nat.eq_of_beq_eq_true hh) h
  simp [this, h]
theorem Qb3 (m : Nat) (e : Ent) (H : Hp) (n : Nat) : get ((m, e) :: H) n = if m = n then some e else get H n := beq_if _ _ _ _
theorem ins_cons (n : Nat) (e : Ent) (m : Nat) (e' : Ent) (H : Hp) : ins n e ((m, e') :: H) = (n, e) :: (m, e') :: H ∨ ins n e ((m, e') :: H) = (m, e') :: ins n e H := by
 show (bif Nat.blt m n then _ else _) = _ ∨ (bif Nat.blt m n then _ else _) = _
 cases Nat.blt m n
 ·exact .inr rfl
 ·exact .inl rfl
theorem upd_cons (n : Nat) (e : Ent) (m : Nat) (e' : Ent) (H : Hp) : upd n e ((m, e') :: H) = if m = n then (m, e) :: H else (m, e') :: upd n e H := beq_if _ _ _ _
theorem del_cons (n m : Nat) (e' : Ent) (H : Hp) : del n ((m, e') :: H) = if m = n then del n H else (m, e') :: del n H := beq_if _ _ _ _
theorem Qea (n : Nat) (e : Ent) : ∀ (H : Hp), get H n = none → ∀ m, get (ins n e H) m = if m = n then some e else get H m
 | [], _, m => by
  show get [(n, e)] m = if m = n then some e else none
  rw [Qb3]
  by_cases h1 : m = n
  ·simp [h1]
  ·have h2 : ¬ n = m := fun h => h1 h.symm
   simp [h1, h2, Qdz]
 | (k, e') :: H, h, m => by
  rw [Qb3] at h
  split at h
  ·cases h
  ·rename_i hk
   rcases ins_cons n e k e' H with h3 | h3 <;> rw [h3]
   ·rw [Qb3]
    by_cases h1 : m = n
    ·simp [h1]
    ·have h2 : ¬ n = m := fun h => h1 h.symm
     simp [h1, h2]
   ·rw [Qb3, Qb3, Qea n e H h m]
    by_cases h1 : k = m
    ·subst h1; simp [hk]
    ·simp [h1]
theorem get_upd (n : Nat) (e : Ent) : ∀ (H : Hp) {e0 : Ent}, get H n = some e0 → ∀ m, get (upd n e H) m = if m = n then some e else get H m
 | [], _, h, _ => by simp [Qdz] at h
 | (k, e') :: H, e0, h, m => by
  rw [upd_cons]
  split
  ·rename_i hk
   subst hk
   rw [Qb3, Qb3]
   by_cases h1 : m = k
   ·simp [h1]
   ·have h2 : ¬ k = m := fun h => h1 h.symm
    simp [h1, h2]
  ·rename_i hk
   rw [Qb3, if_neg hk] at h
   rw [Qb3, Qb3, get_upd n e H h m]
   by_cases h1 : k = m
   ·subst h1; simp [hk]
   ·simp [h1]
theorem get_del (n : Nat) : ∀ (H : Hp) (m : Nat), get (del n H) m = if m = n then none else get H m
 | [], m => by show get [] m = _; simp [Qdz]
 | (k, e') :: H, m => by
  rw [del_cons]
  split
  ·rename_i hk
   subst hk
   rw [get_del k H m, Qb3]
   by_cases h1 : m = k
   ·simp [h1]
   ·have h2 : ¬ k = m := fun h => h1 h.symm
    simp [h1, h2]
  ·rename_i hk
   rw [Qb3, Qb3, get_del n H m]
   by_cases h1 : k = m
   ·subst h1; simp [hk]
   ·simp [h1]
structure Out (D : Nat → Prop) (w0 w : World) : Prop where
 os : w.os = w0.os
 tape : w.tape = w0.tape
 output : w.output = w0.output
 size : w0.heap.size ≤ w.heap.size
 block : ∀ k, k < w0.heap.size → ¬ D k → w.heap[k]? = w0.heap[k]?
def Holds (D : Nat → Prop) (w0 : World) (ρ : Ren) (w : World) (n : Nat) (e : Ent) : Prop :=
 ∃ g z c, ρ n = some (g, z) ∧ w.heap[g]? = some (.cells c e.ty (0, 0)) ∧ c.size = z ∧ (∀ (i : Nat) x, e.cs[i]? = some x → ∃ y, c.toList[i]? = some y ∧ C1.R ρ x y) ∧
  (e.ex = true → z = e.cs.length) ∧ (D g ∨ w0.heap.size ≤ g)
structure RH (D : Nat → Prop) (w0 : World) (ρ : Ren) (H : Hp) (dead : List Nat) (w : World) : Prop where
 hp : ∀ n e, get H n = some e → Holds D w0 ρ w n e
 inj : ∀ n m e e' g z z', get H n = some e → get H m = some e' → ρ n = some (g, z) → ρ m = some (g, z') → n = m
 fr : ∀ n x, ρ n = some x → (get H n).isSome = true ∨ n ∈ dead
 out : Out D w0 w
section
variable {D : Nat → Prop} {w0 : World} {ρ : Ren} {H : Hp} {dead : List Nat} {w : World}
theorem alloc_old {w : World} {k : Nat} (h : k < w.heap.size) (o : Obj) : (w.alloc o).heap[k]? = w.heap[k]? := by
 show (w.heap.push o)[k]? = _
 rw [Array.getElem?_push, if_neg (by omega)]
theorem alloc_new (w : World) (o : Obj) : (w.alloc o).heap[w.heap.size]? = some o := by
 show (w.heap.push o)[w.heap.size]? = _
 rw [Array.getElem?_push, if_pos rfl]
theorem Out.alloc (h : Out D w0 w) (o : Obj) : Out D w0 (w.alloc o) :=
 ⟨h.os, h.tape, h.output, by simp; have := h.size; omega, fun k hk hd => by
  have := h.size
  rw [alloc_old (by omega)]; exact h.block k hk hd⟩
theorem Out.drew (h : Out D w0 w) : Out D w0 w.drew := ⟨h.os, h.tape, h.output, h.size, h.block⟩
theorem Holds.block_lt {n : Nat} {e : Ent} (h : Holds D w0 ρ w n e) : ∀ g z, ρ n = some (g, z) → g < w.heap.size := by
 intro g z hg
 obtain ⟨g', z', c, h1, h2, _⟩ := h
 rw [hg] at h1; injection h1 with h1; injection h1 with h1 h3; subst h1
 rcases Nat.lt_or_ge g w.heap.size with h | h
 ·exact h
 ·rw [Array.getElem?_eq_none h] at h2; cases h2
def Ren.add (ρ : Ren) (n : Nat) (x : Nat × Nat) : Ren := fun m => if m = n then some x else ρ m
theorem Ren.le_add {ρ : Ren} {n : Nat} {x : Nat × Nat} (h : ρ n = none) : ρ.le (ρ.add n x) := by
 intro m y hm
 unfold Ren.add
 split
 ·rename_i e; subst e; rw [h] at hm; cases hm
 ·exact hm
theorem Holds.mono {ρ' : Ren} {w' : World} {n : Nat} {e : Ent} (h : Holds D w0 ρ w n e) (hr : ρ.le ρ') (hw : ∀ g z, ρ n = some (g, z) → w'.heap[g]? = w.heap[g]?) : Holds D w0 ρ' w' n e := by
 obtain ⟨g, z, c, h1, h2, h3, h4, h5⟩ := h
 exact ⟨g, z, c, hr _ _ h1, (hw g z h1).trans h2, h3, fun i x hx => let ⟨y, hy, hR⟩ := h4 i x hx; ⟨y, hy, C1.mono hr _ _ hR⟩, h5⟩
theorem RH.unused {n : Nat} (h : RH D w0 ρ H dead w) (hn : get H n = Option.none) (hd : n ∉ dead) : ρ n = Option.none := by
 cases hr : ρ n with
 | none => rfl
 | some x => rcases h.fr n x hr with h1 | h1
             ·rw [hn] at h1; cases h1
             ·exact absurd h1 hd
theorem RH.new (h : RH D w0 ρ H dead w) {n : Nat} (hn : get H n = Option.none) (hd : n ∉ dead) {cs : List C1} {L : List Value} (hc : All2 (C1.R ρ) cs L) (ty : TypeId) :
    RH D w0 (ρ.add n (w.heap.size, L.length)) (ins n ⟨cs, ty, true⟩ H) dead (w.alloc (.cells L.toArray ty)) ∧ ρ.le (ρ.add n (w.heap.size, L.length)) := by
 have h0 := h.unused hn hd
 have hle := Ren.le_add (x := (w.heap.size, L.length)) h0
 refine ⟨⟨?_, ?_, ?_, h.out.alloc _⟩, hle⟩
 ·intro m e he
  rw [Qea n _ H hn] at he
  split at he
  ·rename_i hm
   subst hm
   injection he with he; subst he
   refine ⟨w.heap.size, L.length, L.toArray, by simp [Ren.add], alloc_new _ _, by simp, fun i x hx => ?_, fun _ => hc.len.symm, .inr h.out.size⟩
   obtain ⟨y, hy, hr⟩ := hc.get i hx
   exact ⟨y, by simpa using hy, C1.mono hle _ _ hr⟩
  ·exact (h.hp m e he).mono hle fun g z hg => by
     exact alloc_old ((h.hp m e he).block_lt g z hg) _
 ·intro m m' e e' g z z' he he' hg hg'
  rw [Qea n _ H hn] at he he'
  unfold Ren.add at hg hg'
  split at he <;> split at he' <;> rename_i h1 h2
  ·rw [h1, h2]
  ·simp only [h1, if_true, h2, if_false] at hg hg'
   injection hg with hg; injection hg with hg _
   have := (h.hp m' e' he').block_lt g z' hg'
   omega
  ·simp only [h1, if_false, h2, if_true] at hg hg'
   injection hg' with hg'; injection hg' with hg' _
   have := (h.hp m e he).block_lt g z hg
   omega
  ·simp only [h1, if_false, h2] at hg hg'
   exact h.inj m m' e e' g z z' he he' hg hg'
 ·intro m x hm
  rw [Qea n _ H hn]
  unfold Ren.add at hm
  split at hm
  ·rename_i e; left; simp [e]
  ·rename_i e; simp only [e, if_false]; exact h.fr m x hm
theorem RH.drew (h : RH D w0 ρ H dead w) : RH D w0 ρ H dead w.drew :=
 ⟨fun n e he => (h.hp n e he).mono (Ren.le_refl _) fun _ _ _ => rfl, h.inj, h.fr, h.out.drew⟩
end
def spl {α : Type} (l : List α) (o : Nat) (cs : List α) : List α := l.take o ++ cs ++ l.drop (o + cs.length)
theorem spl_len {α : Type} {l cs : List α} {o : Nat} (h : o + cs.length ≤ l.length) : (spl l o cs).length = l.length := by
 simp [spl]; omega
theorem spl_get {α : Type} {l cs : List α} {o : Nat} (h : o + cs.length ≤ l.length) (i : Nat) :
    (spl l o cs)[i]? = if i < o then l[i]? else if i < o + cs.length then cs[i - o]? else l[i]? := by
 unfold spl
 have h1 : (l.take o).length = o := by simp; omega
 split
 ·rename_i hi
  rw [List.append_assoc, List.getElem?_append_left (by omega), List.getElem?_take]
  simp [hi]
 ·rename_i hi
  rw [List.append_assoc, List.getElem?_append_right (by omega), h1]
  split
  ·rw [List.getElem?_append_left (by omega)]
  ·rw [List.getElem?_append_right (by omega), List.getElem?_drop]
   congr 1
   omega
theorem Out.setRow {D : Nat → Prop} {w0 w : World} (h : Out D w0 w) {g : Nat} (hg : D g ∨ w0.heap.size ≤ g) (cs : Array Value) : Out D w0 (w.setRow g cs) :=
 ⟨h.os, h.tape, h.output, by simpa using h.size, fun k hk hd => by
  rw [setRow_other w g k cs (by rintro rfl; rcases hg with hg | hg; exact hd hg; omega)]; exact h.block k hk hd⟩
section
variable {D : Nat → Prop} {w0 : World} {ρ : Ren} {H : Hp} {dead : List Nat} {w : World}
theorem RH.store (h : RH D w0 ρ H dead w) {n : Nat} {e : Ent} (he : get H n = some e) {g z : Nat} (hg : ρ n = some (g, z)) {cs : List C1} {L : List Value} (hc : All2 (C1.R ρ) cs L) {o : Nat}
    (ho : o + cs.length ≤ e.cs.length) {cur : Array Value} (hcur : w.heap[g]? = some (.cells cur e.ty (0, 0))) :
    RH D w0 ρ (upd n { e with cs := spl e.cs o cs } H) dead (w.setRow g (cur.toList.take o ++ L ++ cur.toList.drop (o + L.length)).toArray) := by
 obtain ⟨g', z', c, h1, h2, h3, h4, h5, h6⟩ := h.hp n e he
 rw [hg] at h1; injection h1 with h1; injection h1 with h1 h1'; subst h1; subst h1'
 rw [hcur] at h2; injection h2 with h2; injection h2 with h2 _ _; subst h2
 have hll := hc.len
 have hcl : e.cs.length ≤ cur.toList.length := by
  rcases Nat.lt_or_ge cur.toList.length e.cs.length with hlt | hge
  ·obtain ⟨y, hy, _⟩ := h4 cur.toList.length _ (List.getElem?_eq_getElem hlt)
   simp at hy
  ·exact hge
 refine ⟨?_, ?_, ?_, h.out.setRow h6 _⟩
 ·intro m e' he'
  rw [get_upd n _ H he] at he'
  split at he'
  ·rename_i hm
   subst hm
   injection he' with he'; subst he'
   refine ⟨g, z, _, hg, setRow_heap w g cur _ e.ty _ hcur, ?_, ?_, ?_, h6⟩
   ·have := spl_len (l := cur.toList) (cs := L) (o := o) (by omega)
    simp only [spl] at this
    simpa [← h3] using this
   ·intro i x hx
    simp only [spl_get (l := e.cs) (cs := cs) (o := o) ho] at hx
    have hs := spl_get (l := cur.toList) (cs := L) (o := o) (by omega) i
    simp only [spl] at hs
    simp only [hs]
    split at hx
    ·rename_i hi; simp only [hi, if_true]; exact h4 i x hx
    ·rename_i hi
     simp only [hi, if_false]
     split at hx
     ·rename_i hi2
      have : i < o + L.length := by omega
      simp only [this, if_true]
      exact hc.get _ hx
     ·rename_i hi2
      have : ¬ i < o + L.length := by omega
      simp only [this, if_false]
      exact h4 i x hx
   ·intro hx
    rw [h5 hx]
    exact (spl_len ho).symm
  ·rename_i hm
   refine (h.hp m e' he').mono (Ren.le_refl _) fun g1 z1 hg1 => setRow_other w g g1 _ ?_
   rintro rfl
   exact hm (h.inj m n e' e _ _ _ he' he hg1 hg)
 ·intro m m' e1 e2 g1 z1 z2 he1 he2 hg1 hg2
  rw [get_upd n _ H he] at he1 he2
  have key : ∀ m e1, (if m = n then some { e with cs := spl e.cs o cs } else get H m) = some e1 → ∃ e3, get H m = some e3 := fun m e1 hh => by
   split at hh
   ·rename_i hm; subst hm; exact ⟨e, he⟩
   ·exact ⟨_, hh⟩
  obtain ⟨e3, he3⟩ := key m e1 he1
  obtain ⟨e4, he4⟩ := key m' e2 he2
  exact h.inj m m' e3 e4 g1 z1 z2 he3 he4 hg1 hg2
 ·intro m x hm
  rw [get_upd n _ H he]
  rcases h.fr m x hm with h1 | h1
  ·left; split <;> simp_all
  ·exact .inr h1
theorem RH.moved (h : RH D w0 ρ H dead w) {n' : Nat} (hn : get H n' = none) (hd : n' ∉ dead) {w' : World} (old : Option Nat)
    (hold : ∀ n, old = some n → ∃ e g z, get H n = some e ∧ ρ n = some (g, z))
    (hgr : w.grownBy w' (old.bind fun n => (ρ n).map (·.1))) {g : Nat} {cur : Array Value} {ty : TypeId} (hcur : w'.heap[g]? = some (.cells cur ty (0, 0)))
    (hg : (old.bind fun n => (ρ n).map (·.1)) = some g ∨ g = w.heap.size) {cs : List C1} (hcs : ∀ (i : Nat) x, cs[i]? = some x → ∃ y, cur.toList[i]? = some y ∧ C1.R ρ x y) :
    let H1 := match old with | some n => del n H | none => H
    let d1 := match old with | some n => n :: dead | none => dead
    RH D w0 (ρ.add n' (g, cur.size)) (ins n' ⟨cs, ty, false⟩ H1) d1 w' ∧ ρ.le (ρ.add n' (g, cur.size)) := by
 intro H1 d1
 have h0 := h.unused hn hd
 have hle := Ren.le_add (x := (g, cur.size)) h0
 have hH1 : ∀ m e, get H1 m = some e → get H m = some e ∧ old ≠ some m := by
  intro m e he
  cases old with
  | none => exact ⟨he, by simp⟩
  | some n =>
   simp only [H1, get_del] at he
   split at he
   ·cases he
   ·rename_i hm; exact ⟨he, fun hh => hm (Option.some.inj hh).symm⟩
 have hn1 : get H1 n' = none := by
  cases hh : get H1 n' with
  | none => rfl
  | some e => rw [(hH1 n' e hh).1] at hn; cases hn
 have hfar : ∀ m e g1 z1, get H1 m = some e → ρ m = some (g1, z1) → g1 ≠ g ∧ some g1 ≠ (old.bind fun n => (ρ n).map (·.1)) := by
  intro m e g1 z1 he hm
  obtain ⟨he', hne⟩ := hH1 m e he
  have hlt := (h.hp m e he').block_lt g1 z1 hm
  have h2 : some g1 ≠ (old.bind fun n => (ρ n).map (·.1)) := by
   intro hh
   cases old with
   | none => cases hh
   | some n =>
    obtain ⟨e2, g2, z2, he2, hg2⟩ := hold n rfl
    simp [hg2] at hh
    subst hh
    exact hne (congrArg some (h.inj m n e e2 _ _ _ he' he2 hm hg2).symm)
  refine ⟨?_, h2⟩
  rintro rfl
  rcases hg with hg | hg
  ·exact h2 hg.symm
  ·omega
 have hgD : D g ∨ w0.heap.size ≤ g := by
  rcases hg with hg | hg
  ·cases old with
   | none => cases hg
   | some n =>
    obtain ⟨e2, g2, z2, he2, hg2⟩ := hold n rfl
    simp [hg2] at hg
    subst hg
    obtain ⟨g3, z3, c3, h1, _, _, _, _, h6⟩ := h.hp n e2 he2
    rw [hg2] at h1; injection h1 with h1; injection h1 with h1 _; subst h1; exact h6
  ·right; have := h.out.size; omega
 refine ⟨⟨?_, ?_, ?_, ?_⟩, hle⟩
 ·intro m e he
  rw [Qea n' _ H1 hn1] at he
  split at he
  ·rename_i hm
   subst hm
   injection he with he; subst he
   exact ⟨g, cur.size, cur, by simp [Ren.add], hcur, rfl, fun i x hx => let ⟨y, hy, hr⟩ := hcs i x hx; ⟨y, hy, C1.mono hle _ _ hr⟩, (by simp), hgD⟩
  ·refine (h.hp m e (hH1 m e he).1).mono hle fun g1 z1 hg1 => hgr.block g1 ((h.hp m e (hH1 m e he).1).block_lt g1 z1 hg1) (hfar m e g1 z1 he hg1).2
 ·intro m m' e e' g1 z z' he he' hg1 hg1'
  rw [Qea n' _ H1 hn1] at he he'
  unfold Ren.add at hg1 hg1'
  split at he <;> split at he' <;> rename_i h1 h2
  ·rw [h1, h2]
  ·simp only [h1, if_true, h2, if_false] at hg1 hg1'
   injection hg1 with hg1; injection hg1 with hg1 _
   exact absurd hg1.symm (hfar m' e' g1 z' he' hg1').1
  ·simp only [h1, if_false, h2, if_true] at hg1 hg1'
   injection hg1' with hg1'; injection hg1' with hg1' _
   exact absurd hg1'.symm (hfar m e g1 z he hg1).1
  ·simp only [h1, if_false, h2] at hg1 hg1'
   exact h.inj m m' e e' g1 z z' (hH1 _ _ he).1 (hH1 _ _ he').1 hg1 hg1'
 ·intro m x hm
  rw [Qea n' _ H1 hn1]
  unfold Ren.add at hm
  split at hm
  ·rename_i e; left; simp [e]
  ·rename_i e
   simp only [e, if_false]
   rcases h.fr m x hm with h1 | h1
   ·cases old with
    | none => exact .inl h1
    | some n =>
     simp only [H1, d1, get_del]
     by_cases hmn : m = n
     ·right; simp [hmn]
     ·left; simpa [hmn] using h1
   ·cases old with
    | none => exact .inr h1
    | some n => exact .inr (List.mem_cons_of_mem _ h1)
 ·refine ⟨hgr.os.trans h.out.os, hgr.tape.trans h.out.tape, hgr.output.trans h.out.output, Nat.le_trans h.out.size hgr.size, fun k hk hdk => ?_⟩
  rw [hgr.block k (Nat.lt_of_lt_of_le hk h.out.size), h.out.block k hk hdk]
  intro hh
  cases old with
  | none => cases hh
  | some n =>
   obtain ⟨e2, g2, z2, he2, hg2⟩ := hold n rfl
   simp [hg2] at hh
   subst hh
   obtain ⟨g3, z3, c3, h1, _, _, _, _, h6⟩ := h.hp n e2 he2
   rw [hg2] at h1; injection h1 with h1; injection h1 with h1 _; subst h1
   rcases h6 with h6 | h6
   ·exact hdk h6
   ·omega
end
def Qd0 : AV := .t []
theorem undef_R (ρ : Ren) : Qd0.R ρ undef := ⟨[], trivial, rfl⟩
noncomputable def nthA (l : List AV) : Nat → AV :=
 @List.rec AV (fun _ => Nat → AV) (fun _ => Qd0) (fun x _ ih i => @Nat.rec (fun _ => AV) x (fun j _ => ih j) i) l
noncomputable def setA (l : List AV) : Nat → AV → List AV :=
 @List.rec AV (fun _ => Nat → AV → List AV) (fun _ _ => []) (fun x l ih i v => @Nat.rec (fun _ => List AV) (v :: l) (fun j _ => x :: ih j v) i) l
theorem nthA_eq : ∀ (l : List AV) (i : Nat), nthA l i = (l[i]?).getD Qd0
 | [], i => rfl
 | x :: l, 0 => rfl
 | x :: l, i + 1 => (nthA_eq l i).trans (by simp)
theorem setA_eq : ∀ (l : List AV) (i : Nat) (v : AV), setA l i v = l.set i v
 | [], i, v => rfl
 | x :: l, 0, v => rfl
 | x :: l, i + 1, v => congrArg (x :: ·) (setA_eq l i v)
noncomputable def opV (tm : List AV) : Operand → Option AV
 | .tmp t => some (nthA tm t)
 | .const v => absV v
 | .func f => some (.c (.f f [] []))
 | .global _ => none
noncomputable def litV (tm : List AV) : Operand → Option Value
 | .const v => some v
 | .tmp t => (nthA tm t).lit
 | _ => none
noncomputable def opsV (tm : List AV) : List Operand → Option (List AV)
 | [] => some []
 | x :: l => match opV tm x, opsV tm l with
  | some v, some vs => some (v :: vs)
  | _, _ => none
abbrev RT (ρ : Ren) (tm : List AV) (a : Act) : Prop := All2 (AV.R ρ) tm a.tmps.toList
section
variable {ρ : Ren} {tm : List AV} {a : Act}
theorem Qdn (h : RT ρ tm a) (t : Nat) : (nthA tm t).R ρ (a.tmps.getD t undef) := by
 rw [nthA_eq]
 cases ht : tm[t]? with
 | none =>
  have h1 : tm.length ≤ t := List.getElem?_eq_none_iff.1 ht
  have h2 := h.len
  have h3 : a.tmps.size ≤ t := by rw [h2] at h1; simpa using h1
  simp only [Option.getD_none, Array.getD_eq_getD_getElem?, Array.getElem?_eq_none h3]
  exact undef_R ρ
 | some v =>
  obtain ⟨y, hy, hr⟩ := h.get t ht
  have : a.tmps[t]? = some y := by simpa using hy
  simp only [Option.getD_some, Array.getD_eq_getD_getElem?, this]
  exact hr
theorem Qay (h : RT ρ tm a) {x : Operand} {v : AV} (hv : opV tm x = some v) : v.R ρ (a.eval x) := by
 cases x with
 | tmp t => simp only [opV, Option.some.injEq] at hv; subst hv; exact Qdn h t
 | const c => exact absV_R hv
 | func f => simp only [opV, Option.some.injEq] at hv; subst hv; exact ⟨[], [], trivial, trivial, rfl⟩
 | global g => simp [opV] at hv
theorem litV_sound (h : RT ρ tm a) {x : Operand} {V : Value} (hv : litV tm x = some V) : a.eval x = V := by
 cases x with
 | tmp t => exact AV.lit_eq hv (Qdn h t)
 | const c => simpa [litV, Act.eval] using hv
 | func f => simp [litV] at hv
 | global g => simp [litV] at hv
theorem Qej (h : RT ρ tm a) : ∀ {l : List Operand} {vs : List AV}, opsV tm l = some vs → All2 (AV.R ρ) vs (l.map a.eval)
 | [], vs, hv => by simp [opsV] at hv; subst hv; trivial
 | x :: l, vs, hv => by
  unfold opsV at hv
  split at hv
  ·rename_i v vs' h1 h2
   simp at hv; subst hv
   exact ⟨Qay h h1, Qej h h2⟩
  ·cases hv
end
def Qd3 (P : Program) : Sem Next → Option Value
 | .pure (.value v) => some v
 | .program k => Qd3 P (k P)
 | _ => none
theorem pureN_run {P : Program} : ∀ {s : Sem Next} {v : Value}, Qd3 P s = some v → ∀ w, s.run P w = .ok (.value v) w
 | .pure n, v, h, w => by
  cases n <;> simp [Qd3] at h
  subst h; rfl
 | .program k, v, h, w => by
  simp only [Qd3] at h
  exact pureN_run h w
 | .load .., v, h, w => by simp [Qd3] at h
 | .store .., v, h, w => by simp [Qd3] at h
 | .new .., v, h, w => by simp [Qd3] at h
 | .shape .., v, h, w => by simp [Qd3] at h
 | .freeze .., v, h, w => by simp [Qd3] at h
 | .frozen .., v, h, w => by simp [Qd3] at h
 | .getObj .., v, h, w => by simp [Qd3] at h
 | .setObj .., v, h, w => by simp [Qd3] at h
 | .choose .., v, h, w => by simp [Qd3] at h
 | .sys .., v, h, w => by simp [Qd3] at h
 | .mark .., v, h, w => by simp [Qd3] at h
 | .halt .., v, h, w => by simp [Qd3] at h
def isSel : Op → Bool
 | .select .. => true
 | _ => false
noncomputable def allLit (tm : List AV) : List Operand → Bool
 | [] => true
 | x :: l => (litV tm x).isSome && allLit tm l
noncomputable def runLit (P : Program) (tm : List AV) (o : Oper) : Option AV :=
 if allLit tm o.op.operands.toList && !isSel o.op then
  match Qd3 P (execOp (fun x => (litV tm x).getD undef) o) with
  | some v => absV v
  | none => none
 else none
theorem allLit_mem {tm : List AV} : ∀ {l : List Operand}, allLit tm l = true → ∀ x ∈ l, (litV tm x).isSome = true
 | x :: l, h, y, hy => by
  simp only [allLit, Bool.and_eq_true] at h
  rcases List.mem_cons.1 hy with rfl | hy
  ·exact h.1
  ·exact allLit_mem h.2 y hy
theorem Qcw {P : Program} {ρ : Ren} {tm : List AV} {a : Act} (h : RT ρ tm a) {o : Oper} {v : AV} (hv : runLit P tm o = some v) :
    ∃ V, v.R ρ V ∧ ∀ w, (execOp a.eval o).run P w = .ok (.value V) w := by
 unfold runLit at hv
 split at hv
 ·rename_i hc
  simp only [Bool.and_eq_true, Bool.not_eq_true'] at hc
  split at hv
  ·rename_i V hV
   refine ⟨V, absV_R hv, fun w => ?_⟩
   rw [execOp_congr (ρ := a.eval) (ρ' := fun x => (litV tm x).getD undef) o (fun cs b hh => by simp [hh, isSel] at hc) fun x hx => ?_]
   ·exact pureN_run hV w
   ·have := allLit_mem hc.1 x (by simpa using hx)
    obtain ⟨V', hV'⟩ := Option.isSome_iff_exists.1 this
    rw [litV_sound h hV', hV']; rfl
  ·cases hv
 ·cases hv
section
variable {P : Program} {ρ : Ren}
theorem Qcl {t : TypeId} {i : TypeInfo} (h : P.info? t = some i) (w : World) : (sizeOf t).run P w = .ok i.size w := by
 simp [sizeOf, typeInfo, h]
theorem addr_add (g o n : Nat) : (⟨g, o, none⟩ : Addr).add n = ⟨g, o + n, none⟩ := by
 unfold Addr.add; split <;> simp_all
def Qe0 (P : Program) (s : TypeId) (v : AV) (f : Nat) : Option AV :=
 match v, P.underlying s with
 | .c (.c (.p (some (n, o)))), some (.struct fields) =>
  match fields[f]? with
  | some fd => match P.info? fd.type with
   | some i => if i.size = 0 then none else some (.c (.c (.p (some (n, o + fd.offset)))))
   | none => none
  | none => none
 | _, _ => none
theorem evFieldAddr_sound {s : TypeId} {v r : AV} {V : Value} {f : Nat} (hv : v.R ρ V) (h : Qe0 P s v f = some r) :
    ∃ V', r.R ρ V' ∧ ∀ w, (Instr.fieldAt s V f).run P w = .ok V' w := by
 unfold Qe0 at h
 split at h
 ·rename_i n o fields hu
  split at h
  ·rename_i fd hf
   split at h
   ·rename_i i hi
    split at h
    ·cases h
    ·rename_i hz
     simp at h; subst h
     obtain ⟨g, z, h1, rfl⟩ := hv
     refine ⟨.pointer (some ⟨g, o + fd.offset, none⟩), ⟨g, z, h1, rfl⟩, fun w => ?_⟩
     simp [Instr.fieldAt, run_underlying hu, hf, Instr.sureAddr, fieldPlace, Qcl hi, hz, addr_add]
   ·cases h
  ·cases h
 ·cases h
def Qez (P : Program) (t : TypeId) (v ix : AV) : Option AV :=
 match P.underlying t, v, ix with
 | some (.slice el), .c (.c (.s (some (n, o)) len _ _ _)), .c (.c (.i _ j)) =>
  match P.info? el with
  | some i => if 0 ≤ j ∧ j < (len : Int) then some (.c (.c (.p (some (n, o + j.toNat * i.size))))) else none
  | none => none
 | _, _, _ => none
theorem evIndexAddr_sound {t : TypeId} {v ix r : AV} {V X : Value} (hv : v.R ρ V) (hx : ix.R ρ X) (h : Qez P t v ix = some r) :
    ∃ V', r.R ρ V' ∧ ∀ w, (Instr.indexAt t V X).run P w = .ok V' w := by
 unfold Qez at h
 split at h
 ·rename_i el n o len cap sz full k j hu
  split at h
  ·rename_i i hi
   split at h
   ·rename_i hj
    simp at h; subst h
    obtain ⟨g, z, c, h1, rfl, _⟩ := hv
    cases hx
    refine ⟨.pointer (some ⟨g, o + j.toNat * i.size, none⟩), ⟨g, z, h1, rfl⟩, fun w => ?_⟩
    simp [Instr.indexAt, asIntOf, run_underlying hu, Qcl hi, hj, addr_add]
   ·cases h
  ·cases h
 ·cases h
def intA : AV → Option Int
 | .c (.c (.i _ j)) => some j
 | _ => none
def lowA (lo : Option AV) : Option Nat :=
 match lo with
 | none => some 0
 | some v => match intA v with
  | some j => if 0 ≤ j then some j.toNat else none
  | none => none
def highA (len : Nat) (hi : Option AV) : Option Nat :=
 match hi with
 | none => some len
 | some v => match intA v with
  | some j => if 0 ≤ j then some j.toNat else none
  | none => none
def offA (o len sz l : Nat) (cap : Option Nat) : Option Nat :=
 if l = 0 then some o else if l < len then some (o + l * sz) else match cap with
  | some c => some (if c = l then o else o + l * sz)
  | none => none
def evSlice (P : Program) (t : TypeId) (v : AV) (lo hi : Option AV) : Option AV :=
 match P.underlying t, v with
 | some (.slice el), .c (.c (.s (some (n, o)) len cap sz full)) =>
  match P.info? el, lowA lo, highA len hi with
  | some i, some l, some h => if l ≤ h ∧ h ≤ len ∧ i.size = sz then
      match offA o len sz l cap with
      | some o' => some (.c (.c (.s (some (n, o')) (h - l) (cap.map (· - l)) sz (full && (o' = o + l * sz)))))
      | none => none
   else none
  | _, _, _ => none
 | some (.slice el), .c (.c (.s none len cap sz full)) =>
  match P.info? el, lowA lo, highA 0 hi with
  | some i, some l, some h => if l = 0 ∧ h = 0 then some (.c (.c (.s none len cap sz full))) else none
  | _, _, _ => none
 | _, _ => none
def OptR (ρ : Ren) : Option AV → Option Value → Prop
 | none, none => True
 | some v, some V => v.R ρ V
 | _, _ => False
theorem bound_run {v : AV} {V : Value} {j : Int} {y : Nat} (hv : v.R ρ V) (hi : intA v = some j) (h0 : 0 ≤ j) (hy : j.toNat ≤ y) (code : BoundsCode) (w : World) : (Instr.sliceBound V y code).run P w = .ok j.toNat w := by
 unfold intA at hi
 split at hi
 ·rename_i k j'
  simp at hi; subst hi
  cases hv
  have h1 : j' ≤ (y : Int) := by omega
  simp [Instr.sliceBound, asIntOf, h0, h1]
 ·cases hi
theorem bounds_run {lo hi : Option AV} {LO HI : Option Value} {l h len c : Nat} (hlo : OptR ρ lo LO) (hhi : OptR ρ hi HI) (h1 : lowA lo = some l) (h2 : highA len hi = some h) (hlh : l ≤ h) (hc : h ≤ c) (w : World) :
    (Instr.sliceBounds true len c LO HI none).run P w = .ok (l, h, c) w := by
 have e2 : ∀ w, (match HI with | some v => Instr.sliceBound v c .sliceAcap | none => pure len : Sem Nat).run P w = .ok h w := by
  intro w
  cases hi with
  | none => cases HI with
   | none => simp [highA] at h2; subst h2; simp
   | some V => exact hhi.elim
  | some v => cases HI with
   | none => exact hhi.elim
   | some V =>
    simp only [highA] at h2
    split at h2
    ·rename_i j hj
     split at h2
     ·rename_i h0; simp at h2; subst h2; exact bound_run hhi hj h0 hc _ w
     ·cases h2
    ·cases h2
 have e1 : ∀ w, (match LO with | some v => Instr.sliceBound v h .sliceB | none => pure 0 : Sem Nat).run P w = .ok l w := by
  intro w
  cases lo with
  | none => cases LO with
   | none => simp [lowA] at h1; subst h1; simp
   | some V => exact hlo.elim
  | some v => cases LO with
   | none => exact hlo.elim
   | some V =>
    simp only [lowA] at h1
    split at h1
    ·rename_i j hj
     split at h1
     ·rename_i h0; simp at h1; subst h1; exact bound_run hlo hj h0 hlh _ w
     ·cases h1
    ·cases h1
 cases HI <;> cases LO <;> simp_all [Instr.sliceBounds]
theorem Qdc {t : TypeId} {v r : AV} {lo hi : Option AV} {V : Value} {LO HI : Option Value} (hv : v.R ρ V) (hlo : OptR ρ lo LO) (hhi : OptR ρ hi HI) (h : evSlice P t v lo hi = some r) :
    ∃ V', r.R ρ V' ∧ ∀ w, (Instr.sliceAt t V LO HI none).run P w = .ok V' w := by
 unfold evSlice at h
 split at h
 ·rename_i el n o len cap sz full hu
  split at h
  ·rename_i i l hh hi' hl hhg
   split at h
   ·rename_i hc
    obtain ⟨hlh, hhl, hsz⟩ := hc
    split at h
    ·rename_i o' ho'
     simp at h; subst h
     obtain ⟨g, z, c, h1, rfl, h2, h3, h4, h5, h6⟩ := hv
     have hb := bounds_run (P := P) hlo hhi hl hhg hlh (Nat.le_trans hhl h3)
     have hadd : (if c = l then some (⟨g, o, none⟩ : Addr) else some (⟨g, o + l * sz, none⟩ : Addr)) = some ⟨g, o', none⟩ := by
      unfold offA at ho'
      split at ho'
      ·rename_i hl0; simp at ho'; subst ho'; subst hl0; split <;> simp
      ·split at ho'
       ·rename_i hl0 hl1; simp at ho'; subst ho'; rw [if_neg (by omega)]
       ·split at ho'
        ·rename_i c' ; simp at ho'; subst ho'; have := h2 _ rfl; subst this; split <;> rfl
        ·cases ho'
     have ho2 : o' = o ∨ o' = o + l * sz := by
      split at hadd
      ·injection hadd with hadd; injection hadd with _ hadd; exact .inl hadd.symm
      ·injection hadd with hadd; injection hadd with _ hadd; exact .inr hadd.symm
     have hcl : (c - l) * sz + l * sz = c * sz := by rw [← Nat.add_mul]; congr 1; omega
     refine ⟨.slice (some ⟨g, o', none⟩) (hh - l) (c - l), ⟨g, z, c - l, h1, rfl, ?_, by omega, by omega, by omega, ?_⟩, fun w => ?_⟩
     ·intro c' hc'
      cases cap with
      | none => simp at hc'
      | some c0 => simp at hc'; have := h2 c0 rfl; omega
     ·intro hf
      simp at hf
      have := h6 hf.1
      have := hf.2
      omega
     ·simp only [Instr.sliceAt, Sem.run_bind, run_underlying hu, Result.andThen_ok, Instr.slice, hb, Qcl hi', hsz, Sem.run_pure, Option.map_some, addr_add, hadd]
    ·cases h
   ·cases h
  ·cases h
 ·rename_i el len cap sz full hu
  split at h
  ·rename_i i l hh hi' hl hhg
   split at h
   ·rename_i hc
    obtain ⟨rfl, rfl⟩ := hc
    simp at h; subst h
    cases hv
    have hb := bounds_run (P := P) (c := 0) hlo hhi hl hhg (Nat.le_refl _) (Nat.le_refl _)
    refine ⟨.slice none 0 0, rfl, fun w => ?_⟩
    simp only [Instr.sliceAt, Sem.run_bind, run_underlying hu, Result.andThen_ok, Instr.slice, hb, Qcl hi', Sem.run_pure]
    simp
   ·cases h
  ·cases h
 ·cases h
end
def cellsA : AV → Option (List C1)
 | .c x => some [x]
 | .g l => some l
 | .t _ => none
theorem cellsA_R {ρ : Ren} {v : AV} {V : Value} {cs : List C1} (h : cellsA v = some cs) (hr : v.R ρ V) : ∃ L, All2 (C1.R ρ) cs L ∧ V.cells = L.toArray := by
 cases v with
 | c x =>
  simp [cellsA] at h; subst h
  refine ⟨[V], ⟨hr, trivial⟩, ?_⟩
  have h1 := C1.one hr
  cases V <;> first | rfl | simp [Value.oneCell'] at h1
 | g l => simp [cellsA] at h; subst h; obtain ⟨L, h1, rfl⟩ := hr; exact ⟨L, h1, rfl⟩
 | t l => simp [cellsA] at h
def fillA (place : Nat → Option (Nat × Nat)) (l : List C1) : List (Nat × AV) → Option (List C1)
 | [] => some l
 | (i, v) :: rest => match place i, cellsA v with
  | some (off, size), some cs => if cs.length = size ∧ off + cs.length ≤ l.length then fillA place (spl l off cs) rest else none
  | _, _ => none
theorem fold_spl (L : List Value) (off : Nat) : ∀ (vs : List Value) (k : Nat), off + k + vs.length ≤ L.length →
    ((vs.zipIdx k).foldl (fun (cs : Array Value) (x : Value × Nat) => cs.setIfInBounds (off + x.2) x.1) L.toArray) = (spl L (off + k) vs).toArray := by
 intro vs
 induction vs generalizing L with
 | nil => intro k h; simp [spl]
 | cons v vs ih =>
  intro k h
  simp only [List.length_cons] at h
  simp only [List.zipIdx_cons, List.foldl_cons]
  have h1 : (L.toArray.setIfInBounds (off + k) v) = (L.set (off + k) v).toArray := by simp
  rw [h1, ih _ _ (by simp; omega)]
  congr 1
  apply List.ext_getElem?
  intro j
  rw [spl_get (by simp; omega), spl_get (by simp; omega)]
  simp only [List.length_cons, List.getElem?_set]
  by_cases hj : j < off + k
  ·simp [hj, show j < off + (k + 1) by omega, show ¬ off + k = j by omega]
  ·by_cases hj2 : j = off + k
   ·subst hj2; simp [show off + k < L.length by omega]
   ·have e1 : ¬ j < off + (k + 1) := by omega
    simp only [hj, e1, if_false]
    by_cases hj3 : j < off + k + (vs.length + 1)
    ·have : j - (off + k) = (j - (off + (k + 1))) + 1 := by omega
     simp [show j < off + (k + 1) + vs.length by omega, hj3, this]
    ·simp [show ¬ j < off + (k + 1) + vs.length by omega, hj3, show ¬ off + k = j by omega]
theorem All2.spl {α β : Type} {R : α → β → Prop} {l cs : List α} {m L : List β} (h : All2 R l m) (hc : All2 R cs L) {o : Nat} (ho : o + cs.length ≤ l.length) : All2 R (spl l o cs) (spl m o L) := by
 have e1 := h.len
 have e2 := hc.len
 refine All2.of (by rw [spl_len ho, spl_len (by omega), e1]) fun i x hx => ?_
 rw [spl_get ho] at hx
 rw [spl_get (by omega), ← e2]
 split at hx
 ·rename_i hi; simp only [hi, if_true]; exact h.get i hx
 ·rename_i hi
  simp only [hi, if_false]
  split at hx
  ·rename_i hi2; simp only [hi2, if_true]; exact hc.get _ hx
  ·rename_i hi2; simp only [hi2, if_false]; exact h.get i hx
abbrev PartsR (ρ : Ren) : List (Nat × AV) → List (Nat × Value) → Prop := All2 (fun x y => x.1 = y.1 ∧ x.2.R ρ y.2)
theorem Qey {ρ : Ren} (place : Nat → Option (Nat × Nat)) : ∀ {parts : List (Nat × AV)} {PS : List (Nat × Value)} {l l' : List C1} {L : List Value}, All2 (C1.R ρ) l L → PartsR ρ parts PS → fillA place l parts = some l' →
    ∃ L', Instr.fill place L.toArray PS = some L'.toArray ∧ All2 (C1.R ρ) l' L'
 | [], [], l, l', L, hl, _, h => by
  simp [fillA] at h; subst h; exact ⟨L, rfl, hl⟩
 | (i, v) :: parts, (j, V) :: PS, l, l', L, hl, ⟨⟨h1, h2⟩, h3⟩, h => by
  simp only at h1 h2
  subst h1
  unfold fillA at h
  split at h
  ·rename_i off size cs hp hcs
   split at h
   ·rename_i hb
    obtain ⟨CL, hC, hV⟩ := cellsA_R hcs h2
    have e1 := hC.len
    have e2 := hl.len
    obtain ⟨L', hL', hr⟩ := Qey place (hl.spl hC hb.2) h3 h
    refine ⟨L', ?_, hr⟩
    unfold Instr.fill
    simp only [hp, hV]
    have hsz : CL.toArray.size = size := by simp; omega
    rw [if_neg (by simp; omega)]
    have := fold_spl L off CL 0 (by omega)
    simp only [Nat.add_zero] at this
    rw [← Array.foldl_toList, Array.toList_zipIdx]
    have e3 : (List.foldl (fun (cs : Array Value) (x : Value × Nat) => cs.setIfInBounds (off + x.2) x.1) L.toArray CL.toArray.toList.zipIdx) = (Go.Proofs.YtchpkjgibloleaaGreat.V.spl L off CL).toArray := this
    exact (congrArg (fun z => Instr.fill place z PS) e3).trans hL'
   ·cases h
  ·cases h
 | [], _ :: _, _, _, _, _, hp, _ => hp.elim
 | _ :: _, [], _, _, _, _, hp, _ => hp.elim
noncomputable def partsV (tm : List AV) : List (Nat × Operand) → Option (List (Nat × AV))
 | [] => some []
 | (i, x) :: l => match opV tm x, partsV tm l with
  | some v, some vs => some ((i, v) :: vs)
  | _, _ => none
theorem Qd4 {ρ : Ren} {tm : List AV} {a : Act} (h : RT ρ tm a) : ∀ {l : List (Nat × Operand)} {vs : List (Nat × AV)}, partsV tm l = some vs → PartsR ρ vs (l.map fun (i, x) => (i, a.eval x))
 | [], vs, hv => by simp [partsV] at hv; subst hv; trivial
 | (i, x) :: l, vs, hv => by
  unfold partsV at hv
  split at hv
  ·rename_i v vs' h1 h2
   simp at hv; subst hv
   exact ⟨⟨rfl, Qay h h1⟩, Qd4 h h2⟩
  ·cases hv
section
variable {P : Program} {ρ : Ren}
def zeroA (P : Program) (t : TypeId) : Option (List C1) :=
 match P.info? t with
 | some i => match i.zero with
  | some z => absCs z.cells.toList
  | none => none
 | none => none
def placesA (P : Program) : List Field → Option (List (Nat × Nat))
 | [] => some []
 | f :: fs => match P.info? f.type, placesA P fs with
  | some i, some l => some ((f.offset, i.size) :: l)
  | _, _ => none
theorem placesA_eq : ∀ {fs : List Field} {l : List (Nat × Nat)}, placesA P fs = some l → fs.mapM (fun f => (P.info? f.type).map fun i => (f.offset, i.size)) = some l
 | [], l, h => by simp [placesA] at h; subst h; rfl
 | f :: fs, l, h => by
  unfold placesA at h
  split at h
  ·rename_i i l' hi hl
   simp at h; subst h
   simp [List.mapM_cons, hi, placesA_eq hl]
  ·cases h
def evBuild (P : Program) (t : TypeId) (parts : List (Nat × AV)) : Option AV :=
 match zeroA P t, P.underlying t with
 | some z, some (.struct fields) => match placesA P fields.toList with
  | some pl => (fillA (fun i => pl[i]?) z parts).map .g
  | none => none
 | _, _ => none
theorem evBuild_sound {t : TypeId} {parts : List (Nat × AV)} {PS : Array (Nat × Value)} {r : AV} (hp : PartsR ρ parts PS.toList) (h : evBuild P t parts = some r) :
    ∃ V', r.R ρ V' ∧ ∀ w, (Instr.build t PS).run P w = .ok V' w := by
 unfold evBuild at h
 split at h
 ·rename_i z fields hz hu
  split at h
  ·rename_i pl hpl
   obtain ⟨l', hl', rfl⟩ := Option.map_eq_some_iff.1 h
   unfold zeroA at hz
   split at hz
   ·rename_i i hi
    split at hz
    ·rename_i zv hzv
     obtain ⟨L', hL', hr⟩ := Qey (fun i => pl[i]?) (absCs_R (ρ := ρ) hz) hp hl'
     refine ⟨.agg L'.toArray, ⟨L', hr, rfl⟩, fun w => run_build w t PS _ ?_⟩
     unfold Program.built
     simp only [hi, hu, hzv, placesA_eq hpl]
     simpa using hL'
    ·cases hz
   ·cases hz
  ·cases h
 ·cases h
def aggB (P : Program) (t : TypeId) : Option Bool :=
 match P.underlying t with
 | some (.struct _) | some (.array _ _) => some true
 | some _ => some false
 | none => none
theorem aggB_run {t : TypeId} {b : Bool} (h : aggB P t = some b) (w : World) : (isAgg t).run P w = .ok b w := by
 unfold aggB at h
 split at h
 ·rename_i hu; simp at h; subst h; simp [isAgg, run_underlying hu]
 ·rename_i hu; simp at h; subst h; simp [isAgg, run_underlying hu]
 ·rename_i d h1 h2 hu
  simp at h; subst h
  simp only [isAgg, Sem.run_bind, run_underlying hu, Result.andThen_ok]
  cases d <;> first | rfl | (exact absurd rfl (h1 _)) | (exact absurd rfl (h2 _ _))
 ·cases h
theorem All2.ext {α β : Type} {R : α → β → Prop} {l : List α} {m : List β} (h : All2 R l m) (o n : Nat) : All2 R ((l.drop o).take n) ((m.drop o).take n) := by
 have e := h.len
 refine All2.of (by simp [e]) fun i x hx => ?_
 rw [List.getElem?_take] at hx ⊢
 split at hx
 ·rename_i hi
  simp only [hi, if_true]
  rw [List.getElem?_drop] at hx ⊢
  exact h.get _ hx
 ·cases hx
def evField (P : Program) (t : TypeId) (v : AV) (f : Nat) : Option AV :=
 match v, P.underlying t with
 | .g l, some (.struct fields) => match fields[f]? with
  | some fd => match aggB P fd.type, P.info? fd.type with
   | some true, some i => some (.g ((l.drop fd.offset).take i.size))
   | some false, _ => (l[fd.offset]?).map .c
   | _, _ => none
  | none => none
 | _, _ => none
theorem evField_sound {t : TypeId} {v r : AV} {V : Value} {f : Nat} (hv : v.R ρ V) (h : evField P t v f = some r) :
    ∃ V', r.R ρ V' ∧ ∀ w, (Instr.field t V f).run P w = .ok V' w := by
 unfold evField at h
 split at h
 ·rename_i l fields hu
  obtain ⟨L, hL, rfl⟩ := hv
  split at h
  ·rename_i fd hf
   split at h
   ·rename_i i hag hi
    simp at h; subst h
    refine ⟨.agg ((L.drop fd.offset).take i.size).toArray, ⟨_, hL.ext _ _, rfl⟩, fun w => ?_⟩
    simp [Instr.field, run_underlying hu, hf, asAgg, part, aggB_run hag, Qcl hi]
   ·rename_i hag
    obtain ⟨x, hx, rfl⟩ := Option.map_eq_some_iff.1 h
    obtain ⟨y, hy, hr⟩ := hL.get _ hx
    refine ⟨y, hr, fun w => ?_⟩
    simp [Instr.field, run_underlying hu, hf, asAgg, part, aggB_run hag, hy]
   ·cases h
  ·cases h
 ·cases h
def evExtract (v : AV) (k : Nat) : Option AV :=
 match v with
 | .t l => match l[k]? with
  | some (.c x) => some (.c x)
  | some (.g m) => some (.g m)
  | none => none
 | _ => none
theorem evExtract_sound {v r : AV} {V : Value} {k : Nat} (hv : v.R ρ V) (h : evExtract v k = some r) :
    ∃ V', r.R ρ V' ∧ ∀ w, (Instr.extract V k).run P w = .ok V' w := by
 unfold evExtract at h
 split at h
 ·rename_i l
  obtain ⟨L, hL, rfl⟩ := hv
  split at h
  ·rename_i x hx
   simp at h; subst h
   obtain ⟨y, hy, hr⟩ := hL.get _ hx
   exact ⟨y, hr, fun w => by simp [Instr.extract, hy]⟩
  ·rename_i x hx
   simp at h; subst h
   obtain ⟨y, hy, hr⟩ := hL.get _ hx
   exact ⟨y, hr, fun w => by simp [Instr.extract, hy]⟩
  ·cases h
 ·cases h
def nilA : AV → Option Bool
 | .c (.c (.p none)) => some true
 | .c (.c (.p (some _))) => some false
 | .c (.c (.s none _ _ _ _)) => some true
 | .c (.c (.s (some _) _ _ _ _)) => some false
 | .c (.c .nilF) => some true
 | .c (.f _ _ _) => some false
 | _ => none
def kindOk (P : Program) (t : TypeId) (x y : AV) : Bool :=
 match P.underlying t, x, y with
 | some (.pointer _), .c (.c (.p _)), .c (.c (.p _)) => true
 | some (.slice _), .c (.c (.s ..)), .c (.c (.s ..)) => true
 | _, _, _ => false
def evNil (P : Program) (t : TypeId) (x y : AV) : Option Bool :=
 match nilA x, nilA y with
 | some a, some b => if (a || b) && kindOk P t x y then some (a && b) else none
 | _, _ => none
theorem eq_p1 {t e : TypeId} (hu : P.underlying t = some (.pointer e)) (d : Nat) (b : Option Addr) (w : World) : (Op.equalIn (d + 1) t (.pointer none) (.pointer b)).run P w = .ok b.isNone w := by
 simp only [Op.equalIn, Sem.run_bind, run_underlying hu, Result.andThen_ok]; rfl
theorem eq_p2 {t e : TypeId} (hu : P.underlying t = some (.pointer e)) (d : Nat) (b : Addr) (w : World) : (Op.equalIn (d + 1) t (.pointer (some b)) (.pointer none)).run P w = .ok false w := by
 simp only [Op.equalIn, Sem.run_bind, run_underlying hu, Result.andThen_ok]; rfl
theorem eq_s1 {t e : TypeId} (hu : P.underlying t = some (.slice e)) (d : Nat) (b : Option Addr) (l c l' c' : Nat) (w : World) : (Op.equalIn (d + 1) t (.slice none l c) (.slice b l' c')).run P w = .ok b.isNone w := by
 simp only [Op.equalIn, Sem.run_bind, run_underlying hu, Result.andThen_ok]; rfl
theorem eq_s2 {t e : TypeId} (hu : P.underlying t = some (.slice e)) (d : Nat) (b : Addr) (l c l' c' : Nat) (w : World) : (Op.equalIn (d + 1) t (.slice (some b) l c) (.slice none l' c')).run P w = .ok false w := by
 simp only [Op.equalIn, Sem.run_bind, run_underlying hu, Result.andThen_ok]; rfl
theorem evNil_sound {t : TypeId} {x y : AV} {X Y : Value} {b : Bool} (hx : x.R ρ X) (hy : y.R ρ Y) (h : evNil P t x y = some b) :
    ∀ w, (Op.equal t X Y).run P w = .ok b w := by
 intro w
 show (Op.equalIn (9999 + 1) t X Y).run P w = .ok b w
 unfold evNil at h
 split at h
 ·rename_i p q hp hq
  split at h
  ·rename_i hc
   simp at h; subst h
   simp only [Bool.and_eq_true] at hc
   obtain ⟨hc, hk⟩ := hc
   unfold kindOk at hk
   split at hk
   ·rename_i e a1 a2 hu
    cases a1 <;> cases a2 <;> simp [nilA] at hp hq <;> subst hp <;> subst hq
    ·cases hx; cases hy; exact eq_p1 hu _ _ _
    ·cases hx; obtain ⟨g, z, _, rfl⟩ := hy; exact eq_p1 hu _ _ _
    ·cases hy; obtain ⟨g, z, _, rfl⟩ := hx; exact eq_p2 hu _ _ _
    ·simp at hc
   ·rename_i e a1 _ _ _ _ a2 _ _ _ _ hu
    cases a1 <;> cases a2 <;> simp [nilA] at hp hq <;> subst hp <;> subst hq
    ·cases hx; cases hy; exact eq_s1 hu _ _ _ _ _ _ _
    ·cases hx; obtain ⟨g, z, c, _, rfl, _⟩ := hy; exact eq_s1 hu _ _ _ _ _ _ _
    ·cases hy; obtain ⟨g, z, c, _, rfl, _⟩ := hx; exact eq_s2 hu _ _ _ _ _ _ _
    ·simp at hc
   ·cases hk
  ·cases h
 ·cases h
def c0A : AV → Option C0
 | .c (.c x) => some x
 | _ => none
def c0s : List AV → Option (List C0)
 | [] => some []
 | v :: l => match c0A v, c0s l with
  | some x, some xs => some (x :: xs)
  | _, _ => none
theorem c0s_R : ∀ {l : List AV} {xs : List C0} {L : List Value}, c0s l = some xs → All2 (AV.R ρ) l L → All2 (C0.R ρ) xs L
 | [], xs, [], h, _ => by simp [c0s] at h; subst h; trivial
 | v :: l, xs, V :: L, h, ⟨h1, h2⟩ => by
  unfold c0s at h
  split at h
  ·rename_i x xs' hx hxs
   simp at h; subst h
   refine ⟨?_, c0s_R hxs h2⟩
   unfold c0A at hx
   split at hx
   ·simp at hx; subst hx; exact h1
   ·cases hx
  ·cases h
 | [], _, _ :: _, _, hh => hh.elim
 | _ :: _, _, [], _, hh => hh.elim
noncomputable def evFunc (tm : List AV) (fn : Fn) (first cap : List Operand) : Option AV :=
 match fn, opsV tm first, opsV tm cap with
 | .func f, some a, some b => match c0s a, c0s b with
  | some x, some y => some (.c (.f f x y))
  | _, _ => none
 | _, _, _ => none
def lim : IntKind → Nat
 | .i64 => 9223372036854775808
 | .u64 => 18446744073709551616
 | .u8 => 256
 | _ => 0
noncomputable def forceN {α : Type} (n : Nat) (f : Nat → α) : α := @Nat.rec (fun _ => α) (f 0) (fun p _ => f (p + 1)) n
theorem Qc6 {α : Type} (n : Nat) (f : Nat → α) : forceN n f = f n := by cases n <;> rfl
def sameK : IntKind → IntKind → Bool
 | .i64, .i64 => true
 | .u64, .u64 => true
 | .u8, .u8 => true
 | _, _ => false
theorem sameK_eq {k k' : IntKind} (h : sameK k k' = true) : k = k' := by cases k <;> cases k' <;> simp [sameK] at h <;> rfl
noncomputable def fastBin (op : BinOp) (k k' : IntKind) (m n : Nat) : Option C0 :=
 cond (sameK k k') (match op with
  | .add => forceN (m + n) fun r => cond (Nat.blt r (lim k)) (some (.i k (.ofNat r))) none
  | .mul => forceN (m * n) fun r => cond (Nat.blt r (lim k)) (some (.i k (.ofNat r))) none
  | .sub => cond (Nat.ble n m && Nat.blt m (lim k)) (forceN (m - n) fun r => some (.i k (.ofNat r))) none
  | .eql => some (.b (Nat.beq m n))
  | .neq => some (.b (!Nat.beq m n))
  | .lss => some (.b (Nat.blt m n))
  | .leq => some (.b (Nat.ble m n))
  | .gtr => some (.b (Nat.blt n m))
  | .geq => some (.b (Nat.ble n m))
  | _ => none) none
theorem Qeg {k : IntKind} {n : Nat} (h : n < lim k) : k.wrap (n : Int) = n := by
 cases k <;> simp [lim] at h <;> simp [IntKind.wrap, IntKind.bits, IntKind.signed] <;> omega
theorem eqGuard_int (op : BinOp) (t : TypeId) (x y : Operand) (k k' : IntKind) (m n : Int) (w : World) : (eqGuard op t x y (.int k m) (.int k' n)).run P w = .ok () w := by
 unfold eqGuard; split <;> rfl
theorem fastBin_sound {op : BinOp} {k k' : IntKind} {m n : Nat} {r : C0} (h : fastBin op k k' m n = some r) (t : TypeId) :
    ∃ V, r.R ρ V ∧ ∀ w, (binOp op t (.int k (.ofNat m)) (.int k' (.ofNat n))).run P w = .ok V w := by
 unfold fastBin at h
 cases hk : sameK k k' with
 | false => simp [hk] at h
 | true =>
  have := sameK_eq hk
  subst this
  rw [hk] at h
  simp only [cond_true, Qc6] at h
  cases op <;> simp only at h
  case add =>
   cases hb : Nat.blt (m + n) (lim k) with
   | false => simp [hb] at h
   | true =>
    simp [hb] at h; subst h
    refine ⟨_, rfl, fun w => ?_⟩
    have h1 : m + n < lim k := by simpa [Nat.blt_eq] using hb
    have h2 : k.wrap ((m : Int) + (n : Int)) = (m : Int) + (n : Int) := by have := Qeg h1; simpa using this
    simp [binOp, Op.intArith, h2]
  case mul =>
   cases hb : Nat.blt (m * n) (lim k) with
   | false => simp [hb] at h
   | true =>
    simp [hb] at h; subst h
    refine ⟨_, rfl, fun w => ?_⟩
    have h1 : m * n < lim k := by simpa [Nat.blt_eq] using hb
    have h2 : k.wrap ((m : Int) * (n : Int)) = (m : Int) * (n : Int) := by have := Qeg h1; simpa using this
    simp [binOp, Op.intArith, h2]
  case sub =>
   cases hb : (Nat.ble n m && Nat.blt m (lim k)) with
   | false => simp [hb] at h
   | true =>
    rw [hb] at h
    simp at h; subst h
    simp only [Bool.and_eq_true] at hb
    have h0 : n ≤ m := Nat.le_of_ble_eq_true hb.1
    have h1 : m < lim k := by simpa [Nat.blt_eq] using hb.2
    refine ⟨_, rfl, fun w => ?_⟩
    have h2 := Qeg (show m - n < lim k by omega)
    have h3 : (m : Int) - (n : Int) = ((m - n : Nat) : Int) := by omega
    simp [binOp, Op.intArith, h3, h2]
  case eql =>
   simp at h; subst h
   refine ⟨_, rfl, fun w => ?_⟩
   have : ((m : Int) == (n : Int)) = Nat.beq m n := by rw [Bool.eq_iff_iff]; simp only [beq_iff_eq, Nat.beq_eq]; omega
   simp [binOp, Op.intCmp, this]
  case neq =>
   simp at h; subst h
   refine ⟨_, rfl, fun w => ?_⟩
   have : ((m : Int) != (n : Int)) = !Nat.beq m n := by
    have h1 : ((m : Int) == (n : Int)) = Nat.beq m n := by rw [Bool.eq_iff_iff]; simp only [beq_iff_eq, Nat.beq_eq]; omega
    simp only [bne, h1]
   simp [binOp, Op.intCmp, this]
  case lss =>
   simp at h; subst h
   refine ⟨_, rfl, fun w => ?_⟩
   have : decide ((m : Int) < (n : Int)) = Nat.blt m n := by rw [Bool.eq_iff_iff]; simp [Nat.blt_eq]
   simp [binOp, Op.intCmp, ← this]
  case leq =>
   simp at h; subst h
   refine ⟨_, rfl, fun w => ?_⟩
   have : decide ((m : Int) ≤ (n : Int)) = Nat.ble m n := by rw [Bool.eq_iff_iff]; simp [Nat.ble_eq]
   simp [binOp, Op.intCmp, ← this]
  case gtr =>
   simp at h; subst h
   refine ⟨_, rfl, fun w => ?_⟩
   have : decide ((n : Int) < (m : Int)) = Nat.blt n m := by rw [Bool.eq_iff_iff]; simp [Nat.blt_eq]
   simp [binOp, Op.intCmp, ← this]
  case geq =>
   simp at h; subst h
   refine ⟨_, rfl, fun w => ?_⟩
   have : decide ((n : Int) ≤ (m : Int)) = Nat.ble n m := by rw [Bool.eq_iff_iff]; simp [Nat.ble_eq]
   simp [binOp, Op.intCmp, ← this]
  all_goals cases h
noncomputable def fastConv (P : Program) (src dst : TypeId) (m : Nat) : Option C0 :=
 match P.underlying src, P.underlying dst with
 | some _, some (.int k) => cond (Nat.blt m (lim k)) (some (.i k (.ofNat m))) none
 | _, _ => none
theorem fastConv_sound {src dst : TypeId} {m : Nat} {r : C0} {k : IntKind} (h : fastConv P src dst m = some r) : ∃ V, r.R ρ V ∧ ∀ w, (convert src dst (.int k (.ofNat m))).run P w = .ok V w := by
 unfold fastConv at h
 split at h
 ·rename_i d k' h1 h2
  cases hb : Nat.blt m (lim k') with
  | false => simp [hb] at h
  | true =>
   simp [hb] at h; subst h
   have h3 : m < lim k' := by simpa [Nat.blt_eq] using hb
   refine ⟨_, rfl, fun w => ?_⟩
   have h4 := Qeg h3
   simp [convert, run_underlying h1, run_underlying h2, Conv.intToInt, h4]
 ·cases h
def nilBin (P : Program) (op : BinOp) (t : TypeId) (u v : AV) : Option Bool :=
 match op with
 | .eql => evNil P t u v
 | .neq => (evNil P t u v).map (!·)
 | _ => none
noncomputable def evPure (P : Program) (tm : List AV) (o : Oper) : Option AV :=
 match o.op with
 | .move x | .assign x => opV tm x
 | .pick c x y => match opV tm c with
  | some (.c (.c (.b t))) => if t then opV tm x else opV tm y
  | _ => none
 | .extract x k => (opV tm x).bind fun v => evExtract v k
 | .nilCheck x => match opV tm x with
  | some (.c (.c (.p (some y)))) => some (.c (.c (.p (some y))))
  | some (.c (.f f x y)) => some (.c (.f f x y))
  | _ => none
 | .fieldAddr s x f => (opV tm x).bind fun v => Qe0 P s v f
 | .field s x f => (opV tm x).bind fun v => evField P s v f
 | .indexAddr t x ix => match opV tm x, opV tm ix with
  | some v, some j => Qez P t v j
  | _, _ => none
 | .slice t x none none none => (opV tm x).bind fun v => evSlice P t v none none
 | .slice t x (some l) none none => match opV tm x, opV tm l with
  | some v, some l => evSlice P t v (some l) none
  | _, _ => none
 | .slice t x none (some h) none => match opV tm x, opV tm h with
  | some v, some h => evSlice P t v none (some h)
  | _, _ => none
 | .slice t x (some l) (some h) none => match opV tm x, opV tm l, opV tm h with
  | some v, some l, some h => evSlice P t v (some l) (some h)
  | _, _, _ => none
 | .makeFunc fn first cap => evFunc tm fn first.toList cap.toList
 | .build t parts => (partsV tm parts.toList).bind fun ps => evBuild P t ps
 | .binOp op t x y _ => match opV tm x, opV tm y with
  | some (.c (.c (.i k (.ofNat m)))), some (.c (.c (.i k' (.ofNat n)))) => match fastBin op k k' m n with
   | some r => some (.c (.c r))
   | none => runLit P tm o
  | some u, some v => match nilBin P op t u v with
   | some r => some (.c (.c (.b r)))
   | none => runLit P tm o
  | _, _ => runLit P tm o
 | .convert src dst x => match opV tm x with
  | some (.c (.c (.i _ (.ofNat m)))) => match fastConv P src dst m with
   | some r => some (.c (.c r))
   | none => runLit P tm o
  | _ => runLit P tm o
 | .unOp .. | .index .. => runLit P tm o
 | .call { callee := .builtin .max, .. } | .call { callee := .builtin .min, .. } => runLit P tm o
 | .call { callee := .builtin .len, args, argTypes } => match args.toList, argTypes.toList with
  | [x], [t] => match opV tm x, P.underlying t with
   | some (.c (.c (.s (some _) len _ _ _))), some (.slice _) => some (.c (.c (.i .i64 len)))
   | some (.c (.c (.s none _ _ _ _))), some (.slice _) => some (.c (.c (.i .i64 0)))
   | _, _ => none
  | _, _ => none
 | _ => none
theorem Qc2 {o : Oper} {a : Act} {s : Sem Value} {V : Value} (ho : execOp a.eval o = (do pure (.value (← s)))) (hs : ∀ w, s.run P w = .ok V w) : ∀ w, (execOp a.eval o).run P w = .ok (.value V) w := by
 intro w; rw [ho]; simp [hs w]
theorem evFunc_sound {tm : List AV} {a : Act} (h : RT ρ tm a) {fn : Fn} {first cap : Array Operand} {r : AV} (he : evFunc tm fn first.toList cap.toList = some r) :
    r.R ρ (.func fn (first.map a.eval) (cap.map a.eval)) := by
 unfold evFunc at he
 split at he
 ·rename_i f x y hx hy
  split at he
  ·rename_i x' y' hx' hy'
   simp at he; subst he
   refine ⟨first.toList.map a.eval, cap.toList.map a.eval, c0s_R hx' (Qej h hx), c0s_R hy' (Qej h hy), ?_⟩
   congr 1 <;> (apply Array.ext'; simp)
  ·cases he
 ·cases he
theorem evNil_shape {t : TypeId} {A B : Value} {av bv : AV} {r : Bool} (h1 : av.R ρ A) (h2 : bv.R ρ B) (h : evNil P t av bv = some r) :
    (∃ x y, A = .pointer x ∧ B = .pointer y) ∨ ∃ x l c x' l' c', A = .slice x l c ∧ B = .slice x' l' c' := by
 unfold evNil at h
 split at h
 ·split at h
  ·rename_i hc
   simp only [Bool.and_eq_true] at hc
   have hk := hc.2
   unfold kindOk at hk
   split at hk
   ·rename_i a1 a2 hu
    left
    have key : ∀ (a : Option (Nat × Nat)) (V : Value), C0.R ρ (.p a) V → ∃ x, V = .pointer x := by
     intro a V hV
     cases a with
     | none => exact ⟨_, hV⟩
     | some a => obtain ⟨g, z, _, hV⟩ := hV; exact ⟨_, hV⟩
    obtain ⟨x, hx⟩ := key _ _ h1
    obtain ⟨y, hy⟩ := key _ _ h2
    exact ⟨x, y, hx, hy⟩
   ·rename_i hu
    right
    have key : ∀ (a : Option (Nat × Nat)) (l : Nat) (c : Option Nat) (s : Nat) (f : Bool) (V : Value), C0.R ρ (.s a l c s f) V → ∃ x l c, V = .slice x l c := by
     intro a l c s f V hV
     cases a with
     | none => exact ⟨_, _, _, hV⟩
     | some a => obtain ⟨g, z, c, _, hV, _⟩ := hV; exact ⟨_, _, _, hV⟩
    obtain ⟨x, l, c, hx⟩ := key _ _ _ _ _ _ h1
    obtain ⟨x', l', c', hy⟩ := key _ _ _ _ _ _ h2
    exact ⟨x, l, c, x', l', c', hx, hy⟩
   ·cases hk
  ·cases h
 ·cases h
theorem eqGuard_nil {op : BinOp} {t : TypeId} {x y : Operand} {A B : Value} {av bv : AV} {r : Bool} (h1 : av.R ρ A) (h2 : bv.R ρ B) (h : evNil P t av bv = some r) (w : World) : (eqGuard op t x y A B).run P w = .ok () w := by
 rcases evNil_shape h1 h2 h with ⟨x, y, rfl, rfl⟩ | ⟨x, l, c, x', l', c', rfl, rfl⟩ <;> unfold eqGuard <;> split <;> rfl
theorem binOp_nil {t : TypeId} {A B : Value} {av bv : AV} {r : Bool} (h1 : av.R ρ A) (h2 : bv.R ρ B) (h : evNil P t av bv = some r) :
    binOp .eql t A B = (do pure (.bool (← Op.equal t A B))) ∧ binOp .neq t A B = (do pure (.bool (!(← Op.equal t A B)))) := by
 rcases evNil_shape h1 h2 h with ⟨x, y, rfl, rfl⟩ | ⟨x, l, c, x', l', c', rfl, rfl⟩ <;> exact ⟨rfl, rfl⟩
theorem evPure_sound {tm : List AV} {a : Act} {o : Oper} {v : AV} (h : RT ρ tm a) (he : evPure P tm o = some v) :
    ∃ V, v.R ρ V ∧ ∀ w, (execOp a.eval o).run P w = .ok (.value V) w := by
 obtain ⟨dst, op, ty, pos, after, guard⟩ := o
 unfold evPure at he
 simp only at he
 split at he
 ·exact ⟨_, Qay h he, fun w => rfl⟩
 ·exact ⟨_, Qay h he, fun w => rfl⟩
 ·rename_i c x y
  split at he
  ·rename_i t hc
   have h1 : a.eval c = .bool t := Qay h hc
   refine ⟨if t then a.eval x else a.eval y, ?_, fun w => ?_⟩
   ·split at he <;> rename_i ht <;> simp only [ht, if_true, if_false] <;> exact Qay h he
   ·simp [execOp, h1, asBool]
  ·cases he
 ·obtain ⟨u, hu, he⟩ := Option.bind_eq_some_iff.1 he
  obtain ⟨V, hV, hr⟩ := evExtract_sound (P := P) (Qay h hu) he
  exact ⟨V, hV, Qc2 rfl hr⟩
 ·rename_i x
  split at he
  ·rename_i y hy
   simp at he; subst he
   obtain ⟨n, o⟩ := y
   obtain ⟨g, z, h1, h2⟩ := Qay h hy
   refine ⟨_, ⟨g, z, h1, rfl⟩, fun w => ?_⟩
   simp only [execOp, h2]; rfl
  ·rename_i f fx fy hy
   simp at he; subst he
   obtain ⟨F, C, h1, h2, h3⟩ := Qay h hy
   refine ⟨_, ⟨F, C, h1, h2, rfl⟩, fun w => ?_⟩
   simp only [execOp, h3]; rfl
  ·cases he
 ·obtain ⟨u, hu, he⟩ := Option.bind_eq_some_iff.1 he
  obtain ⟨V, hV, hr⟩ := evFieldAddr_sound (Qay h hu) he
  exact ⟨V, hV, Qc2 rfl hr⟩
 ·obtain ⟨u, hu, he⟩ := Option.bind_eq_some_iff.1 he
  obtain ⟨V, hV, hr⟩ := evField_sound (Qay h hu) he
  exact ⟨V, hV, Qc2 rfl hr⟩
 ·split at he
  ·rename_i u j hu hj
   obtain ⟨V, hV, hr⟩ := evIndexAddr_sound (Qay h hu) (Qay h hj) he
   exact ⟨V, hV, Qc2 rfl hr⟩
  ·cases he
 ·obtain ⟨u, hu, he⟩ := Option.bind_eq_some_iff.1 he
  obtain ⟨V, hV, hr⟩ := Qdc (lo := none) (hi := none) (LO := none) (HI := none) (Qay h hu) trivial trivial he
  exact ⟨V, hV, Qc2 rfl hr⟩
 ·split at he
  ·rename_i u j hu hj
   obtain ⟨V, hV, hr⟩ := Qdc (lo := some _) (hi := none) (LO := some _) (HI := none) (Qay h hu) (Qay h hj) trivial he
   exact ⟨V, hV, Qc2 rfl hr⟩
  ·cases he
 ·split at he
  ·rename_i u j hu hj
   obtain ⟨V, hV, hr⟩ := Qdc (lo := none) (hi := some _) (LO := none) (HI := some _) (Qay h hu) trivial (Qay h hj) he
   exact ⟨V, hV, Qc2 rfl hr⟩
  ·cases he
 ·split at he
  ·rename_i u j k hu hj hk
   obtain ⟨V, hV, hr⟩ := Qdc (lo := some _) (hi := some _) (LO := some _) (HI := some _) (Qay h hu) (Qay h hj) (Qay h hk) he
   exact ⟨V, hV, Qc2 rfl hr⟩
  ·cases he
 ·rename_i fn first cap
  exact ⟨_, evFunc_sound h he, fun w => rfl⟩
 ·rename_i t parts
  obtain ⟨ps, hps, he⟩ := Option.bind_eq_some_iff.1 he
  obtain ⟨V, hV, hr⟩ := evBuild_sound (PS := parts.map fun (i, x) => (i, a.eval x)) (by simpa using Qd4 h hps) he
  exact ⟨V, hV, Qc2 rfl hr⟩
 ·rename_i op t x y yt
  split at he
  ·rename_i k m k' n hx hy
   split at he
   ·rename_i r hr
    simp at he; subst he
    have e1 : a.eval x = .int k (.ofNat m) := Qay h hx
    have e2 : a.eval y = .int k' (.ofNat n) := Qay h hy
    obtain ⟨V, hV, hrun⟩ := fastBin_sound (P := P) (ρ := ρ) hr t
    refine ⟨V, hV, Qc2 (s := do eqGuard op t x y (a.eval x) (a.eval y); binOp op t (a.eval x) (a.eval y)) rfl fun w => ?_⟩
    rw [e1, e2]
    simp only [Sem.run_bind, eqGuard_int, Result.andThen_ok, hrun]
   ·exact Qcw h he
  ·rename_i u1 u2 hne h1 h2
   split at he
   ·rename_i r hr
    simp at he; subst he
    unfold nilBin at hr
    split at hr
    ·have e1 := evNil_sound (Qay h h1) (Qay h h2) hr
     have e2 := eqGuard_nil (op := .eql) (x := x) (y := y) (Qay h h1) (Qay h h2) hr
     refine ⟨.bool r, rfl, Qc2 (s := do eqGuard .eql t x y (a.eval x) (a.eval y); binOp .eql t (a.eval x) (a.eval y)) rfl fun w => ?_⟩
     rw [(binOp_nil (Qay h h1) (Qay h h2) hr).1]
     simp [e1, e2]
    ·obtain ⟨r', hr', rfl⟩ := Option.map_eq_some_iff.1 hr
     have e1 := evNil_sound (Qay h h1) (Qay h h2) hr'
     have e2 := eqGuard_nil (op := .neq) (x := x) (y := y) (Qay h h1) (Qay h h2) hr'
     refine ⟨.bool (!r'), rfl, Qc2 (s := do eqGuard .neq t x y (a.eval x) (a.eval y); binOp .neq t (a.eval x) (a.eval y)) rfl fun w => ?_⟩
     rw [(binOp_nil (Qay h h1) (Qay h h2) hr').2]
     simp [e1, e2]
    ·cases hr
   ·exact Qcw h he
  ·exact Qcw h he
 ·rename_i src dst x
  split at he
  ·rename_i k m hx
   split at he
   ·rename_i r hr
    simp at he; subst he
    have e1 : a.eval x = .int k (.ofNat m) := Qay h hx
    obtain ⟨V, hV, hrun⟩ := fastConv_sound (P := P) (ρ := ρ) (k := k) hr
    refine ⟨V, hV, Qc2 (s := convert src dst (a.eval x)) rfl fun w => ?_⟩
    rw [e1]; exact hrun w
   ·exact Qcw h he
  ·exact Qcw h he
 all_goals first | exact Qcw h he | skip
 ·rename_i args argTypes
  split at he
  ·rename_i x t hx ht
   split at he
   ·rename_i n len cap sz full el hop hu
    simp at he; subst he
    obtain ⟨g, z, c, _, hlen, _⟩ := Qay h hop
    have ha : args = #[x] := by cases args; simp at hx; subst hx; rfl
    have ht' : argTypes = #[t] := by cases argTypes; simp at ht; subst ht; rfl
    subst ha; subst ht'
    refine ⟨.int .i64 len, rfl, fun w => ?_⟩
    simp [execOp, resolve, invoke, builtin, Builtin.len_, run_underlying hu, hlen, goInt]
   ·rename_i len cap sz full el hop hu
    simp at he; subst he
    have hlen : a.eval x = .slice none 0 0 := Qay h hop
    have ha : args = #[x] := by cases args; simp at hx; subst hx; rfl
    have ht' : argTypes = #[t] := by cases argTypes; simp at ht; subst ht; rfl
    subst ha; subst ht'
    refine ⟨.int .i64 0, rfl, fun w => ?_⟩
    simp [execOp, resolve, invoke, builtin, Builtin.len_, run_underlying hu, hlen, goInt]
   ·cases he
  ·cases he
 ·cases he
end
abbrev Mem := AV × Hp × List Nat
def ptrA : AV → Option (Nat × Nat)
 | .c (.c (.p (some a))) => some a
 | _ => none
noncomputable def fresh (H : Hp) (dead : List Nat) (n : Nat) : Bool := (get H n).isNone && !dead.contains n
noncomputable def loadA (P : Program) (H : Hp) (t : TypeId) (n o : Nat) : Option AV :=
 match get H n with
 | none => none
 | some e => match aggB P t with
  | some true => match P.info? t with
   | some i => if ((e.cs.drop o).take i.size).length = i.size then some (.g ((e.cs.drop o).take i.size)) else none
   | none => none
  | some false => (e.cs[o]?).map .c
  | none => none
noncomputable def storeA (P : Program) (H : Hp) (t : TypeId) (n o : Nat) (v : AV) : Option Hp :=
 match get H n, cellsA v, P.info? t with
 | some e, some cs, some i => if cs.length = i.size ∧ o + cs.length ≤ e.cs.length then some (upd n { e with cs := spl e.cs o cs } H) else none
 | _, _, _ => none
def madeA (z : List C1) (n : Nat) : List C1 := (List.range n).map fun k => (z[k % z.length]?).getD (.c .nilI)
def intOf (v : AV) : Option Int :=
 match v with
 | .c (.c (.i _ j)) => some j
 | _ => none
noncomputable def rowA (H : Hp) (sz : Nat) : AV → Option (Nat × List C1)
 | .c (.c (.s (some (n, o)) len _ _ _)) => match get H n with
  | some e => if ((e.cs.drop o).take (len * sz)).length = len * sz then some (len, (e.cs.drop o).take (len * sz)) else none
  | none => none
 | .c (.c (.s none _ _ _ _)) => some (0, [])
 | _ => none
noncomputable def appA (P : Program) (nm : Nat) (H : Hp) (dead : List Nat) (t : TypeId) (d s : AV) : Option Mem :=
 match P.underlying t with
 | some (.slice el) => match P.info? el with
  | some i => match i.zero, rowA H i.size s with
   | some z, some (m, news) =>
    if m = 0 then match d with
     | .c (.c (.s a len cap sz full)) => some (.c (.c (.s a len cap sz full)), H, dead)
     | _ => none
    else if z.cells.size = i.size ∧ 0 < i.size ∧ fresh H dead nm = true then match d with
     | .c (.c (.s none _ _ _ _)) => if m ≤ 1000000 ∧ i.bytes ≤ 1000000 then some (.c (.c (.s (some (nm, 0)) m none i.size true)), ins nm ⟨news, el, false⟩ H, dead) else none
     | .c (.c (.s (some (n, 0)) len cap sz true)) => match get H n with
      | some e => if sz = i.size ∧ e.ty = el ∧ e.cs.length = len * sz ∧ len + m ≤ 1000000 ∧ i.bytes ≤ 1000000 then
          some (.c (.c (.s (some (nm, 0)) (len + m) none i.size true)), ins nm ⟨e.cs ++ news, el, false⟩ (del n H), n :: dead) else none
      | none => none
     | _ => none
    else none
   | _, _ => none
  | none => none
 | _ => none
noncomputable def copyA (P : Program) (H : Hp) (dead : List Nat) (t : TypeId) (d s : AV) : Option Mem :=
 match P.underlying t with
 | some (.slice el) => match P.info? el with
  | some i => match rowA H i.size s, d with
   | some (m, news), .c (.c (.s none _ _ _ _)) => some (.c (.c (.i .i64 0)), H, dead)
   | some (m, news), .c (.c (.s (some (n, o)) len _ _ _)) => match get H n with
    | some e => if m ≤ len ∧ o + news.length ≤ e.cs.length then some (.c (.c (.i .i64 m)), upd n { e with cs := spl e.cs o news } H, dead) else none
    | none => none
   | _, _ => none
  | none => none
 | _ => none
noncomputable def evMem (P : Program) (tm : List AV) (nm : Nat) (H : Hp) (dead : List Nat) (o : Oper) : Option Mem :=
 match o.op with
 | .load t x => match (opV tm x).bind ptrA with
  | some (n, o) => (loadA P H t n o).map fun v => (v, H, dead)
  | none => none
 | .store t x y => match (opV tm x).bind ptrA, opV tm y with
  | some (n, o), some v => (storeA P H t n o v).map fun H' => (Qd0, H', dead)
  | _, _ => none
 | .alloc t => match zeroA P t with
  | some z => if fresh H dead nm then some (.c (.c (.p (some (nm, 0)))), ins nm ⟨z, t, true⟩ H, dead) else none
  | none => none
 | .box t x => match (opV tm x).bind cellsA with
  | some z => if fresh H dead nm then some (.c (.c (.p (some (nm, 0)))), ins nm ⟨z, t, true⟩ H, dead) else none
  | none => none
 | .buildSlice t len parts => match P.underlying t, partsV tm parts.toList with
  | some (.slice el), some ps => match P.info? el, zeroA P el with
   | some i, some z => if z.length = i.size ∧ len * i.size ≤ 16777216 ∧ len ≤ 16777216 ∧ fresh H dead nm = true then
       match fillA (fun k => some (k * i.size, i.size)) (madeA z (len * i.size)) ps with
       | some cs => some (.c (.c (.s (some (nm, 0)) len (some len) i.size true)), ins nm ⟨cs, el, true⟩ H, dead)
       | none => none
    else none
   | _, _ => none
  | _, _ => none
 | .makeSlice t l c => match P.underlying t, (opV tm l).bind intOf, (opV tm c).bind intOf with
  | some (.slice el), some l, some c => match P.info? el, zeroA P el with
   | some i, some z => if z.length = i.size ∧ 0 ≤ l ∧ l ≤ c ∧ c ≤ 1000000 ∧ i.bytes ≤ 1000000 ∧ fresh H dead nm = true then
       some (.c (.c (.s (some (nm, 0)) l.toNat (some c.toNat) i.size true)), ins nm ⟨madeA z (c.toNat * i.size), el, true⟩ H, dead)
    else none
   | _, _ => none
  | _, _, _ => none
 | .call { callee := .builtin .append, args, argTypes } => match args.toList, argTypes.toList with
  | [x, y], [t, t'] => match opV tm x, opV tm y with
   | some d, some s => if t = t' then appA P nm H dead t d s else none
   | _, _ => none
  | _, _ => none
 | .call { callee := .builtin .copy, args, argTypes } => match args.toList, argTypes.toList with
  | [x, y], [t, t'] => match opV tm x, opV tm y with
   | some d, some s => copyA P H dead t d s
   | _, _ => none
  | _, _ => none
 | _ => none
section
variable {P : Program} {D : Nat → Prop} {w0 : World} {ρ : Ren} {H : Hp} {dead : List Nat} {w : World}
theorem ptrA_R {v : AV} {V : Value} {a : Nat × Nat} (h : ptrA v = some a) (hr : v.R ρ V) : ∃ g z, ρ a.1 = some (g, z) ∧ V = .pointer (some ⟨g, a.2, none⟩) := by
 unfold ptrA at h
 split at h
 ·rename_i b
  simp at h; subst h; obtain ⟨n, o⟩ := b; exact hr
 ·cases h
theorem Qdr {n : Nat} (h : fresh H dead n = true) : get H n = none ∧ n ∉ dead := by
 simp [fresh] at h; exact ⟨h.1, h.2⟩
theorem RH.cell (h : RH D w0 ρ H dead w) {n : Nat} {e : Ent} (he : get H n = some e) {g z : Nat} (hg : ρ n = some (g, z)) {j : Nat} {x : C1} (hx : e.cs[j]? = some x) :
    ∃ y, w.cell? ⟨g, j, none⟩ = some y ∧ x.R ρ y := by
 obtain ⟨g', z', c, h1, h2, h3, h4, h5, h6⟩ := h.hp n e he
 rw [hg] at h1; injection h1 with h1; injection h1 with h1 h1'; subst h1; subst h1'
 obtain ⟨y, hy, hr⟩ := h4 j x hx
 refine ⟨y, ?_, hr⟩
 simp only [World.cell?, h2]
 simpa using hy
theorem cells_run (h : RH D w0 ρ H dead w) {n : Nat} {e : Ent} (he : get H n = some e) {g z : Nat} (hg : ρ n = some (g, z)) {cs : List C1} {o : Nat} (hx : ∀ (j : Nat) x, cs[j]? = some x → e.cs[o + j]? = some x) :
    ∃ L, All2 (C1.R ρ) cs L ∧ ∀ j v, L[j]? = some v → w.cell? ((⟨g, o, none⟩ : Addr).add j) = some v := by
 refine ⟨(List.range cs.length).map fun j => (w.cell? ⟨g, o + j, none⟩).getD undef, All2.of (by simp) fun j x hj => ?_, fun j v hv => ?_⟩
 ·obtain ⟨y, hy, hr⟩ := h.cell he hg (hx j x hj)
  have hlt : j < cs.length := by
   rcases Nat.lt_or_ge j cs.length with h | h
   ·exact h
   ·rw [List.getElem?_eq_none h] at hj; cases hj
  exact ⟨y, by simp [hlt, hy], hr⟩
 ·have hlt : j < cs.length := by
    rcases Nat.lt_or_ge j cs.length with h | h
    ·exact h
    ·rw [List.getElem?_eq_none (by simpa using h)] at hv; cases hv
  obtain ⟨y, hy, hr⟩ := h.cell he hg (hx j _ (List.getElem?_eq_getElem hlt))
  rw [addr_add, hy]
  simpa [hlt, hy] using hv
theorem ext_get {α : Type} {l : List α} {o n : Nat} : ∀ (j : Nat) x, ((l.drop o).take n)[j]? = some x → l[o + j]? = some x := by
 intro j x hx
 rw [List.getElem?_take] at hx
 split at hx
 ·rwa [List.getElem?_drop] at hx
 ·cases hx
theorem loadA_sound (h : RH D w0 ρ H dead w) {t : TypeId} {n o g z : Nat} {v : AV} (hg : ρ n = some (g, z)) (he : loadA P H t n o = some v) :
    ∃ V, v.R ρ V ∧ (Instr.loadAt t (.pointer (some ⟨g, o, none⟩))).run P w = .ok V w := by
 unfold loadA at he
 split at he
 ·cases he
 ·rename_i e hge
  split at he
  ·rename_i hag
   split at he
   ·rename_i i hi
    split at he
    ·rename_i hl
     simp at he; subst he
     obtain ⟨L, hL, hc⟩ := cells_run h hge hg (cs := (e.cs.drop o).take i.size) (o := o) ext_get
     have hLl := hL.len
     have := run_loadCells_list (P := P) (w := w) ⟨g, o, none⟩ L hc
     refine ⟨.agg L.toArray, ⟨L, hL, rfl⟩, ?_⟩
     have e2 : L.length = i.size := by omega
     rw [e2] at this
     simp [Instr.loadAt, Instr.sureAddr, loadVar, aggB_run hag, Qcl hi, this]
    ·cases he
   ·cases he
  ·rename_i hag
   obtain ⟨x, hx, rfl⟩ := Option.map_eq_some_iff.1 he
   obtain ⟨y, hy, hr⟩ := h.cell hge hg hx
   refine ⟨y, hr, ?_⟩
   simp [Instr.loadAt, Instr.sureAddr, loadVar, aggB_run hag, hy]
  ·cases he
theorem storeA_sound (h : RH D w0 ρ H dead w) {t : TypeId} {n o g z : Nat} {v : AV} {V : Value} {H' : Hp} (hg : ρ n = some (g, z)) (hv : v.R ρ V) (he : storeA P H t n o v = some H') :
    ∃ w', (Instr.storeAt t (.pointer (some ⟨g, o, none⟩)) V).run P w = .ok () w' ∧ RH D w0 ρ H' dead w' := by
 unfold storeA at he
 split at he
 ·rename_i e cs i hge hcs hi
  split at he
  ·rename_i hl
   simp at he; subst he
   obtain ⟨L, hL, hVc⟩ := cellsA_R hcs hv
   have hLl := hL.len
   obtain ⟨g', z', c, h1, h2, h3, h4, h5, h6⟩ := h.hp n e hge
   rw [hg] at h1; injection h1 with h1; injection h1 with h1 h1'; subst h1; subst h1'
   have hcl : e.cs.length ≤ c.toList.length := by
    rcases Nat.lt_or_ge c.toList.length e.cs.length with hlt | hge'
    ·obtain ⟨y, hy, _⟩ := h4 c.toList.length _ (List.getElem?_eq_getElem hlt)
     simp at hy
    ·exact hge'
   have hone : ∀ u ∈ L, u.oneCell' = true := hL.left fun a b hr => C1.one hr
   have hst := run_storeCells_at P g o e.ty L 0 c w h2 (by simp at hcl; omega) hone
   simp only [Nat.add_zero] at hst
   refine ⟨_, ?_, h.store hge hg hL hl.2 h2⟩
   have hsz : V.cells.size = i.size := by rw [hVc]; simp; omega
   simp [Instr.storeAt, Instr.sureAddr, storeVar, Qcl hi, hsz, hVc, hst, show L.length = i.size by omega]
  ·cases he
 ·cases he
theorem rowA_sound (h : RH D w0 ρ H dead w) {sz : Nat} {v : AV} {V : Value} {m : Nat} {cs : List C1} (hv : v.R ρ V) (he : rowA H sz v = some (m, cs)) :
    ∃ L, All2 (C1.R ρ) cs L ∧ L.length = m * sz ∧ ((V = .slice none 0 0 ∧ m = 0) ∨ ∃ ad c, V = .slice (some ad) m c ∧ ∀ j v, L[j]? = some v → w.cell? (ad.add j) = some v) := by
 unfold rowA at he
 split at he
 ·rename_i n o len cap sz' full
  split at he
  ·rename_i e hge
   split at he
   ·rename_i hl
    simp at he; obtain ⟨rfl, rfl⟩ := he
    obtain ⟨g, z, c, hg, rfl, _⟩ := hv
    obtain ⟨L, hL, hc⟩ := cells_run h hge hg (cs := (e.cs.drop o).take (len * sz)) (o := o) ext_get
    exact ⟨L, hL, by rw [← hL.len]; exact hl, .inr ⟨_, _, rfl, hc⟩⟩
   ·cases he
  ·cases he
 ·simp at he; obtain ⟨rfl, rfl⟩ := he
  cases hv
  exact ⟨[], trivial, by simp, .inl ⟨rfl, rfl⟩⟩
 ·cases he
theorem madeA_R {z : List C1} {Z : List Value} (hz : All2 (C1.R ρ) z Z) (hp : 0 < z.length) (n : Nat) : All2 (C1.R ρ) (madeA z n) (madeCells Z.toArray n).toList := by
 have e := hz.len
 refine All2.of (by simp [madeA, madeCells]) fun i x hx => ?_
 simp only [madeA, List.getElem?_map] at hx
 cases hr : (List.range n)[i]? with
 | none => rw [hr] at hx; cases hx
 | some k =>
  rw [hr] at hx
  simp only [Option.map_some, Option.some.injEq] at hx
  have hk : i < n ∧ k = i := by
   have := List.getElem?_eq_some_iff.1 hr
   obtain ⟨h1, h2⟩ := this
   simp at h1 h2; exact ⟨h1, h2.symm⟩
  obtain ⟨hi, rfl⟩ := hk
  have hlt : k % z.length < z.length := Nat.mod_lt _ hp
  obtain ⟨y, hy, hR⟩ := hz.get (k % z.length) (List.getElem?_eq_getElem hlt)
  refine ⟨y, ?_, ?_⟩
  ·simp only [madeCells, Array.toList_map, Array.toList_range, List.getElem?_map, hr, Option.map_some]
   congr 1
   have e3 : Z.toArray.size = z.length := by simp [e]
   rw [e3]
   have hl : k % z.length < Z.toArray.size := by rw [e3]; exact hlt
   rw [getElem!_pos Z.toArray _ hl]
   simp only [List.getElem_toArray]
   exact Option.some.inj ((List.getElem?_eq_getElem _).symm.trans hy)
  ·rw [← hx, List.getElem?_eq_getElem hlt]; exact hR
theorem appA_sound (h : RH D w0 ρ H dead w) {nm : Nat} {t ty : TypeId} {d s r : AV} {X Y : Value} {H' : Hp} {dead' : List Nat} (hd : d.R ρ X) (hs : s.R ρ Y) (he : appA P nm H dead t d s = some (r, H', dead')) :
    ∃ ρ' V w', ρ.le ρ' ∧ r.R ρ' V ∧ (Builtin.append_ #[t, t] ty #[X, Y]).run P w = .ok V w' ∧ RH D w0 ρ' H' dead' w' := by
 unfold appA at he
 split at he
 ·rename_i el hu
  split at he
  ·rename_i i hi
   split at he
   ·rename_i z m news hz hrow
    obtain ⟨L, hL, hLl, hY⟩ := rowA_sound h hs hrow
    split at he
    ·rename_i hm
     subst hm
     split at he
     ·rename_i a len cap sz full
      simp at he; obtain ⟨rfl, rfl, rfl⟩ := he
      refine ⟨ρ, X, w, Ren.le_refl ρ, hd, ?_, h⟩
      have hX : ∃ b len' c, X = .slice b len' c ∧ len' ≤ c := by
       cases a with
       | none => exact ⟨none, 0, 0, hd, Nat.le_refl _⟩
       | some a => obtain ⟨g, z, c, _, h1, _, h2, _⟩ := hd; exact ⟨_, _, _, h1, h2⟩
      obtain ⟨b, len', c, rfl, hlc⟩ := hX
      have hl0 : L = [] := List.eq_nil_of_length_eq_zero (by omega)
      rcases hY with ⟨rfl, _⟩ | ⟨ad, c', rfl, _⟩
      ·cases b <;> simp [Builtin.append_, run_underlying hu, Qcl hi, Builtin.lenOf, Builtin.firstCells, hlc, storeCells]
      ·have hf := run_firstCells_some (P := P) w i.size 0 ad 0 c' [] (by simp) (by simp)
       cases b <;> simp [Builtin.append_, run_underlying hu, Qcl hi, Builtin.lenOf, hf, hlc, storeCells]
     ·cases he
    ·rename_i hm
     split at he
     ·rename_i hc
      obtain ⟨hzs, hpos, hfr⟩ := hc
      obtain ⟨hf1, hf2⟩ := Qdr hfr
      have hone : ∀ u ∈ L, u.oneCell' = true := hL.left fun a b hr => C1.one hr
      rcases hY with ⟨_, hm0⟩ | ⟨ad, c', rfl, hcells⟩
      ·exact absurd hm0 hm
      split at he
      ·rename_i len cap sz full
       split at he
       ·rename_i hb
        simp at he; obtain ⟨rfl, rfl, rfl⟩ := he
        cases hd
        have hbb : m * i.bytes ≤ 1000000 * 1000000 := Nat.mul_le_mul hb.1 hb.2
        obtain ⟨V', w', hr, hown, hgr, _, hob⟩ := run_append_own_at (P := P) w 0 t ty el i z i.size i.bytes hu hi hz rfl rfl hzs hpos (.slice none 0 0) 0 [] (World.ownsRow_nil w 0 el i.size) ad m c' L hLl hcells hone (by simp [maxLen]; omega) (by simp; omega) (Nat.zero_le _)
        obtain ⟨hx, hh⟩ := hown
        rcases hh with ⟨_, h0⟩ | ⟨g, cap', cur, rfl, _, hg, hn, hmx, hsz, htk⟩
        ·omega
        ·have hgw : g = w.heap.size := by
           rcases hob with hob | hob
           ·simp [Value.ownBlock] at hob
           ·simpa [Value.ownBlock] using hob
         obtain ⟨hRH, hle⟩ := h.moved (n' := nm) hf1 hf2 (w' := w') none (by simp) (by simpa [Value.ownBlock] using hgr) (g := g) (cur := cur) (ty := el) hg (.inr hgw) (cs := news) (fun k x hx => by
          obtain ⟨y, hy, hr⟩ := hL.get k hx
          refine ⟨y, ?_, hr⟩
          have e1 : (cur.toList.take ((0 + m) * i.size))[k]? = some y := by rw [htk]; simpa using hy
          rw [List.getElem?_take] at e1
          split at e1
          ·exact e1
          ·cases e1)
         refine ⟨_, _, w', hle, ⟨g, cur.size, cap', by simp [Ren.add], rfl, by simp, by omega, hmx, by omega, fun _ => by omega⟩, by simpa using hr, hRH⟩
       ·cases he
      ·rename_i n len cap sz
       split at he
       ·rename_i e hge
        split at he
        ·rename_i hb
         obtain ⟨rfl, hty, hel, hb1, hb2⟩ := hb
         simp at he; obtain ⟨rfl, rfl, rfl⟩ := he
         obtain ⟨g0, z0, c0, hρ, rfl, hcap, hlc, hmx0, hz0, hfull⟩ := hd
         obtain ⟨g', z', cur0, q1, q2, q3, q4, q5, q6⟩ := h.hp n e hge
         rw [hρ] at q1; injection q1 with q1; injection q1 with q1 q1'; subst q1; subst q1'
         have hbb : (len + m) * i.bytes ≤ 1000000 * 1000000 := Nat.mul_le_mul hb1 hb2
         have hfl := hfull rfl
         obtain ⟨XS, hXS, hXl⟩ : ∃ XS, All2 (C1.R ρ) e.cs XS ∧ cur0.toList.take (len * i.size) = XS := by
          refine ⟨_, All2.of ?_ fun k x hx => ?_, rfl⟩
          ·rw [List.length_take, hel]
           have : len * i.size ≤ c0 * i.size := Nat.mul_le_mul_right _ hlc
           simp; omega
          ·obtain ⟨y, hy, hr⟩ := q4 k x hx
           refine ⟨y, ?_, hr⟩
           have : k < e.cs.length := by
            rcases Nat.lt_or_ge k e.cs.length with h | h
            ·exact h
            ·rw [List.getElem?_eq_none h] at hx; cases hx
           rw [List.getElem?_take, if_pos (by omega)]; exact hy
         have hXSl := hXS.len
         have hown0 : w.ownsRow 0 el i.size (.slice (some ⟨g0, 0, none⟩) len c0) len XS :=
          ⟨by omega, .inr ⟨g0, c0, cur0, rfl, Nat.zero_le _, by rw [← hty]; exact q2, hlc, hmx0, by omega, hXl⟩⟩
         obtain ⟨V', w', hr, hown, hgr, _, hob⟩ := run_append_own_at (P := P) w 0 t ty el i z i.size i.bytes hu hi hz rfl rfl hzs hpos _ len XS hown0 ad m c' L hLl hcells hone (by simp [maxLen]; omega) (by omega) (Nat.zero_le _)
         obtain ⟨hx, hh⟩ := hown
         rcases hh with ⟨_, h0⟩ | ⟨g, cap', cur, rfl, _, hg, hn, hmx, hsz, htk⟩
         ·omega
         ·have hgw : g0 = g ∨ g = w.heap.size := by
            rcases hob with hob | hob
            ·left; simp [Value.ownBlock] at hob; exact hob.symm
            ·right; simpa [Value.ownBlock] using hob
          obtain ⟨hRH, hle⟩ := h.moved (n' := nm) hf1 hf2 (w' := w') (some n) (fun k hk => by injection hk with hk; subst hk; exact ⟨e, g0, z0, hge, hρ⟩) (by simpa [Value.ownBlock, hρ] using hgr) (g := g) (cur := cur) (ty := el) hg (by simpa [hρ] using hgw) (cs := e.cs ++ news) (fun k x hx => by
           obtain ⟨y, hy, hr⟩ := (hXS.app hL).get k hx
           refine ⟨y, ?_, hr⟩
           have e1 : (cur.toList.take ((len + m) * i.size))[k]? = some y := by rw [htk]; exact hy
           rw [List.getElem?_take] at e1
           split at e1
           ·exact e1
           ·cases e1)
          refine ⟨_, _, w', hle, ⟨g, cur.size, cap', by simp [Ren.add], rfl, by simp, by omega, hmx, by omega, fun _ => by omega⟩, hr, hRH⟩
        ·cases he
       ·cases he
      ·cases he
     ·cases he
   ·cases he
  ·cases he
 ·cases he
theorem copyA_sound (h : RH D w0 ρ H dead w) {t t' ty : TypeId} {d s r : AV} {X Y : Value} {H' : Hp} {dead' : List Nat} (hd : d.R ρ X) (hs : s.R ρ Y) (he : copyA P H dead t d s = some (r, H', dead')) :
    ∃ V w', r.R ρ V ∧ (Builtin.copy_ #[t, t'] ty #[X, Y]).run P w = .ok V w' ∧ RH D w0 ρ H' dead' w' := by
 unfold copyA at he
 split at he
 ·rename_i el hu
  split at he
  ·rename_i i hi
   split at he
   ·rename_i m news _ _ _ _ hrow
    obtain ⟨L, hL, hLl, hY⟩ := rowA_sound h hs hrow
    simp at he; obtain ⟨rfl, rfl, rfl⟩ := he
    cases hd
    refine ⟨goInt 0, w, rfl, ?_, h⟩
    rcases hY with ⟨rfl, _⟩ | ⟨ad, c', rfl, _⟩
    ·simp [Builtin.copy_, run_underlying hu, Qcl hi, Builtin.lenOf, Builtin.firstCells]
    ·have hf := run_firstCells_some (P := P) w i.size 0 ad m c' [] (by simp) (by simp)
     simp [Builtin.copy_, run_underlying hu, Qcl hi, Builtin.lenOf, hf, Nat.min]
   ·rename_i m news n o len _ _ _ hrow
    obtain ⟨L, hL, hLl, hY⟩ := rowA_sound h hs hrow
    split at he
    ·rename_i e hge
     split at he
     ·rename_i hb
      simp at he; obtain ⟨rfl, rfl, rfl⟩ := he
      obtain ⟨g, z, c, hg, rfl, _⟩ := hd
      obtain ⟨g', z', cur, h1, h2, h3, h4, h5, h6⟩ := h.hp n e hge
      rw [hg] at h1; injection h1 with h1; injection h1 with h1 h1'; subst h1; subst h1'
      have hLl2 := hL.len
      have hcl : e.cs.length ≤ cur.toList.length := by
       rcases Nat.lt_or_ge cur.toList.length e.cs.length with hlt | hge'
       ·obtain ⟨y, hy, _⟩ := h4 cur.toList.length _ (List.getElem?_eq_getElem hlt)
        simp at hy
       ·exact hge'
      have hone : ∀ u ∈ L, u.oneCell' = true := hL.left fun a b hr => C1.one hr
      have hst := run_storeCells_at P g o e.ty L 0 cur w h2 (by simp at hcl; omega) hone
      simp only [Nat.add_zero] at hst
      refine ⟨goInt m, _, rfl, ?_, h.store hge hg hL hb.2 h2⟩
      have hmin : Nat.min m len = m := Nat.min_eq_left hb.1
      rcases hY with ⟨rfl, hm0⟩ | ⟨ad, c', rfl, hcells⟩
      ·subst hm0
       have : L = [] := List.eq_nil_of_length_eq_zero (by omega)
       subst this
       simp only [Builtin.copy_, List.getElem?_toArray, List.getElem?_cons_zero, List.getElem?_cons_succ, Sem.run_bind, run_underlying hu, Result.andThen_ok, Qcl hi, Builtin.lenOf, Builtin.firstCells, Sem.run_pure, hst, Nat.min, goInt]
       simp [storeCells] at hst ⊢
      ·have hf := run_firstCells_some (P := P) w i.size m ad m c' L hLl hcells
       simp [Builtin.copy_, run_underlying hu, Qcl hi, Builtin.lenOf, hf, hmin, hst]
     ·cases he
    ·cases he
   ·cases he
  ·cases he
 ·cases he
end
section
variable {P : Program} {D : Nat → Prop} {w0 : World} {ρ : Ren} {H : Hp} {dead : List Nat} {w : World}
theorem run_buildSlice (t : TypeId) (len : Nat) (PS : Array (Nat × Value)) (el : TypeId) (i : TypeInfo) (z : Value) (hu : P.underlying t = some (.slice el)) (hi : P.info? el = some i) (hz : i.zero = some z) (hmax : len * i.size ≤ 16777216)
    (cs : Array Value) (hf : Instr.fill (fun k => some (k * i.size, i.size)) (madeCells z.cells (len * i.size)) PS.toList = some cs) :
    (Instr.buildSlice t len PS).run P w = .ok (.slice (some ⟨w.heap.size, 0, none⟩) len len) (w.alloc (.cells cs el)) := by
 have h1 : ¬ 16777216 < len * i.size := by omega
 by_cases h0 : len * i.size = 0
 ·have hm : madeCells z.cells (len * i.size) = #[] := by rw [h0]; simp [madeCells]
  rw [hm] at hf
  simp [Instr.buildSlice, run_underlying hu, Qcl hi, h0, newRow, hf, Array.range_zero']
 ·simp only [madeCells] at hf
  simp [Instr.buildSlice, run_underlying hu, Qcl hi, h0, h1, zeroValue, typeInfo, hi, hz, newRow, hf]
theorem evMem_sound (h : RH D w0 ρ H dead w) {tm : List AV} {a : Act} (hT : RT ρ tm a) {nm : Nat} {o : Oper} {v : AV} {H' : Hp} {dead' : List Nat} (he : evMem P tm nm H dead o = some (v, H', dead')) :
    ∃ ρ' n V w', ρ.le ρ' ∧ (execOp a.eval o).run P w = .ok n w' ∧ (n = .value V ∨ n = .skip ∧ V = undef) ∧ v.R ρ' V ∧ RH D w0 ρ' H' dead' w' := by
 obtain ⟨dst, op, ty, pos, after, guard⟩ := o
 unfold evMem at he
 simp only at he
 split at he
 ·rename_i t x
  split at he
  ·rename_i n o hx
   obtain ⟨u, hu, hp⟩ := Option.bind_eq_some_iff.1 hx
   obtain ⟨g, z, hg, hV⟩ := ptrA_R hp (Qay hT hu)
   obtain ⟨v', hv', he⟩ := Option.map_eq_some_iff.1 he
   simp at he; obtain ⟨rfl, rfl, rfl⟩ := he
   obtain ⟨V, hr, hrun⟩ := loadA_sound (P := P) h hg hv'
   refine ⟨ρ, .value V, V, w, Ren.le_refl _, ?_, .inl rfl, hr, h⟩
   simp [execOp, hV, hrun]
  ·cases he
 ·rename_i t x y
  split at he
  ·rename_i n o v' hx hy
   obtain ⟨u, hu, hp⟩ := Option.bind_eq_some_iff.1 hx
   obtain ⟨g, z, hg, hV⟩ := ptrA_R hp (Qay hT hu)
   obtain ⟨H1, hH1, he⟩ := Option.map_eq_some_iff.1 he
   simp at he; obtain ⟨rfl, rfl, rfl⟩ := he
   obtain ⟨w', hrun, hR⟩ := storeA_sound (P := P) h hg (Qay hT hy) hH1
   refine ⟨ρ, .skip, undef, w', Ren.le_refl _, ?_, .inr ⟨rfl, rfl⟩, undef_R ρ, hR⟩
   simp [execOp, hV, hrun]
  ·cases he
 ·rename_i t
  split at he
  ·rename_i z hz
   split at he
   ·rename_i hf
    simp at he; obtain ⟨rfl, rfl, rfl⟩ := he
    obtain ⟨hf1, hf2⟩ := Qdr hf
    unfold zeroA at hz
    split at hz
    ·rename_i i hi
     split at hz
     ·rename_i zv hzv
      have hR := absCs_R (ρ := ρ) hz
      obtain ⟨hn, hle⟩ := h.new hf1 hf2 hR t
      refine ⟨_, .value (.pointer (some ⟨w.heap.size, 0, none⟩)), _, _, hle, ?_, .inl rfl, ⟨w.heap.size, _, by simp [Ren.add]; rfl, rfl⟩, hn⟩
      simp [execOp, Instr.alloc, zeroValue, typeInfo, hi, hzv, newVar, newRow]
     ·cases hz
    ·cases hz
   ·cases he
  ·cases he
 ·rename_i t x
  split at he
  ·rename_i z hz
   obtain ⟨u, hu, hc⟩ := Option.bind_eq_some_iff.1 hz
   obtain ⟨L, hL, hV⟩ := cellsA_R hc (Qay hT hu)
   split at he
   ·rename_i hf
    simp at he; obtain ⟨rfl, rfl, rfl⟩ := he
    obtain ⟨hf1, hf2⟩ := Qdr hf
    obtain ⟨hn, hle⟩ := h.new hf1 hf2 hL t
    refine ⟨_, .value (.pointer (some ⟨w.heap.size, 0, none⟩)), _, _, hle, ?_, .inl rfl, ⟨w.heap.size, _, by simp [Ren.add]; rfl, rfl⟩, hn⟩
    simp [execOp, Instr.box, newVar, newRow, hV]
   ·cases he
  ·cases he
 ·rename_i t len parts
  split at he
  ·rename_i el ps hu hps
   split at he
   ·rename_i i z hi hz
    split at he
    ·rename_i hc
     obtain ⟨hzl, hmax, hlm, hf⟩ := hc
     obtain ⟨hf1, hf2⟩ := Qdr hf
     split at he
     ·rename_i cs hcs
      simp at he; obtain ⟨rfl, rfl, rfl⟩ := he
      unfold zeroA at hz
      rw [hi] at hz
      simp only at hz
      split at hz
      ·rename_i zv hzv
       have hZ := absCs_R (ρ := ρ) hz
       have hPS := Qd4 hT hps
       have hM : All2 (C1.R ρ) (madeA z (len * i.size)) (madeCells zv.cells (len * i.size)).toList := by
        by_cases h0 : len * i.size = 0
        ·rw [h0]; exact All2.of (by simp [madeA, madeCells]) (fun k x hx => by simp [madeA] at hx)
        ·have hpos : 0 < z.length := by
           rw [hzl]; rcases Nat.eq_zero_or_pos i.size with h1 | h1
           ·rw [h1] at h0; simp at h0
           ·exact h1
         simpa using madeA_R hZ hpos (len * i.size)
       obtain ⟨L', hL', hR'⟩ := Qey _ hM hPS hcs
       obtain ⟨hn, hle⟩ := h.new hf1 hf2 hR' el
       have hLl : L'.length = len * i.size := by
        have e1 := hR'.len
        have : ∀ (pl : Nat → Option (Nat × Nat)) (ps : List (Nat × AV)) (l l' : List C1), fillA pl l ps = some l' → l'.length = l.length := by
         intro pl ps
         induction ps with
         | nil => intro l l' hh; simp [fillA] at hh; rw [hh]
         | cons p ps ih =>
          obtain ⟨k, v⟩ := p
          intro l l' hh
          unfold fillA at hh
          split at hh
          ·split at hh
           ·rename_i hb; rw [ih _ _ hh, spl_len hb.2]
           ·cases hh
          ·cases hh
        have e2 := this _ _ _ _ hcs
        rw [← e1, e2]; simp [madeA]
       refine ⟨_, .value (.slice (some ⟨w.heap.size, 0, none⟩) len len), _, _, hle, ?_, .inl rfl, ⟨w.heap.size, L'.length, len, by simp [Ren.add], rfl, by simp, Nat.le_refl _, ?_, by omega, fun _ => by omega⟩, hn⟩
       ·have := run_buildSlice (P := P) (w := w) t len (parts.map fun (i, x) => (i, a.eval x)) el i zv hu hi hzv hmax L'.toArray (by simpa using hL')
        simp [execOp, this]
       ·simp only [maxLen]
        omega
      ·cases hz
     ·cases he
    ·cases he
   ·cases he
  ·cases he
 ·rename_i t l c
  split at he
  ·rename_i el l' c' hu hl hcc
   obtain ⟨u, hu1, hl⟩ := Option.bind_eq_some_iff.1 hl
   obtain ⟨u2, hu2, hcc⟩ := Option.bind_eq_some_iff.1 hcc
   have key : ∀ (v : AV) (V : Value) (j : Int), intOf v = some j → v.R ρ V → ∃ k, V = .int k j := by
    intro v V j hv hr
    unfold intOf at hv
    split at hv
    ·simp at hv; subst hv; exact ⟨_, hr⟩
    ·cases hv
   obtain ⟨kl, hL⟩ := key _ _ _ hl (Qay hT hu1)
   obtain ⟨kc, hC⟩ := key _ _ _ hcc (Qay hT hu2)
   split at he
   ·rename_i i z hi hz
    split at he
    ·rename_i hc
     obtain ⟨hzl, h0, hlc, hcm, hbm, hf⟩ := hc
     obtain ⟨hf1, hf2⟩ := Qdr hf
     simp at he; obtain ⟨rfl, rfl, rfl⟩ := he
     unfold zeroA at hz
     rw [hi] at hz
     simp only at hz
     split at hz
     ·rename_i zv hzv
      have hZ := absCs_R (ρ := ρ) hz
      have hM : All2 (C1.R ρ) (madeA z (c'.toNat * i.size)) (madeCells zv.cells (c'.toNat * i.size)).toList := by
       by_cases h0 : c'.toNat * i.size = 0
       ·rw [h0]; exact All2.of (by simp [madeA, madeCells]) (fun k x hx => by simp [madeA] at hx)
       ·have hpos : 0 < z.length := by
          rw [hzl]; rcases Nat.eq_zero_or_pos i.size with h1 | h1
          ·rw [h1] at h0; simp at h0
          ·exact h1
        simpa using madeA_R hZ hpos (c'.toNat * i.size)
      obtain ⟨hn, hle⟩ := h.new hf1 hf2 hM el
      have hLl : (madeCells zv.cells (c'.toNat * i.size)).toList.length = c'.toNat * i.size := by simp [madeCells]
      have hbb : (i.bytes : Int) * c' ≤ 281474976710656 := by
       obtain ⟨n, rfl⟩ := Int.eq_ofNat_of_zero_le (show 0 ≤ c' by omega)
       have : i.bytes * n ≤ 1000000 * 1000000 := Nat.mul_le_mul hbm (by omega)
       rw [← Int.natCast_mul]; omega
      have hrun := run_make (P := P) w t el i zv hu hi hzv kl kc l' c' h0 hlc hbb (by omega)
      rw [hLl] at hn hle
      refine ⟨_, .value (.slice (some ⟨w.heap.size, 0, none⟩) l'.toNat c'.toNat), _, _, hle, ?_, .inl rfl, ⟨w.heap.size, c'.toNat * i.size, c'.toNat, by simp [Ren.add], rfl, by simp, by omega, by simp only [maxLen]; omega, by omega, fun _ => by omega⟩, by simpa using hn⟩
      simp [execOp, hL, hC, hrun]
     ·cases hz
    ·cases he
   ·cases he
  ·cases he
 ·rename_i args argTypes
  split at he
  ·rename_i x y t t' hx ht
   split at he
   ·rename_i d s hd hs
    split at he
    ·rename_i htt
     subst htt
     obtain ⟨ρ', V, w', hle, hr, hrun, hR⟩ := appA_sound (P := P) h (ty := ty) (Qay hT hd) (Qay hT hs) he
     have ha : args = #[x, y] := by cases args; simp at hx; subst hx; rfl
     have ht' : argTypes = #[t, t] := by cases argTypes; simp at ht; subst ht; rfl
     subst ha; subst ht'
     refine ⟨ρ', .value V, V, w', hle, ?_, .inl rfl, hr, hR⟩
     simp [execOp, resolve, invoke, builtin, hrun]
    ·cases he
   ·cases he
  ·cases he
 ·rename_i args argTypes
  split at he
  ·rename_i x y t t' hx ht
   split at he
   ·rename_i d s hd hs
    obtain ⟨V, w', hr, hrun, hR⟩ := copyA_sound (P := P) (t' := t') h (ty := ty) (Qay hT hd) (Qay hT hs) he
    have ha : args = #[x, y] := by cases args; simp at hx; subst hx; rfl
    have ht' : argTypes = #[t, t'] := by cases argTypes; simp at ht; subst ht; rfl
    subst ha; subst ht'
    refine ⟨ρ, .value V, V, w', Ren.le_refl _, ?_, .inl rfl, hr, hR⟩
    simp [execOp, resolve, invoke, builtin, hrun]
   ·cases he
  ·cases he
 ·cases he
end
structure St where
 tm : List AV
 H : Hp
 dead : List Nat
 df : List (FuncId × List C0)
 r : Nat
 deriving DecidableEq
noncomputable def St.put (s : St) (dst : Option Tmp) (v : AV) : St :=
 match dst with
 | some d => { s with tm := setA s.tm d v }
 | none => s
structure Rel (D : Nat → Prop) (w0 : World) (ρ : Ren) (s : St) (a : Act) (w : World) : Prop where
 tm : RT ρ s.tm a
 df : All2 (fun (x : FuncId × List C0) (d : Deferred) => ∃ C, All2 (C0.R ρ) x.2 C ∧ d = { target := .fn (.func x.1) C.toArray, args := #[] }) s.df a.defers
 rh : RH D w0 ρ s.H s.dead w
abbrev Qdl := FuncId → List AV → Nat → Hp → List Nat → Option Mem
def Qef (P : Program) (D : Nat → Prop) (w0 : World) (call : Qdl) : Prop :=
 ∀ k xs nm H dead r H' dead' ρ vs w, call k xs nm H dead = some (r, H', dead') → RH D w0 ρ H dead w → All2 (AV.R ρ) xs vs →
  (∃ fn, P.funcs[k]? = some fn ∧ (fn.name == "runtime.NumGoroutine") = false ∧ fn.body.isNone = false) ∧
  Calls P k vs.toArray w fun e w' => ∃ ρ' V, ρ.le ρ' ∧ e = .returned V ∧ r.R ρ' V ∧ RH D w0 ρ' H' dead' w'
noncomputable def gA (ops : List Oper) (tm : List AV) (o : Oper) : Option Bool :=
 match o.guard with
 | none => some true
 | some (j, want) => match ops[j]? with
  | some oj => match oj.dst with
   | some d => match nthA tm d with
    | .c (.c (.b x)) => some (x == want)
    | .t _ => some false
    | _ => none
   | none => none
  | none => none
def liftC (l : List C0) : List AV := l.map fun x => .c (.c x)
noncomputable def evCallOp (call : Qdl) (tm : List AV) (nm : Nat) (H : Hp) (dead : List Nat) (o : Oper) : Option Mem :=
 match o.op with
 | .call { callee := .value f, args, .. } => match opV tm f, opsV tm args.toList with
  | some (.c (.f k first cap)), some xs => call k (liftC first ++ xs ++ liftC cap) nm H dead
  | _, _ => none
 | _ => none
noncomputable def evDefer (tm : List AV) (o : Oper) : Option (FuncId × List C0) :=
 match o.op with
 | .defer { callee := .value f, args, .. } => match opV tm f, args.toList with
  | some (.c (.f k [] cap)), [] => some (k, cap)
  | _, _ => none
 | _ => none
noncomputable def quietS (P : Program) (ops : List Oper) (o : Oper) (s : St) : Option St :=
 match gA ops s.tm o with
 | none => none
 | some false => some (s.put o.dst Qd0)
 | some true => match evPure P s.tm o with
  | some v => some (s.put o.dst v)
  | none => none
noncomputable def stepS (P : Program) (call : Qdl) (ops : List Oper) (pre i : Nat) (o : Oper) (s : St) : Option St :=
 match quietS P ops o s with
 | some s' => some s'
 | none => match gA ops s.tm o with
  | some true => match evMem P s.tm (pre * 65536 + s.r * 64 + i) s.H s.dead o with
   | some (v, H, dead) => some { s.put o.dst v with H := H, dead := dead }
   | none => match evCallOp call s.tm (pre * 65536 + s.r * 64 + i) s.H s.dead o with
    | some (v, H, dead) => some { s.put o.dst v with H := H, dead := dead }
    | none => match evDefer s.tm o with
     | some d => some { s.put o.dst Qd0 with df := d :: s.df }
     | none => none
  | _ => none
section
variable {P : Program} {D : Nat → Prop} {w0 : World} {ρ : Ren} {s s' : St} {a : Act} {w : World} {call : Qdl} {ops : Array Oper} {Q : Exit → Act → World → Prop}
theorem RT.put {tm : List AV} (h : RT ρ tm a) {v : AV} {V : Value} (hv : v.R ρ V) (dst : Option Tmp) : RT ρ (match dst with | some d => tm.set d v | none => tm) (a.put dst V) := by
 cases dst with
 | none => exact h
 | some d =>
  show All2 _ (tm.set d v) (a.tmps.setIfInBounds d V).toList
  rw [Array.toList_setIfInBounds]
  exact All2.set hv h d
theorem St.put_tm (s : St) (dst : Option Tmp) (v : AV) : (s.put dst v).tm = (match dst with | some d => s.tm.set d v | none => s.tm) := by
 cases dst with
 | none => rfl
 | some d => exact setA_eq _ _ _
theorem St.put_H (s : St) (dst : Option Tmp) (v : AV) : (s.put dst v).H = s.H ∧ (s.put dst v).dead = s.dead ∧ (s.put dst v).df = s.df ∧ (s.put dst v).r = s.r := by cases dst <;> exact ⟨rfl, rfl, rfl, rfl⟩
theorem put_defers (a : Act) (dst : Option Tmp) (V : Value) : (a.put dst V).defers = a.defers := by cases dst <;> rfl
theorem Rel.put (h : Rel D w0 ρ s a w) {v : AV} {V : Value} (hv : v.R ρ V) (dst : Option Tmp) : Rel D w0 ρ (s.put dst v) (a.put dst V) w := by
 obtain ⟨h1, h2, h3, h4⟩ := St.put_H s dst v
 exact ⟨by rw [St.put_tm]; exact h.tm.put hv dst, by rw [h3, put_defers]; exact h.df, by rw [h1, h2]; exact h.rh⟩
theorem gA_sound (h : RT ρ s.tm a) {o : Oper} {b : Bool} (hg : gA ops.toList s.tm o = some b) : Region.wanted o (yielded ops a.tmps) = b := by
 unfold gA at hg
 unfold Region.wanted
 split at hg
 ·rename_i hn; simp at hg; subst hg; rw [hn]
 ·rename_i j want hn
  rw [hn]
  split at hg
  ·rename_i oj hj
   split at hg
   ·rename_i d hd
    split at hg
    ·rename_i x hx
     simp at hg; subst hg
     have hr := Qdn h d
     rw [hx] at hr
     have hr : a.tmps.getD d undef = .bool x := hr
     have hj' : ops[j]? = some oj := by simpa using hj
     have hy' : a.tmps[d]? = some (.bool x) := by
      rw [Array.getD_eq_getD_getElem?] at hr
      cases hh : a.tmps[d]? with
      | none => rw [hh] at hr; simp [undef] at hr
      | some y => rw [hh] at hr; simpa using hr
     simp only [yielded, hj', Option.bind_some, hd, hy']
     cases x <;> cases want <;> rfl
    ·rename_i l hx
     simp at hg; subst hg
     have hr := Qdn h d
     rw [hx] at hr
     obtain ⟨L, _, hr⟩ := hr
     have hj' : ops[j]? = some oj := by simpa using hj
     rw [Array.getD_eq_getD_getElem?] at hr
     simp only [yielded, hj', Option.bind_some, hd]
     cases hh : a.tmps[d]? with
     | none => rfl
     | some y => rw [hh] at hr; simp at hr; subst hr; rfl
    ·cases hg
   ·cases hg
  ·cases hg
theorem quietS_sound (h : Rel D w0 ρ s a w) {o : Oper} (he : quietS P ops.toList o s = some s') : ∃ V, Yields P ops o V a ∧ Rel D w0 ρ s' (a.put o.dst V) w := by
 unfold quietS at he
 split at he
 ·cases he
 ·rename_i hg
  simp at he; subst he
  exact ⟨undef, .inr ⟨gA_sound h.tm hg, rfl⟩, h.put (undef_R ρ) _⟩
 ·rename_i hg
  split at he
  ·rename_i v hv
   simp at he; subst he
   obtain ⟨V, hr, hrun⟩ := evPure_sound h.tm hv
   exact ⟨V, .inl ⟨gA_sound h.tm hg, hrun⟩, h.put hr _⟩
  ·cases he
theorem liftC_R {l : List C0} {L : List Value} (h : All2 (C0.R ρ) l L) : All2 (AV.R ρ) (liftC l) L := by
 refine All2.of (by simp [liftC, h.len]) fun i x hx => ?_
 simp only [liftC, List.getElem?_map] at hx
 obtain ⟨y, hy, rfl⟩ := Option.map_eq_some_iff.1 hx
 exact h.get i hy
theorem df_mono {ρ' : Ren} (hle : ρ.le ρ') {l : List (FuncId × List C0)} {m : List Deferred}
    (h : All2 (fun (x : FuncId × List C0) (d : Deferred) => ∃ C, All2 (C0.R ρ) x.2 C ∧ d = { target := .fn (.func x.1) C.toArray, args := #[] }) l m) :
    All2 (fun (x : FuncId × List C0) (d : Deferred) => ∃ C, All2 (C0.R ρ') x.2 C ∧ d = { target := .fn (.func x.1) C.toArray, args := #[] }) l m :=
 h.imp fun x d ⟨C, h1, h2⟩ => ⟨C, h1.imp (C0.mono hle), h2⟩
theorem Rel.put' {ρ' : Ren} (h : Rel D w0 ρ s a w) (hle : ρ.le ρ') {H : Hp} {dead : List Nat} {w' : World} (hR : RH D w0 ρ' H dead w') {v : AV} {V : Value} (hv : v.R ρ' V) (dst : Option Tmp) :
    Rel D w0 ρ' { s.put dst v with H := H, dead := dead } (a.put dst V) w' := by
 obtain ⟨h1, h2, h3, h4⟩ := St.put_H s dst v
 refine ⟨?_, ?_, hR⟩
 ·show RT ρ' (s.put dst v).tm _
  rw [St.put_tm]; exact RT.put (All2.imp (AV.mono hle) h.tm) hv dst
 ·show All2 _ (s.put dst v).df _
  rw [h3, put_defers]; exact df_mono hle h.df
theorem stepS_sound (hc : Qef P D w0 call) (h : Rel D w0 ρ s a w) {pre i : Nat} {o : Oper} (hi : ops[i]? = some o) (he : stepS P call ops.toList pre i o s = some s') {K : Act → World → Prop}
    (hK : ∀ ρ' a' w', ρ.le ρ' → Rel D w0 ρ' s' a' w' → K a' w') : wpOp P ops Q i K a w := by
 unfold stepS at he
 split at he
 ·rename_i s1 hq
  simp at he; subst he
  obtain ⟨V, hy, hR⟩ := quietS_sound (P := P) h hq
  exact hy.wpOp hi (hK ρ _ _ (Ren.le_refl _) hR)
 ·split at he
  ·rename_i hg
   have hw := gA_sound (ops := ops) h.tm hg
   unfold wpOp
   simp only [hi, hw, if_true]
   left
   split at he
   ·rename_i v H dead hm
    simp at he; subst he
    obtain ⟨ρ', n, V, w', hle, hrun, hn, hv, hR⟩ := evMem_sound (P := P) h.rh h.tm hm
    unfold Oper.wp
    rw [hrun]
    rcases hn with rfl | ⟨rfl, rfl⟩
    ·exact hK ρ' _ _ hle (h.put' hle hR hv _)
    ·exact hK ρ' _ _ hle (h.put' hle hR hv _)
   ·split at he
    ·rename_i v H dead hm
     simp at he; subst he
     unfold evCallOp at hm
     split at hm
     ·rename_i f args _ hop
      split at hm
      ·rename_i k first cap xs hf has
       obtain ⟨F, C, hF, hC, hfe⟩ := Qay h.tm hf
       have hall := ((liftC_R hF).app (Qej h.tm has)).app (liftC_R hC)
       obtain ⟨⟨fn, hfn, hnm, hbd⟩, hcall⟩ := hc _ _ _ _ _ _ _ _ _ _ _ hm h.rh hall
       have hrun : (execOp a.eval o).run P w = .ok (.enter k (F ++ args.toList.map a.eval ++ C).toArray) w := by
        simp only [execOp, hop, resolve, hfe, Deferred.ofValue, Sem.run_bind, Sem.run_pure, Result.andThen_ok, invoke, callFunc]
        have hp : (program : Sem Program).run P w = .ok P w := rfl
        rw [hp]
        simp only [Result.andThen_ok, hfn, hnm, hbd, if_false, Bool.false_eq_true, Sem.run_pure]
        simp
       unfold Oper.wp
       rw [hrun]
       refine Calls.mono hcall fun e w' hh => ?_
       obtain ⟨ρ', V, hle, rfl, hv, hR⟩ := hh
       exact hK ρ' _ _ hle (h.put' hle hR hv _)
      ·cases hm
     ·cases hm
    ·split at he
     ·rename_i d hd
      simp at he; subst he
      unfold evDefer at hd
      split at hd
      ·rename_i f args _ hop
       split at hd
       ·rename_i k cap hf ha
        simp at hd; subst hd
        obtain ⟨F, C, hF, hC, hfe⟩ := Qay h.tm hf
        have hF0 : F = [] := List.eq_nil_of_length_eq_zero (hF.len ▸ rfl)
        subst hF0
        have ha' : args = #[] := by cases args; simp at ha; subst ha; rfl
        subst ha'
        have hrun : (execOp a.eval o).run P w = .ok (.defer { target := .fn (.func k) C.toArray, args := #[] }) w := by
         simp [execOp, hop, resolve, hfe, Deferred.ofValue]
        unfold Oper.wp
        rw [hrun]
        refine hK ρ _ _ (Ren.le_refl _) ?_
        obtain ⟨h1, h2, h3, h4⟩ := St.put_H s o.dst Qd0
        refine ⟨?_, ?_, ?_⟩
        ·show RT ρ (s.put o.dst Qd0).tm _
         rw [St.put_tm]
         exact RT.put (a := { a with defers := _ :: a.defers }) h.tm (undef_R ρ) _
        ·show All2 _ ((k, cap) :: s.df) _
         rw [put_defers]
         exact ⟨⟨C, hC, rfl⟩, h.df⟩
        ·show RH D w0 ρ (s.put o.dst Qd0).H (s.put o.dst Qd0).dead w
         rw [h1, h2]; exact h.rh
       ·cases hd
      ·cases hd
     ·cases he
  ·cases he
def evSeq (f : Nat → Oper → St → Option St) : Nat → List Oper → St → Option St
 | _, [], s => some s
 | i, o :: rest, s => match f i o s with
  | some s' => evSeq f (i + 1) rest s'
  | none => none
theorem evSeq_sound (hc : Qef P D w0 call) {pre : Nat} {sF : St} (hQ : ∀ ρ' a' w', ρ.le ρ' → Rel D w0 ρ' sF a' w' → Q .normal a' w') :
    ∀ (l : List Oper) (i : Nat) (ρ1 : Ren) (s : St) (a : Act) (w : World), ρ.le ρ1 → Rel D w0 ρ1 s a w → (∀ j, l[j]? = ops[i + j]?) → evSeq (stepS P call ops.toList pre) i l s = some sF →
     wpOps P ops Q (List.range' i l.length) a w
 | [], i, ρ1, s, a, w, hle, h, hl, he => by
  simp [evSeq] at he; subst he
  exact hQ ρ1 a w hle h
 | o :: rest, i, ρ1, s, a, w, hle, h, hl, he => by
  unfold evSeq at he
  split at he
  ·rename_i s' hs
   have hi : ops[i]? = some o := by have := hl 0; simpa using this.symm
   simp only [List.length_cons, List.range'_succ]
   rw [wpOps_cons]
   refine stepS_sound hc h hi hs fun ρ' a' w' hle' h' => ?_
   exact evSeq_sound hc hQ rest (i + 1) ρ' s' a' w' (hle.trans hle') h' (fun j => by have := hl (j + 1); simpa [Nat.add_assoc, Nat.add_comm 1 j] using this) he
  ·cases he
end
def Qdt (o : Oper) : List Nat := (o.after.toList.filter fun e => Region.binds .any e).map (·.on)
def rdyL : Nat → List (List Nat) → List Bool → List Bool → List Nat
 | i, d :: ds, b :: bs, l => if !b && d.all (fun j => (l[j]?).getD false) then i :: rdyL (i + 1) ds bs l else rdyL (i + 1) ds bs l
 | _, _, _, _ => []
theorem mem_rdyL {l : List Bool} {i : Nat} : ∀ {k : Nat} {ds : List (List Nat)} {bs : List Bool}, i ∈ rdyL k ds bs l ↔
    ∃ j d, i = k + j ∧ ds[j]? = some d ∧ bs[j]? = some false ∧ d.all (fun j => (l[j]?).getD false) = true
 | k, [], bs => by simp [rdyL]
 | k, d :: ds, [] => by simp [rdyL]
 | k, d :: ds, b :: bs => by
  unfold rdyL
  have ih := mem_rdyL (l := l) (i := i) (k := k + 1) (ds := ds) (bs := bs)
  have shift : (∃ j d', i = k + j ∧ (d :: ds)[j]? = some d' ∧ (b :: bs)[j]? = some false ∧ d'.all (fun j => (l[j]?).getD false) = true) ↔
      (i = k ∧ b = false ∧ d.all (fun j => (l[j]?).getD false) = true) ∨ ∃ j d', i = k + 1 + j ∧ ds[j]? = some d' ∧ bs[j]? = some false ∧ d'.all (fun j => (l[j]?).getD false) = true := by
   constructor
   ·rintro ⟨j, d', h1, h2, h3, h4⟩
    cases j with
    | zero => simp at h2 h3; subst h2; exact .inl ⟨h1, h3, h4⟩
    | succ j => exact .inr ⟨j, d', by omega, by simpa using h2, by simpa using h3, h4⟩
   ·rintro (⟨h1, h2, h3⟩ | ⟨j, d', h1, h2, h3, h4⟩)
    ·exact ⟨0, d, by omega, by simp, by simp [h2], h3⟩
    ·exact ⟨j + 1, d', by omega, by simpa using h2, by simpa using h3, h4⟩
  rw [shift]
  split
  ·rename_i hb
   simp only [Bool.and_eq_true, Bool.not_eq_true'] at hb
   rw [List.mem_cons, ih]
   constructor
   ·rintro (h | h)
    ·exact .inl ⟨h, hb.1, hb.2⟩
    ·exact .inr h
   ·rintro (⟨h, _⟩ | h)
    ·exact .inl h
    ·exact .inr h
  ·rename_i hb
   rw [ih]
   constructor
   ·exact .inr
   ·rintro (⟨h1, h2, h3⟩ | h)
    ·simp [h2, h3] at hb
    ·exact h
theorem mem_rdy {ops : Array Oper} {l : List Bool} (hl : l.length = ops.size) {i : Nat} :
    i ∈ Region.ready .any ops l.toArray ↔ i ∈ rdyL 0 (ops.toList.map Qdt) l l := by
 rw [mem_ready, mem_rdyL]
 constructor
 ·rintro ⟨h1, o, h2, h3⟩
  refine ⟨i, Qdt o, by omega, by simp [h2], ?_, ?_⟩
  ·have hlt : i < l.length := by rw [hl]; exact (Array.getElem?_eq_some_iff.1 h2).1
   simp [hlt] at h1
   simp [List.getElem?_eq_getElem hlt, h1]
  ·rw [List.all_eq_true]
   intro j hj
   simp only [Qdt, List.mem_map, List.mem_filter] at hj
   obtain ⟨e, ⟨he, hb⟩, rfl⟩ := hj
   have := h3 e (by simpa using he) hb
   simpa [Array.getD_eq_getD_getElem?] using this
 ·rintro ⟨j, d, h1, h2, h3, h4⟩
  have hij : i = j := by omega
  subst hij
  simp only [List.getElem?_map, Array.getElem?_toList] at h2
  obtain ⟨o, ho, rfl⟩ := Option.map_eq_some_iff.1 h2
  refine ⟨by simp [Array.getD_eq_getD_getElem?, h3], o, ho, fun e he hb => ?_⟩
  rw [List.all_eq_true] at h4
  have := h4 e.on (List.mem_map.2 ⟨e, List.mem_filter.2 ⟨by simpa using he, hb⟩, rfl⟩)
  simpa [Array.getD_eq_getD_getElem?] using this
def freeL (opsA : Array Oper) (i : Nat) (oi : Oper) : Nat → List Oper → List (List Nat) → List Bool → Bool
 | j, oj :: os, d :: ds, b :: bs => (j == i || b || d.contains i || oi.apart opsA oj) && freeL opsA i oi (j + 1) os ds bs
 | _, _, _, _ => true
theorem freeL_spec {opsA : Array Oper} {i : Nat} {oi : Oper} : ∀ {k : Nat} {os : List Oper} {ds : List (List Nat)} {bs : List Bool}, freeL opsA i oi k os ds bs = true →
    ∀ j oj d, os[j]? = some oj → ds[j]? = some d → bs[j]? = some false → k + j ≠ i → ¬ i ∈ d → oi.apart opsA oj = true
 | k, o :: os, d :: ds, b :: bs, h, j, oj, d', h1, h2, h3, hne, hd => by
  simp only [freeL, Bool.and_eq_true, Bool.or_eq_true] at h
  cases j with
  | zero =>
   simp at h1 h2 h3
   subst h1; subst h2; subst h3
   rcases h.1 with ((hh | hh) | hh) | hh
   ·simp at hh; omega
   ·cases hh
   ·simp at hh; exact absurd hh hd
   ·exact hh
  | succ j =>
   exact freeL_spec h.2 j oj d' (by simpa using h1) (by simpa using h2) (by simpa using h3) (by omega) hd
 | k, [], _, _, _, j, oj, d', h1, _, _, _, _ => by simp at h1
 | k, _ :: _, [], _, _, j, oj, d', _, h2, _, _, _ => by simp at h2
 | k, _ :: _, _ :: _, [], _, j, oj, d', _, _, h3, _, _ => by simp at h3
inductive Nd where
 | tk (i t : Nat)
 | br (l : List (Nat × Nat))
abbrev Lv := List (List Bool × Nd)
def idxOf (m : List Bool) : Nat → List (List Bool) → Nat × List (List Bool)
 | k, [] => (k, [m])
 | k, x :: xs => if x = m then (k, x :: xs) else let r := idxOf m (k + 1) xs; (r.1, x :: r.2)
def quietOp : Op → Bool
 | .move _ | .assign _ | .pick .. | .extract .. | .nilCheck _ | .fieldAddr .. | .field .. | .indexAddr .. | .slice .. | .makeFunc .. | .build .. | .binOp .. | .unOp .. | .convert .. | .index .. => true
 | .call { callee := .builtin .len, .. } | .call { callee := .builtin .max, .. } | .call { callee := .builtin .min, .. } => true
 | _ => false
def firstQ (opsA : Array Oper) (ops : List Oper) (ds : List (List Nat)) (m : List Bool) : List Nat → Option Nat
 | [] => none
 | i :: l => match ops[i]? with
  | some o => if quietOp o.op && freeL opsA i o 0 ops ds m then some i else firstQ opsA ops ds m l
  | none => none
def mkBr (m : List Bool) : List Nat → List (List Bool) → List (Nat × Nat) × List (List Bool)
 | [], acc => ([], acc)
 | i :: l, acc => let r := idxOf (m.set i true) 0 acc; let q := mkBr m l r.2; ((i, r.1) :: q.1, q.2)
def mkLv (opsA : Array Oper) (ops : List Oper) (ds : List (List Nat)) : List (List Bool) → List (List Bool) → Lv × List (List Bool)
 | [], acc => ([], acc)
 | m :: ms, acc => match firstQ opsA ops ds m (rdyL 0 ds m m) with
  | some i => let r := idxOf (m.set i true) 0 acc; let q := mkLv opsA ops ds ms r.2; ((m, .tk i r.1) :: q.1, q.2)
  | none => let r := mkBr m (rdyL 0 ds m m) acc; let q := mkLv opsA ops ds ms r.2; ((m, .br r.1) :: q.1, q.2)
def mkLvs (opsA : Array Oper) (ops : List Oper) (ds : List (List Nat)) : Nat → List (List Bool) → List Lv
 | 0, _ => []
 | n + 1, ms => let r := mkLv opsA ops ds ms []; r.1 :: mkLvs opsA ops ds n r.2
def masksOf (n : Nat) : List Lv → List (List Bool)
 | [] => [List.replicate n true]
 | L :: _ => L.map (·.1)
def chkNd (opsA : Array Oper) (ops : List Oper) (ds : List (List Nat)) (nm : List (List Bool)) (x : List Bool × Nd) : Bool :=
 match x.2 with
 | .tk i t => match ops[i]? with
  | some o => (rdyL 0 ds x.1 x.1).contains i && freeL opsA i o 0 ops ds x.1 && nm[t]? = some (x.1.set i true)
  | none => false
 | .br l => rdyL 0 ds x.1 x.1 = l.map (·.1) && !l.isEmpty && l.all fun p => nm[p.2]? = some (x.1.set p.1 true)
def chkLvs (opsA : Array Oper) (ops : List Oper) (ds : List (List Nat)) (n : Nat) : List Lv → Bool
 | [] => true
 | L :: rest => L.all (chkNd opsA ops ds (masksOf n rest)) && chkLvs opsA ops ds n rest
def Qes : Nat → St → List (Option St) → Option (List (Option St))
 | 0, s, none :: l => some (some s :: l)
 | 0, s, some t :: l => if t = s then some (some t :: l) else none
 | n + 1, s, x :: l => match Qes n s l with
  | some l' => some (x :: l')
  | none => none
 | _, _, [] => none
theorem Qeh : ∀ {n : Nat} {s : St} {l l' : List (Option St)}, Qes n s l = some l' → l'[n]? = some (some s) ∧ ∀ (j : Nat) (t : St), l[j]? = some (some t) → l'[j]? = some (some t)
 | 0, s, none :: l, l', h => by
  simp [Qes] at h; subst h
  refine ⟨by simp, fun j t ht => ?_⟩
  cases j with
  | zero => simp at ht
  | succ j => simpa using ht
 | 0, s, some t :: l, l', h => by
  simp only [Qes] at h
  split at h
  ·rename_i he
   simp at h; subst h; subst he
   exact ⟨by simp, fun j t ht => ht⟩
  ·cases h
 | n + 1, s, x :: l, l', h => by
  simp only [Qes] at h
  split at h
  ·rename_i l1 h1
   simp at h; subst h
   obtain ⟨h2, h3⟩ := Qeh h1
   refine ⟨by simpa using h2, fun j t ht => ?_⟩
   cases j with
   | zero => simpa using ht
   | succ j => simpa using h3 j t (by simpa using ht)
  ·cases h
 | 0, s, [], l', h => by simp [Qes] at h
 | n + 1, s, [], l', h => by simp [Qes] at h
noncomputable def runBr (P : Program) (call : Qdl) (ops : List Oper) (pre : Nat) (s : St) : List (Nat × Nat) → List (Option St) → Option (List (Option St))
 | [], acc => some acc
 | (i, t) :: l, acc => match ops[i]? with
  | some o => match stepS P call ops pre i o s with
   | some s' => match Qes t s' acc with
    | some acc' => runBr P call ops pre s l acc'
    | none => none
   | none => none
  | none => none
noncomputable def runNd (P : Program) (call : Qdl) (ops : List Oper) (pre : Nat) (s : St) (nd : Nd) (acc : List (Option St)) : Option (List (Option St)) :=
 match nd with
 | .tk i t => match ops[i]? with
  | some o => match quietS P ops o s with
   | some s' => Qes t s' acc
   | none => none
  | none => none
 | .br l => runBr P call ops pre s l acc
noncomputable def runLv (P : Program) (call : Qdl) (ops : List Oper) (pre : Nat) : Lv → List (Option St) → List (Option St) → Option (List (Option St))
 | [], _, acc => some acc
 | x :: L, some s :: ss, acc => match runNd P call ops pre s x.2 acc with
  | some acc' => runLv P call ops pre L ss acc'
  | none => none
 | _ :: _, _, _ => none
noncomputable def runLvs (P : Program) (call : Qdl) (ops : List Oper) (pre n : Nat) : List Lv → List (Option St) → Option (List (Option St))
 | [], ss => some ss
 | L :: rest, ss => match runLv P call ops pre L ss (List.replicate (masksOf n rest).length none) with
  | some ss' => runLvs P call ops pre n rest ss'
  | none => none
theorem runBr_spec {P : Program} {call : Qdl} {ops : List Oper} {pre : Nat} {s : St} : ∀ {l : List (Nat × Nat)} {acc acc' : List (Option St)}, runBr P call ops pre s l acc = some acc' →
    (∀ p ∈ l, ∃ o s', ops[p.1]? = some o ∧ stepS P call ops pre p.1 o s = some s' ∧ acc'[p.2]? = some (some s')) ∧ ∀ (j : Nat) (t : St), acc[j]? = some (some t) → acc'[j]? = some (some t)
 | [], acc, acc', h => by simp [runBr] at h; subst h; exact ⟨by simp, fun j t h => h⟩
 | (i, t) :: l, acc, acc', h => by
  simp only [runBr] at h
  split at h
  ·rename_i o ho
   split at h
   ·rename_i s' hs
    split at h
    ·rename_i acc1 ha
     obtain ⟨h1, h2⟩ := Qeh ha
     obtain ⟨h3, h4⟩ := runBr_spec h
     refine ⟨fun p hp => ?_, fun j t ht => h4 j t (h2 j t ht)⟩
     rcases List.mem_cons.1 hp with rfl | hp
     ·exact ⟨o, s', ho, hs, h4 _ _ h1⟩
     ·exact h3 p hp
    ·cases h
   ·cases h
  ·cases h
theorem runNd_keep {P : Program} {call : Qdl} {ops : List Oper} {pre : Nat} {s : St} {nd : Nd} {acc acc' : List (Option St)} (h : runNd P call ops pre s nd acc = some acc') :
    ∀ (j : Nat) (t : St), acc[j]? = some (some t) → acc'[j]? = some (some t) := by
 unfold runNd at h
 split at h
 ·split at h
  ·split at h
   ·exact (Qeh h).2
   ·cases h
  ·cases h
 ·exact (runBr_spec h).2
theorem runLv_spec {P : Program} {call : Qdl} {ops : List Oper} {pre : Nat} : ∀ {L : Lv} {ss acc acc' : List (Option St)}, runLv P call ops pre L ss acc = some acc' →
    (∀ (k : Nat) (x : List Bool × Nd) (s : St), L[k]? = some x → ss[k]? = some (some s) → ∃ a1 a2, runNd P call ops pre s x.2 a1 = some a2 ∧ ∀ (j : Nat) (t : St), a2[j]? = some (some t) → acc'[j]? = some (some t)) ∧
     ∀ (j : Nat) (t : St), acc[j]? = some (some t) → acc'[j]? = some (some t)
 | [], ss, acc, acc', h => by simp [runLv] at h; subst h; exact ⟨fun k x s hk => by simp at hk, fun j t h => h⟩
 | x :: L, some s :: ss, acc, acc', h => by
  simp only [runLv] at h
  split at h
  ·rename_i a1 ha
   obtain ⟨h1, h2⟩ := runLv_spec h
   refine ⟨fun k y s' hk hs => ?_, fun j t ht => h2 j t (runNd_keep ha j t ht)⟩
   cases k with
   | zero => simp at hk hs; subst hk; subst hs; exact ⟨acc, a1, ha, h2⟩
   | succ k => exact h1 k y s' (by simpa using hk) (by simpa using hs)
  ·cases h
 | _ :: _, [], _, _, h => by simp [runLv] at h
 | _ :: _, none :: _, _, _, h => by simp [runLv] at h
section
variable {P : Program} {D : Nat → Prop} {w0 : World} {ρ : Ren} {s s' : St} {a : Act} {w : World} {call : Qdl} {ops : Array Oper} {Q : Exit → Act → World → Prop}
def Good (P : Program) (D : Nat → Prop) (w0 : World) (ops : Array Oper) (ρ : Ren) (Q : Exit → Act → World → Prop) (fuel : Nat) (m : List Bool) (s : St) : Prop :=
 m.length = ops.size → ∀ ρ1 a w, ρ.le ρ1 → Rel D w0 ρ1 s a w → wpAny P .any ops Q fuel m.toArray a w
theorem set_toArray (l : List Bool) (i : Nat) : l.toArray.setIfInBounds i true = (l.set i true).toArray := by simp
theorem tk_good (hsel : Region.noSelect ops = true) {fuel i : Nat} {o : Oper} {m : List Bool} (hQ : ∀ c a w, ¬ Q (.panic c) a w) (hi : i ∈ rdyL 0 (ops.toList.map Qdt) m m) (ho : ops[i]? = some o)
    (hq : quietS P ops.toList o s = some s') (hf : freeL ops i o 0 ops.toList (ops.toList.map Qdt) m = true) (hg : Good P D w0 ops ρ Q fuel (m.set i true) s') : Good P D w0 ops ρ Q (fuel + 1) m s := by
 intro hl ρ1 a w hle hR
 obtain ⟨V, hyi, hR'⟩ := quietS_sound (P := P) hR hq
 have hmem : i ∈ Region.ready .any ops m.toArray := (mem_rdy hl).2 hi
 refine wpAny_first ho (Region.noSelect_spec hsel) (fun c a w hh => absurd hh (hQ _ _ _)) fuel _ a w ?_ hmem hyi ?_
 ·intro j oj hj hne hun hno
  have hjl : j < m.length := by rw [hl]; exact (Array.getElem?_eq_some_iff.1 hj).1
  refine freeL_spec hf j oj (Qdt oj) (by simpa using hj) (by simp [hj]) ?_ (by omega) ?_
  ·simp [hjl] at hun
   simp [List.getElem?_eq_getElem hjl, hun]
  ·intro hh
   simp only [Qdt, List.mem_map, List.mem_filter] at hh
   obtain ⟨e, ⟨he, hb⟩, he2⟩ := hh
   exact hno e (by simpa using he) hb he2
 ·rw [set_toArray]
  exact hg (by simpa using hl) ρ1 _ _ hle hR'
theorem br_good (hc : Qef P D w0 call) {pre fuel : Nat} {m : List Bool} (hne : rdyL 0 (ops.toList.map Qdt) m m ≠ [])
    (h : ∀ i ∈ rdyL 0 (ops.toList.map Qdt) m m, ∃ o s', ops[i]? = some o ∧ stepS P call ops.toList pre i o s = some s' ∧ Good P D w0 ops ρ Q fuel (m.set i true) s') : Good P D w0 ops ρ Q (fuel + 1) m s := by
 intro hl ρ1 a w hle hR
 refine ⟨fun h0 => ?_, fun i hi => ?_⟩
 ·obtain ⟨i0, hi0⟩ := List.exists_mem_of_ne_nil _ hne
  have : i0 ∈ Region.ready .any ops m.toArray := (mem_rdy hl).2 hi0
  rw [h0] at this; cases this
 ·obtain ⟨o, s', ho, hs, hg⟩ := h i ((mem_rdy hl).1 hi)
  refine stepS_sound hc hR ho hs fun ρ' a' w' hle' hR' => ?_
  rw [set_toArray]
  exact hg (by simpa using hl) ρ' _ _ (hle.trans hle') hR'
theorem runLvs_good (hc : Qef P D w0 call) (hsel : Region.noSelect ops = true) {pre : Nat} (hQ : ∀ c a w, ¬ Q (.panic c) a w) {sF : St} (hF : Good P D w0 ops ρ Q 0 (List.replicate ops.toList.length true) sF) : ∀ (Ls : List Lv) {ss : List (Option St)},
    chkLvs ops ops.toList (ops.toList.map Qdt) ops.toList.length Ls = true → runLvs P call ops.toList pre ops.toList.length Ls ss = some [some sF] →
    ∀ (k : Nat) (m : List Bool) (s : St), (masksOf ops.toList.length Ls)[k]? = some m → ss[k]? = some (some s) → Good P D w0 ops ρ Q Ls.length m s
 | [], ss, _, h, k, m, s, hm, hs => by
  simp [runLvs] at h; subst h
  cases k with
  | zero => simp [masksOf] at hm hs; subst hm; subst hs; simpa using hF
  | succ k => simp at hs
 | L :: rest, ss, hchk, h, k, m, s, hm, hs => by
  simp only [runLvs] at h
  split at h
  ·rename_i ss' hss
   simp only [chkLvs, Bool.and_eq_true, List.all_eq_true] at hchk
   obtain ⟨hL, hrest⟩ := hchk
   have ih := runLvs_good hc hsel hQ hF rest hrest h
   obtain ⟨h1, _⟩ := runLv_spec hss
   simp only [masksOf, List.getElem?_map] at hm
   obtain ⟨x, hx, rfl⟩ := Option.map_eq_some_iff.1 hm
   obtain ⟨a1, a2, hrun, hkeep⟩ := h1 k x s hx hs
   have hck := hL x (List.mem_of_getElem? hx)
   unfold chkNd at hck
   unfold runNd at hrun
   split at hck
   ·rename_i i t hnd
    rw [hnd] at hrun
    simp only at hrun
    split at hck
    ·rename_i o ho
     rw [ho] at hrun
     simp only at hrun
     simp only [Bool.and_eq_true, decide_eq_true_eq] at hck
     obtain ⟨⟨hr, hf⟩, hnm⟩ := hck
     split at hrun
     ·rename_i s' hq
      have hp := hkeep t s' (Qeh hrun).1
      exact tk_good hsel hQ (by simpa using hr) (by simpa using ho) hq hf (ih t _ s' hnm hp)
     ·cases hrun
    ·cases hck
   ·rename_i l hnd
    rw [hnd] at hrun
    simp only [Bool.and_eq_true, decide_eq_true_eq, List.all_eq_true, Bool.not_eq_true'] at hck
    obtain ⟨⟨hr, hne⟩, hall⟩ := hck
    obtain ⟨hb, _⟩ := runBr_spec hrun
    refine br_good (pre := pre) hc ?_ fun i hi => ?_
    ·rw [hr]; intro h0; cases l with
     | nil => simp at hne
     | cons p l => simp at h0
    ·rw [hr] at hi
     obtain ⟨p, hp, rfl⟩ := List.mem_map.1 hi
     obtain ⟨o, s', ho, hs', hacc⟩ := hb p hp
     exact ⟨o, s', by simpa using ho, hs', ih p.2 _ s' (hall p hp) (hkeep _ _ hacc)⟩
  ·cases h
noncomputable def evRegion (P : Program) (call : Qdl) (pre : Nat) (ops : Array Oper) (draw : Bool) (s : St) : Option St :=
 if draw then
  let Ls := mkLvs ops ops.toList (ops.toList.map Qdt) ops.toList.length [List.replicate ops.toList.length false]
  if Region.noSelect ops && chkLvs ops ops.toList (ops.toList.map Qdt) ops.toList.length Ls && decide (masksOf ops.toList.length Ls = [List.replicate ops.toList.length false]) && decide (Ls.length = ops.toList.length) then
   match runLvs P call ops.toList pre ops.toList.length Ls [some s] with
   | some [some s'] => some { s' with r := s'.r + 1 }
   | _ => none
  else none
 else match evSeq (stepS P call ops.toList pre) 0 ops.toList s with
  | some s' => some { s' with r := s'.r + 1 }
  | none => none
theorem Rel.r (h : Rel D w0 ρ s a w) (n : Nat) : Rel D w0 ρ { s with r := n } a w := ⟨h.tm, h.df, h.rh⟩
theorem evRegion_sound (hm : P.follows .mixedOrders = true) (hc : Qef P D w0 call) {pre id : Nat} {draw : Bool} (h : Rel D w0 ρ s a w) (he : evRegion P call pre ops draw s = some s')
    (hQ : ∀ ρ' a' w', ρ.le ρ' → Rel D w0 ρ' s' a' w' → Q .normal a' w') : (Code.region id ops draw).wp P Q a w := by
 unfold evRegion at he
 dsimp only at he
 split at he
 ·rename_i hd
  subst hd
  generalize mkLvs ops ops.toList (ops.toList.map Qdt) ops.toList.length [List.replicate ops.toList.length false] = Ls at he
  split at he
  ·rename_i hsel
   simp only [Bool.and_eq_true, decide_eq_true_eq] at hsel
   obtain ⟨⟨⟨hsel, hchk⟩, hmask⟩, hlen⟩ := hsel
   split at he
   ·rename_i sF hlv
    simp at he; subst he
    let Q1 : Exit → Act → World → Prop := fun e a' w' => e = .normal ∧ ∃ ρ', ρ.le ρ' ∧ Rel D w0 ρ' sF a' w'
    have key : (Code.region id ops true).wp P Q1 a w := by
     refine wp_region_any hm ?_
     have hF : Good P D w0 ops ρ Q1 0 (List.replicate ops.toList.length true) sF := by
      intro hl ρ1 a1 w1 hle hR
      refine ⟨?_, rfl, ρ1, hle, hR⟩
      apply List.eq_nil_iff_forall_not_mem.2
      intro i hi
      obtain ⟨j, d, h1, h2, h3, h4⟩ := mem_rdyL.1 ((mem_rdy hl).1 hi)
      rw [List.getElem?_replicate] at h3
      split at h3 <;> simp at h3
     have h2 := runLvs_good (Q := Q1) (ρ := ρ) hc hsel (fun c a w hh => by cases hh.1) hF Ls hchk hlv 0 (List.replicate ops.toList.length false) s (by rw [hmask]; rfl) (by simp) (by simp) ρ a w.drew (Ren.le_refl _) ⟨h.tm, h.df, h.rh.drew⟩
     have e1 : (List.replicate ops.toList.length false).toArray = Array.replicate ops.size false := by simp
     have e2 : ops.toList.length = ops.size := Array.length_toList
     rw [hlen, e1, e2] at h2
     exact h2
    refine wp_mono key fun e a' w' hh => ?_
    obtain ⟨rfl, ρ', hle, hR⟩ := hh
    exact hQ ρ' a' w' hle (hR.r _)
   ·cases he
  ·cases he
 ·rename_i hd
  simp only [Bool.not_eq_true] at hd
  subst hd
  split at he
  ·rename_i sF hs
   simp at he; subst he
   refine wp_region ?_
   have := evSeq_sound (P := P) (ops := ops) (Q := Q) hc (pre := pre) (sF := sF) (fun ρ' a' w' hle hR => hQ ρ' a' w' hle (hR.r _)) ops.toList 0 ρ s a w (Ren.le_refl _) h (fun j => by simp) hs
   rw [List.range_eq_range']
   simpa using this
  ·cases he
inductive Ex where
 | n
 | x (id : Nat)
 | r
 deriving DecidableEq
def Ex.out : Ex → Exit
 | .n => .normal
 | .x id => .exit id
 | .r => .ret
def loopN (f : St → Option (Ex × St)) : Nat → St → Option (Ex × St)
 | 0, _ => none
 | n + 1, s => match f s with
  | some (.n, s') => loopN f n s'
  | r => r
noncomputable def evCode (P : Program) (call : Qdl) (pre N : Nat) : Code → St → Option (Ex × St)
 | .skip, s => some (.n, s)
 | .label _, s => some (.n, s)
 | .ret, s => some (.r, s)
 | .exit id, s => some (.x id, s)
 | .seq a b, s => match evCode P call pre N a s with
  | some (.n, s') => evCode P call pre N b s'
  | r => r
 | .cond c a b, s => match opV s.tm c with
  | some (.c (.c (.b t))) => if t then evCode P call pre N a s else evCode P call pre N b s
  | _ => none
 | .block id c, s => match evCode P call pre N c s with
  | some (.x j, s') => if j = id then some (.n, s') else some (.x j, s')
  | r => r
 | .loop c, s => loopN (evCode P call pre N c) N s
 | .scope c, s => evCode P call pre N c s
 | .region _ ops draw, s => (evRegion P call pre ops draw s).map fun s' => (.n, s')
 | _, _ => none
theorem evCode_sound (hm : P.follows .mixedOrders = true) (hc : Qef P D w0 call) {pre N : Nat} (c : Code) : ∀ {s s' : St} {e : Ex} {ρ : Ren} {a : Act} {w : World} {Q : Exit → Act → World → Prop},
    evCode P call pre N c s = some (e, s') → Rel D w0 ρ s a w → (∀ ρ' a' w', ρ.le ρ' → Rel D w0 ρ' s' a' w' → Q e.out a' w') → c.wp P Q a w := by
 induction c with
 | skip => intro s s' e ρ a w Q he h hQ; simp [evCode] at he; obtain ⟨rfl, rfl⟩ := he; exact wp_skip (hQ ρ a w (Ren.le_refl _) h)
 | label l => intro s s' e ρ a w Q he h hQ; simp [evCode] at he; obtain ⟨rfl, rfl⟩ := he; exact wp_label (hQ ρ a w (Ren.le_refl _) h)
 | ret => intro s s' e ρ a w Q he h hQ; simp [evCode] at he; obtain ⟨rfl, rfl⟩ := he; exact wp_ret (hQ ρ a w (Ren.le_refl _) h)
 | exit id => intro s s' e ρ a w Q he h hQ; simp [evCode] at he; obtain ⟨rfl, rfl⟩ := he; exact wp_exit (hQ ρ a w (Ren.le_refl _) h)
 | goto l => intro s s' e ρ a w Q he h hQ; simp [evCode] at he
 | refuse l => intro s s' e ρ a w Q he h hQ; simp [evCode] at he
 | rangeFunc f ps x y ih1 ih2 => intro s s' e ρ a w Q he h hQ; simp [evCode] at he
 | region id ops draw =>
  intro s s' e ρ a w Q he h hQ
  simp only [evCode] at he
  obtain ⟨s1, hs1, he⟩ := Option.map_eq_some_iff.1 he
  simp at he; obtain ⟨rfl, rfl⟩ := he
  exact evRegion_sound hm hc h hs1 hQ
 | seq x y ih1 ih2 =>
  intro s s' e ρ a w Q he h hQ
  simp only [evCode] at he
  refine wp_seq ?_
  split at he
  ·rename_i s1 hs1
   exact ih1 hs1 h fun ρ' a' w' hle h' => ih2 he h' fun ρ'' a'' w'' hle' h'' => hQ ρ'' a'' w'' (hle.trans hle') h''
  ·rename_i hn
   refine ih1 he h fun ρ' a' w' hle h' => ?_
   have := hQ ρ' a' w' hle h'
   cases e with
   | n => exact absurd he (hn s')
   | x id => exact this
   | r => exact this
 | cond c x y ih1 ih2 =>
  intro s s' e ρ a w Q he h hQ
  simp only [evCode] at he
  split at he
  ·rename_i t hc'
   have h1 : a.eval c = .bool t := Qay h.tm hc'
   refine wp_cond h1 ?_
   cases t with
   | true => exact ih1 he h hQ
   | false => exact ih2 he h hQ
  ·cases he
 | block id c ih =>
  intro s s' e ρ a w Q he h hQ
  simp only [evCode] at he
  refine wp_block ?_
  split at he
  ·rename_i j s1 hs1
   refine ih hs1 h fun ρ' a' w' hle h' => ?_
   split at he
   ·rename_i hj
    simp at he; obtain ⟨rfl, rfl⟩ := he
    show (if j = id then _ else _)
    rw [if_pos hj]; exact hQ ρ' a' w' hle h'
   ·rename_i hj
    simp at he; obtain ⟨rfl, rfl⟩ := he
    show (if j = id then _ else _)
    rw [if_neg hj]; exact hQ ρ' a' w' hle h'
  ·rename_i hn
   refine ih he h fun ρ' a' w' hle h' => ?_
   have := hQ ρ' a' w' hle h'
   cases e with
   | n => exact this
   | x id => exact absurd he (hn _ _)
   | r => exact this
 | loop c ih =>
  intro s s' e ρ a w Q he h hQ
  simp only [evCode] at he
  refine wp_loop_rounds N ?_
  have key : ∀ (n : Nat) {s : St} {ρ1 : Ren} {a : Act} {w : World}, loopN (evCode P call pre N c) n s = some (e, s') → ρ.le ρ1 → Rel D w0 ρ1 s a w → Code.rounds P c Q n a w := by
   intro n
   induction n with
   | zero => intro s ρ1 a w he _ _; simp [loopN] at he
   | succ n ihn =>
    intro s ρ1 a w he hle h
    unfold loopN at he
    rw [rounds_succ]
    split at he
    ·rename_i s1 hs1
     exact ih hs1 h fun ρ' a' w' hle' h' => ihn he (hle.trans hle') h'
    ·rename_i hn
     refine ih he h fun ρ' a' w' hle' h' => ?_
     have := hQ ρ' a' w' (hle.trans hle') h'
     cases e with
     | n => exact absurd he (hn s')
     | x id => exact this
     | r => exact this
  exact key N he (Ren.le_refl _) h
 | scope c ih =>
  intro s s' e ρ a w Q he h hQ
  simp only [evCode] at he
  refine wp_scope_straight (ih he h fun ρ' a' w' hle h' => ?_)
  have := hQ ρ' a' w' hle h'
  cases e <;> exact this
end
end Go.Proofs.YtchpkjgibloleaaGreat.V
