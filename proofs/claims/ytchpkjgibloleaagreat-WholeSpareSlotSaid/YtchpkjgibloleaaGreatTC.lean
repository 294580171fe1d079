/- TC -/
import Derived.Shelf.Abstract
import Derived.Test.YtchpkjgibloleaaGreatTB
import Derived.Defers
import Derived.Recover
import Derived.Test.YtchpkjgibloleaaGreatTA
set_option linter.unusedVariables false
set_option linter.unusedSimpArgs false
namespace Go.Proofs.YtchpkjgibloleaaGreat.Z
set_option maxRecDepth 100000
set_option maxHeartbeats 8000000
open Go.RowKit Go.Proofs.YtchpkjgibloleaaGreatW.PrintWords Go.Proofs.YtchpkjgibloleaaGreatW.PrintLast Go.Proofs.YtchpkjgibloleaaGreatW.PrintMore
attribute [local go_sem] Qb3 Qb8
theorem Fr.cell_ {g : Nat} {w w' : World} (h : Fr g w w') {p : Addr} (hp : p.block < w.heap.size) (hne : p.block ≠ g) : w'.cell? p = w.cell? p := World.cell?_of_block (h.block p.block hp hne)
theorem cell_b {w W : World} {p : Addr} {v : Value} (hb : Below w.heap.size w W) (h : w.cell? p = some v) : W.cell? p = some v := (hb.cell (wblt w h)).trans h
instance (l : List S47) : Decidable (Asc l) := inferInstanceAs (Decidable (List.Pairwise (fun x y => Qci x y = true) l))
def renS (k : Nat) (kept more : List S47) : Option (List S47) := if Asc more then Qae.f k kept more else none
def copyS (k : Nat) (l : List S47) (d a : Int) : Option (List S47) := if l.length < 8796093022208 then (if d = a then (if Asc l then some l else none) else renS k (l.filter fun p => p.f0 != d) ((l.filter fun p => p.f0 == a).map fun p => (⟨d, p.f1⟩ : S47))) else none
def moveS (k : Nat) (l : List S47) (d a : Int) : Option (List S47) := if l.length < 8796093022208 then (if d = a then (if Asc l then some l else none) else renS k (l.filter fun p => p.f1 != d) ((l.filter fun p => p.f1 == a).map fun p => (⟨p.f0, d⟩ : S47))) else none
theorem copyS_calls (k : Nat) (A : Option Addr) (c : Nat) (l r : List S47) (d a : Int) (w : World) (hr : Kd.C k47 w A l.length l) (hc : l.length ≤ c) (hf : copyS k l d a = some r) :
    Calls Tryz.prog 157 #[.slice A l.length c, .int .i64 d, .int .i64 a] w fun e w' => ∃ u, e = .returned u ∧ Kd.R k47 47 w' w.heap.size (fun _ => True) u r ∧ Below w.heap.size w w' := by
 unfold copyS renS at hf
 by_cases hl : l.length < 8796093022208
 ·rw [if_pos hl] at hf
  by_cases hda : d = a
  ·rw [if_pos hda] at hf
   subst hda
   split at hf
   ·rename_i hs
    obtain rfl := Option.some.inj hf
    exact copy_same A c l d w hr hs hl
   ·cases hf
  ·rw [if_neg hda] at hf
   split at hf
   ·rename_i hs
    exact copy_other k A c l r d a w hda hr hc hl hs hf
   ·cases hf
 ·rw [if_neg hl] at hf; cases hf
theorem moveS_calls (k : Nat) (A : Option Addr) (c : Nat) (l r : List S47) (d a : Int) (w : World) (hr : Kd.C k47 w A l.length l) (hc : l.length ≤ c) (hf : moveS k l d a = some r) :
    Calls Tryz.prog 158 #[.slice A l.length c, .int .i64 d, .int .i64 a] w fun e w' => ∃ u, e = .returned u ∧ Kd.R k47 47 w' w.heap.size (fun _ => True) u r ∧ Below w.heap.size w w' := by
 unfold moveS renS at hf
 by_cases hl : l.length < 8796093022208
 ·rw [if_pos hl] at hf
  by_cases hda : d = a
  ·rw [if_pos hda] at hf
   subst hda
   split at hf
   ·rename_i hs
    obtain rfl := Option.some.inj hf
    exact move_same A c l d w hr hs hl
   ·cases hf
  ·rw [if_neg hda] at hf
   split at hf
   ·rename_i hs
    exact move_other k A c l r d a w hda hr hc hl hs hf
   ·cases hf
 ·rw [if_neg hl] at hf; cases hf
def copyF (k : Nat) (s : Bs) (d a i : Int) : OBs := (copyS k s.set d a).bind fun l => some (Qcg s.cost l i)
def moveF (k : Nat) (s : Bs) (d a i : Int) : OBs := (moveS k s.set d a).bind fun l => some (Qcg s.cost l i)
def Qei (k : Nat) (m : Int) : List S41 → Bs → (Bs → OBs) → OBs
 | [], s, K => K s
 | i :: t, s, K => (copyF k s i.f1 i.f2 m).then fun s1 => Qei k m t s1 K
def Qdc (k : Nat) (mc : List S59) : Nat → Int → Bs → (Bs → OBs) → OBs
 | 0, _, s, K => K s
 | n + 1, j, s, K => if 0 ≤ j ∧ j < (mc.length : Int) then (moveF k s (Qag mc j).f5 (Qag mc j).f6 j).then fun s1 => Qdc k mc n (j + 1) s1 K else none
def instrF (k : Nat) (s : Bs) (i : S41) (m : S59) (ia : Int) : OBs := (opcode_Of.f i.f0).bind fun t => instrA k s t.1 t.2.1 t.2.2.1 i.f1 i.f2 i.f3 m.f1 m.f2 m.f3 ia
def srcF (k : Nat) (bc : List S41) (mc : List S59) (r4 r5 : Int) (s : Bs) : OBs :=
 if r4 ≥ 0 then (if r4 < (bc.length : Int) ∧ 0 ≤ r5 ∧ r5 < (mc.length : Int) then instrF k s (Qav bc r4) (Qag mc r5) r5 else none) else some (s, none)
def rowF (k : Nat) (bc : List S41) (mc : List S59) (r : S180) (s : Bs) : OBs :=
 if 0 ≤ r.f0 ∧ r.f0 ≤ r.f1 ∧ r.f1 ≤ (bc.length : Int) then
  Qei k r.f2 ((bc.take r.f1.toNat).drop r.f0.toNat) s fun s1 => Qdc k mc (r.f3 - r.f2).toNat r.f2 s1 fun s2 => srcF k bc mc r.f4 r.f5 s2
 else none
theorem instrF_calls (k g : Nat) (s : Bs) (i : S41) (m : S59) (ia : Int) (x : Bs × Pan) (w : World) (h : Ck w g s) (hf : instrF k s i m ia = some x) :
    Calls Tryz.prog 159 #[.pointer (some ⟨g, 0, none⟩), .agg #[.int .i64 i.f0, .int .i64 i.f1, .int .i64 i.f2, .int .i64 i.f3, .int .i64 i.f4], .agg #[.int .i64 m.f0, .int .i64 m.f1, .int .i64 m.f2, .int .i64 m.f3, .int .i64 m.f4, .int .i64 m.f5, .int .i64 m.f6], .int .i64 ia] w fun e w' => e = endOf x.2 ∧ Ck w' g x.1 ∧ Fr g w w' := by
 obtain ⟨⟨sd, sa, sb, sm, so⟩, ho, hx⟩ := Option.bind_eq_some_iff.mp hf
 exact instr_calls k g s _ _ _ _ _ _ _ _ _ _ _ _ ia sd sa sb sm so x w h ho hx
theorem row_calls (k g : Nat) (s : Bs) (A0 : Option Addr) (c0 : Nat) (bc : List S41) (t0 t1 t2 t3 : Int) (A1 : Option Addr) (c1 : Nat) (mc : List S59) (u0_ u1_ u2_ u3_ : Int) (r : S180) (x : Bs × Pan) (w0 w : World) (h : Ck w g s) (hB : Below w0.heap.size w0 w) (hg0 : w0.heap.size ≤ g)
    (h0 : Kd.C k41 w0 A0 bc.length bc) (hc0 : bc.length ≤ c0) (h1 : Kd.C k59 w0 A1 mc.length mc) (hc1_ : mc.length ≤ c1) (hf : rowF k bc mc r s = some x) :
    Calls Tryz.prog 120 #[.pointer (some ⟨g, 0, none⟩), .agg #[.slice A0 bc.length c0, .int .i64 t0, .int .i64 t1, .int .i64 t2, .int .i64 t3], .agg #[.slice A1 mc.length c1, .int .i64 u0_, .int .i64 u1_, .int .i64 u2_, .int .i64 u3_], .agg #[.int .i64 r.f0, .int .i64 r.f1, .int .i64 r.f2, .int .i64 r.f3, .int .i64 r.f4, .int .i64 r.f5]] w fun e w' => e = endOf x.2 ∧ Ck w' g x.1 ∧ Fr g w w' := by
 have hu35 := Tryz.underlying35
 have hu39 := Tryz.underlying39
 have hu41 := Tryz.underlying41
 have hu44 := Tryz.underlying44
 have hu54 := Tryz.underlying54
 have hu57 := Tryz.underlying57
 have hu59 := Tryz.underlying59
 have hu128 := Tryz.underlying128
 have hu180 := Tryz.underlying180
 have HK := As0 h
 have HB0 := As0 hB
 have HG0 := As0 hg0
 have H0 := As0 h0
 have H1 := As0 h1
 have HM0 := As0 h0.2.1
 have HM1 := As0 h1.2.1
 unfold rowF at hf
 by_cases hcut : 0 ≤ r.f0 ∧ r.f0 ≤ r.f1 ∧ r.f1 ≤ (bc.length : Int)
 ·rw [if_pos hcut] at hf
  have H := As0 hf
  obtain ⟨i41, hi41, _, hsz41, _⟩ := info_parts info41
  have hcm := cut_mid (P := Tryz.prog) 35 41 .i64 .i64 Tryz.underlying35 hi41 5 hsz41 A0 bc.length c0 r.f0 r.f1 hcut.1 hcut.2.1 hcut.2.2 hc0
  have htk : (bc.take r.f1.toNat).length = r.f1.toNat := by rw [List.length_take]; omega
  have hCs : ∃ A2 c2, (if c0 = r.f0.toNat then A0 else A0.map (·.add (r.f0.toNat * 5))) = A2 ∧ c0 - r.f0.toNat = c2 ∧ r.f1.toNat - r.f0.toNat = ((bc.take r.f1.toNat).drop r.f0.toNat).length ∧ Kd.C k41 w0 A2 ((bc.take r.f1.toNat).drop r.f0.toNat).length ((bc.take r.f1.toNat).drop r.f0.toNat) ∧ ((bc.take r.f1.toNat).drop r.f0.toNat).length ≤ 9223372036854775807 := by
   have ht := Kd.C_take (m := r.f1.toNat) h0 (by omega)
   have hd := Kd.C_drop (m := r.f0.toNat) (c := c0) ht (by omega) (by omega)
   exact ⟨_, _, rfl, rfl, by rw [List.length_drop, htk], hd, hd.2.1⟩
  obtain ⟨A2, c2, e1, e2, e3, hC2, hM2⟩ := hCs
  rw [e1, e2, e3] at hcm
  clear e1 e2 e3 htk
  generalize (bc.take r.f1.toNat).drop r.f0.toNat = cs at hcm hC2 hM2 H
  have C2 := As0 hC2
  clear h hB hg0 h0 h1 hf hcut hC2 hi41
  have HF := As0 (Fr.refl g w)
  go_enter Tryz.func120, Tryz.ntmps120
  go_wp2_with (first
   | ((with_reducible refine gD 5 ?_); refine bX ?_; intro gB hg w1 hbox hb; have B := As0 hbox; have NB := As0 (by have := HK.out.lt; omega : gB ≠ g); replace HK := As0 (HK.out.below hb); replace HF := As0 (HF.out.then hb); clear hb hbox hg)
   | ((with_reducible refine gD 6 ?_); refine bX ?_; intro gM hg w2 hbox hb; have M := As0 hbox; have NM := As0 (by have := HK.out.lt; omega : gM ≠ g); replace B := As0 (Qbl B.out hb); replace HK := As0 (HK.out.below hb); replace HF := As0 (HF.out.then hb); clear hb hbox hg)
   | ((with_reducible refine gD 7 ?_); refine bX ?_; intro gR hg w3 hbox hb; have R := As0 hbox; have NR := As0 (by have := HK.out.lt; omega : gR ≠ g); replace B := As0 (Qbl B.out hb); replace M := As0 (Qbl M.out hb); replace HK := As0 (HK.out.below hb); replace HF := As0 (HF.out.then hb); (obtain ⟨b0, b1, b2, b3, b4, bf0, bf1, bf2, bf3, bf4⟩ := cN5 B.out); (obtain ⟨m0, m1, m2, m3, m4, mf0, mf1, mf2, mf3, mf4⟩ := cN5 M.out); (obtain ⟨r_0, r_1, r_2, r_3, r_4, r_5, r_f0, r_f1, r_f2, r_f3, r_f4, r_f5⟩ := cN6 R.out); clear hb hbox hg))
  skip; skip; skip
  go_loopg [19] (cs.length + 1) (fun n v19 w' => ∃ (i : Nat) (s1 : Bs), v19 = .int .i64 (i : Int) ∧ Qbk (i ≤ cs.length ∧ cs.length - i < n) ∧ Qbk (Qei k r.f2 (cs.drop i) s1 (fun s1 => Qdc k mc (r.f3 - r.f2).toNat r.f2 s1 fun s2 => srcF k bc mc r.f4 r.f5 s2) = some x) ∧ Qbk (Ck w' g s1) ∧ Qbk (Fr g w w') ∧ Qbk (w'.heap[gB]? = some (.cells #[.slice A0 bc.length c0, .int .i64 t0, .int .i64 t1, .int .i64 t2, .int .i64 t3] 39 (0, 0))) ∧ Qbk (w'.heap[gM]? = some (.cells #[.slice A1 mc.length c1, .int .i64 u0_, .int .i64 u1_, .int .i64 u2_, .int .i64 u3_] 57 (0, 0))) ∧ Qbk (w'.heap[gR]? = some (.cells #[.int .i64 r.f0, .int .i64 r.f1, .int .i64 r.f2, .int .i64 r.f3, .int .i64 r.f4, .int .i64 r.f5] 180 (0, 0))))
  case atStart => exact ⟨0, s, rfl, ⟨by omega, by omega⟩, ⟨by rw [List.drop_zero]; exact H.out⟩, HK, HF, B, M, R⟩
  case round =>
   clear HK HF B M R H
   obtain ⟨i, s1, rfl, HI, H, HK, HF, B, M, R⟩ := hrel
   (obtain ⟨b0, b1, b2, b3, b4, bf0, bf1, bf2, bf3, bf4⟩ := cN5 B.out); (obtain ⟨m0, m1, m2, m3, m4, mf0, mf1, mf2, mf3, mf4⟩ := cN5 M.out); (obtain ⟨r_0, r_1, r_2, r_3, r_4, r_5, r_f0, r_f1, r_f2, r_f3, r_f4, r_f5⟩ := cN6 R.out)
   by_cases hi : i < cs.length
   ·have hlt : (i : Int) < (cs.length : Int) := by omega
    have h0' : (0 : Int) ≤ (i : Int) := by omega
    obtain ⟨ad, e, hx0, hx1, hx2, hx3, hx4⟩ := at_T41 C2.out i h0' hlt
    cases e
    have HBw := HF.out.base HB0.out HG0.out HB0.out.size
    replace hx0 := (HBw.cell (wblt w0 hx0)).trans hx0
    replace hx1 := (HBw.cell (wblt w0 hx1)).trans hx1
    replace hx2 := (HBw.cell (wblt w0 hx2)).trans hx2
    replace hx3 := (HBw.cell (wblt w0 hx3)).trans hx3
    replace hx4 := (HBw.cell (wblt w0 hx4)).trans hx4
    have hw : wrap64 ((i : Int) + 1) = ((i + 1 : Nat) : Int) := by unfold wrap64; omega
    have hp : Qav cs (i : Int) = cs[i] := by simp [Qav, List.getD_eq_getElem?_getD, hi]
    have hdr : cs.drop i = cs[i] :: cs.drop (i + 1) := by rw [List.drop_eq_getElem_cons hi]
    have H' := H.out
    rw [hdr] at H'
    rw [hp] at hx0 hx1 hx2 hx3 hx4
    simp only [Int.toNat_natCast] at hx0 hx1 hx2 hx3 hx4
    generalize cs[i] = p at hx0 hx1 hx2 hx3 hx4 H'
    clear hp hdr HBw
    obtain ⟨s2, pn, hu, hp⟩ := OBs.then_inv (show OBs.then (copyF k s1 p.f1 p.f2 r.f2) (fun s1 => Qei k r.f2 (cs.drop (i + 1)) s1 (fun s1 => Qdc k mc (r.f3 - r.f2).toNat r.f2 s1 fun s2 => srcF k bc mc r.f4 r.f5 s2)) = some x from H')
    obtain ⟨l, hl, hx⟩ := Option.bind_eq_some_iff.mp hu
    replace hx := Option.some.inj hx
    have HL := As0 hl
    clear hl hu
    go_wp2_with (first
        | ((with_reducible refine gD 9 ?_); refine bX ?_; intro gi hg w4 hbox hb; have I := As0 hbox; have NI := As0 (by have := HK.out.lt; omega : gi ≠ g); have GI := As0 (Nat.le_of_eq hg.symm); have HBI := As0 hb; clear hb hbox hg)
        | ((with_reducible refine Qdb (.store 41 (.tmp 9) (.tmp 22)) rfl ?_); go_loud (refine Qau rfl rfl 41 _ _ rfl gi #[.int .i64 p.f0, .int .i64 p.f1, .int .i64 p.f2, .int .i64 p.f3, .int .i64 p.f4] rfl rfl 41 #[.int .i64 0, .int .i64 0, .int .i64 0, .int .i64 0, .int .i64 0] I.out (by kernel_rfl) rfl (by kernel_rfl) ?_); intro w5 hg ho hB; have hb := hB _ _ GI.out HBI.out; replace I := As0 hg; replace B := As0 (Qbl B.out hb); replace M := As0 (Qbl M.out hb); replace R := As0 (Qbl R.out hb); replace HF := As0 (HF.out.then hb); replace HK := As0 (HK.out.below hb); clear hg ho hB hb HBI GI)
        | (go_at_call 155; refine (Qd0 g s1 _ HK.out).mono ?_; rintro e w8 ⟨rfl, hk, hf⟩; replace HK := As0 hk; clear b0 b1 b2 b3 b4 bf0 bf1 bf2 bf3 bf4 m0 m1 m2 m3 m4 mf0 mf1 mf2 mf3 mf4 r_0 r_1 r_2 r_3 r_4 r_5 r_f0 r_f1 r_f2 r_f3 r_f4 r_f5; replace I := As0 (hf.blk I.out NI.out); replace B := As0 (hf.blk B.out NB.out); replace M := As0 (hf.blk M.out NM.out); replace R := As0 (hf.blk R.out NR.out); replace HF := As0 (HF.out.trans hf); (obtain ⟨b0, b1, b2, b3, b4, bf0, bf1, bf2, bf3, bf4⟩ := cN5 B.out); (obtain ⟨m0, m1, m2, m3, m4, mf0, mf1, mf2, mf3, mf4⟩ := cN5 M.out); (obtain ⟨r_0, r_1, r_2, r_3, r_4, r_5, r_f0, r_f1, r_f2, r_f3, r_f4, r_f5⟩ := cN6 R.out); have i1 := (Qbn I.out 1).trans rfl; have i2 := (Qbn I.out 2).trans rfl; clear hf hk))
    (obtain ⟨A, c, hg, hc, hC, hne⟩ := HK.out); (obtain ⟨q0, q1, q2, q3, f0, f1, f2, f3⟩ := cN4 hg); replace q0 : w8.cell? ⟨g, 0, none⟩ = some (.slice A s1.set.length c) := q0; have HC := As0 (show Kd.C k47 w8 A s1.set.length s1.set from hC); have hc1 : s1.set.length ≤ c := hc; clear hg hC hc q1 q2 q3
    rcases hp with ⟨rfl, hp⟩ | ⟨q, rfl, rfl⟩
    ·have hbe : Qcg s1.cost l r.f2 = (s2, none) := hx
     refine Qcb (n := 13) (S := fun w' => w'.cell? ⟨g, 0, none⟩ = some (.slice A s1.set.length c) ∧ w'.cell? ⟨gi, 1, none⟩ = some (.int .i64 p.f1) ∧ w'.cell? ⟨gi, 2, none⟩ = some (.int .i64 p.f2) ∧ w'.cell? ⟨gR, 2, none⟩ = some (.int .i64 r.f2)) (ds := [12]) (bb 13 0) (by kernel_rfl) rfl rfl ⟨q0, i1, i2, r_2⟩ (fun hHeld => ?_)
     refine pu 0 25 (bb 13 1) ?_
     refine pu 1 26 (bb 13 3) ?_
     refine pu 2 27 (bb 13 7) ?_
     refine pu 3 28 (bb 13 15) ?_
     refine pu 5 30 (bb 13 47) ?_
     refine pu 7 32 (bb 13 175) ?_
     refine pu 10 35 (bb 13 1199) ?_
     refine tu hHeld 4 29 (bb 13 1215) ?_
     refine tu hHeld 6 31 (bb 13 1279) ?_
     refine tu hHeld 8 33 (bb 13 1535) ?_
     refine tu hHeld 11 36 (bb 13 3583) ?_
     refine one_ (i := 9) (N := some 34) (bb 13 4095) rfl rfl (by kernel_rfl) (by decide) (fun K hK => ?_)
     refine gG Tryz.func157 #[.slice A s1.set.length c, .int .i64 p.f1, .int .i64 p.f2] ?_
     with_reducible refine (copyS_calls k A c s1.set l p.f1 p.f2 _ (by repeat (first | exact HC.out | refine Kd.C_drewN ?_ _ | refine Kd.C_drew ?_)) hc1 HL.out).mono ?_
     rintro e w9 ⟨u, rfl, ho9, hb9⟩
     refine ⟨_, rfl, ?_⟩
     refine hK.out _ _ ⟨(cell_b hb9 q0), (cell_b hb9 i1), (cell_b hb9 i2), (cell_b hb9 r_2)⟩ (fun hHeld => ?_)
     clear hK K
     refine Qb1 (a' := ?_) ?_ ?_
     rotate_left
     ·show Act.put _ (some 34) _ = _
      simp only [Act.put, List.setIfInBounds_toArray, List.set_cons_zero, List.set_cons_succ, Qbu, Qbv]
      rfl
     refine Qdu (i := 12) (N := some 37) (bb 13 8191) rfl rfl (by kernel_rfl) (by decide) (fun K hK => ?_)
     refine gG Tryz.func156 #[.pointer (some ⟨g, 0, none⟩), u, .int .i64 r.f2] ?_
     with_reducible refine (Qc8 g s1.cost l r.f2 u _ _ _ (HK.out.below (Qb5 (BU (Below.refl _ w8)) hb9)) (Kd.R_bound ho9) (fun k hk => Nat.ne_of_gt (Nat.lt_of_lt_of_le HK.out.lt (Nat.le_trans (Qbm (BU (Below.refl _ w8))) hk.2.1)))).mono ?_
     rintro e w10 ⟨he, hk, hf⟩
     rw [hbe] at he hk
     have hff := (Fr.of (g := g) (Qb5 (BU (Below.refl _ w8)) hb9)).trans hf
     replace B := As0 (hff.blk B.out NB.out)
     replace M := As0 (hff.blk M.out NM.out)
     replace R := As0 (hff.blk R.out NR.out)
     replace HF := As0 (HF.out.trans hff)
     replace HK := As0 hk
     subst he
     clear hff hf hk
     refine ⟨_, rfl, ?_⟩
     refine hK.out _ _ ?_
     clear hK K
     refine Qb1 (a' := ?_) ?_ ?_
     rotate_left
     ·show Act.put _ (some 37) _ = _
      simp only [Act.put, List.setIfInBounds_toArray, List.set_cons_zero, List.set_cons_succ, Qbu, Qbv]
      rfl
     refine Qcy (by kernel_rfl) ?_
     go_wp2
     go_roundg (cs.length - i)
     case measure => have := HI.out; omega
     case rel => exact ⟨i + 1, s2, by first | rw [hw] | (push_cast; rfl), ⟨by omega, by omega⟩, ⟨hp⟩, HK, HF, B, M, R⟩
    ·have hbe : Qcg s1.cost l r.f2 = (s2, some q) := hx
     refine Qcb (n := 13) (S := fun w' => w'.cell? ⟨g, 0, none⟩ = some (.slice A s1.set.length c) ∧ w'.cell? ⟨gi, 1, none⟩ = some (.int .i64 p.f1) ∧ w'.cell? ⟨gi, 2, none⟩ = some (.int .i64 p.f2) ∧ w'.cell? ⟨gR, 2, none⟩ = some (.int .i64 r.f2)) (ds := [12]) (bb 13 0) (by kernel_rfl) rfl rfl ⟨q0, i1, i2, r_2⟩ (fun hHeld => ?_)
     refine pu 0 25 (bb 13 1) ?_
     refine pu 1 26 (bb 13 3) ?_
     refine pu 2 27 (bb 13 7) ?_
     refine pu 3 28 (bb 13 15) ?_
     refine pu 5 30 (bb 13 47) ?_
     refine pu 7 32 (bb 13 175) ?_
     refine pu 10 35 (bb 13 1199) ?_
     refine tu hHeld 4 29 (bb 13 1215) ?_
     refine tu hHeld 6 31 (bb 13 1279) ?_
     refine tu hHeld 8 33 (bb 13 1535) ?_
     refine tu hHeld 11 36 (bb 13 3583) ?_
     refine one_ (i := 9) (N := some 34) (bb 13 4095) rfl rfl (by kernel_rfl) (by decide) (fun K hK => ?_)
     refine gG Tryz.func157 #[.slice A s1.set.length c, .int .i64 p.f1, .int .i64 p.f2] ?_
     with_reducible refine (copyS_calls k A c s1.set l p.f1 p.f2 _ (by repeat (first | exact HC.out | refine Kd.C_drewN ?_ _ | refine Kd.C_drew ?_)) hc1 HL.out).mono ?_
     rintro e w9 ⟨u, rfl, ho9, hb9⟩
     refine ⟨_, rfl, ?_⟩
     refine hK.out _ _ ⟨(cell_b hb9 q0), (cell_b hb9 i1), (cell_b hb9 i2), (cell_b hb9 r_2)⟩ (fun hHeld => ?_)
     clear hK K
     refine Qb1 (a' := ?_) ?_ ?_
     rotate_left
     ·show Act.put _ (some 34) _ = _
      simp only [Act.put, List.setIfInBounds_toArray, List.set_cons_zero, List.set_cons_succ, Qbu, Qbv]
      rfl
     refine Qdu (i := 12) (N := some 37) (bb 13 8191) rfl rfl (by kernel_rfl) (by decide) (fun K hK => ?_)
     refine goesP_ Tryz.func156 (by kernel_rfl) rfl #[.pointer (some ⟨g, 0, none⟩), u, .int .i64 r.f2] (by rfl) rfl rfl (by simp only [List.map_toArray, List.map_cons, List.map_nil]; rfl) ?_
     with_reducible refine (Qc8 g s1.cost l r.f2 u _ _ _ (HK.out.below (Qb5 (BU (Below.refl _ w8)) hb9)) (Kd.R_bound ho9) (fun k hk => Nat.ne_of_gt (Nat.lt_of_lt_of_le HK.out.lt (Nat.le_trans (Qbm (BU (Below.refl _ w8))) hk.2.1)))).mono ?_
     rintro e w10 ⟨he, hk, hf⟩
     rw [hbe] at he hk
     have hff := (Fr.of (g := g) (Qb5 (BU (Below.refl _ w8)) hb9)).trans hf
     replace B := As0 (hff.blk B.out NB.out)
     replace M := As0 (hff.blk M.out NM.out)
     replace R := As0 (hff.blk R.out NR.out)
     replace HF := As0 (HF.out.trans hff)
     replace HK := As0 hk
     subst he
     clear hff hf hk
     exact ⟨_, rfl, rfl, rfl, HK.out, HF.out⟩
   ·have hi' : i = cs.length := by have := HI.out.1; omega
    have H2 := H.out
    rw [hi', List.drop_length] at H2
    replace H := As0 (show Qdc k mc (r.f3 - r.f2).toNat r.f2 s1 (fun s2 => srcF k bc mc r.f4 r.f5 s2) = some x from H2)
    subst hi'
    clear H2 C2 hcm HI
    go_wp2
    go_loopg [10] ((r.f3 - r.f2).toNat + 1) (fun n v10 w' => ∃ (j : Int) (s1 : Bs), v10 = .int .i64 j ∧ Qbk ((r.f3 - j).toNat < n) ∧ Qbk (Qdc k mc (r.f3 - j).toNat j s1 (fun s2 => srcF k bc mc r.f4 r.f5 s2) = some x) ∧ Qbk (Ck w' g s1) ∧ Qbk (Fr g w w') ∧ Qbk (w'.heap[gB]? = some (.cells #[.slice A0 bc.length c0, .int .i64 t0, .int .i64 t1, .int .i64 t2, .int .i64 t3] 39 (0, 0))) ∧ Qbk (w'.heap[gM]? = some (.cells #[.slice A1 mc.length c1, .int .i64 u0_, .int .i64 u1_, .int .i64 u2_, .int .i64 u3_] 57 (0, 0))) ∧ Qbk (w'.heap[gR]? = some (.cells #[.int .i64 r.f0, .int .i64 r.f1, .int .i64 r.f2, .int .i64 r.f3, .int .i64 r.f4, .int .i64 r.f5] 180 (0, 0))))
    case atStart => exact ⟨r.f2, s1, rfl, ⟨by omega⟩, H, HK, HF, B, M, R⟩
    case round =>
     clear b0 b1 b2 b3 b4 bf0 bf1 bf2 bf3 bf4 m0 m1 m2 m3 m4 mf0 mf1 mf2 mf3 mf4 r_0 r_1 r_2 r_3 r_4 r_5 r_f0 r_f1 r_f2 r_f3 r_f4 r_f5 HK HF B M R H s1
     obtain ⟨j, s1, rfl, HI, H, HK, HF, B, M, R⟩ := hrel
     (obtain ⟨b0, b1, b2, b3, b4, bf0, bf1, bf2, bf3, bf4⟩ := cN5 B.out); (obtain ⟨m0, m1, m2, m3, m4, mf0, mf1, mf2, mf3, mf4⟩ := cN5 M.out); (obtain ⟨r_0, r_1, r_2, r_3, r_4, r_5, r_f0, r_f1, r_f2, r_f3, r_f4, r_f5⟩ := cN6 R.out)
     by_cases hj : j < r.f3
     ·have hjd := decide_eq_true hj
      obtain ⟨n1, hn1⟩ : ∃ n1, (r.f3 - j).toNat = n1 + 1 := ⟨(r.f3 - j).toNat - 1, by omega⟩
      have hn2 : (r.f3 - (j + 1)).toNat = n1 := by omega
      have H' := H.out
      rw [hn1] at H'
      simp only [Qdc] at H'
      by_cases hb : 0 ≤ j ∧ j < (mc.length : Int)
      ·rw [if_pos hb] at H'
       obtain ⟨hb0, hb1⟩ := hb
       obtain ⟨ad, e, hx0, hx1, hx2, hx3, hx4, hx5, hx6⟩ := at_T59 H1.out j hb0 hb1
       cases e
       have HBw := HF.out.base HB0.out HG0.out HB0.out.size
       replace hx5 := (HBw.cell (wblt w0 hx5)).trans hx5
       replace hx6 := (HBw.cell (wblt w0 hx6)).trans hx6
       have HX := As0 (And.intro (wblt w0 ((HBw.cell (wblt w0 hx0)).symm.trans ((HBw.cell (wblt w0 hx0)).trans hx0))) HBw.size)
       clear hx0 hx1 hx2 hx3 hx4
       have hw : wrap64 (j + 1) = j + 1 := by have := HM1.out; unfold wrap64; omega
       have hb0d := decide_eq_true hb0
       have hb1d := decide_eq_true hb1
       generalize Qag mc j = p at hx5 hx6 H'
       clear HBw
       obtain ⟨s2, pn, hu, hp⟩ := OBs.then_inv (show OBs.then (moveF k s1 p.f5 p.f6 j) (fun s1 => Qdc k mc n1 (j + 1) s1 fun s2 => srcF k bc mc r.f4 r.f5 s2) = some x from H')
       obtain ⟨l, hl, hx⟩ := Option.bind_eq_some_iff.mp hu
       replace hx := Option.some.inj hx
       have HL := As0 hl
       clear hl hu
       go_wp2_with (first
           | (go_at_call 155; refine (Qd0 g s1 _ HK.out).mono ?_; rintro e w8 ⟨rfl, hk, hf⟩; replace HK := As0 hk; clear b0 b1 b2 b3 b4 bf0 bf1 bf2 bf3 bf4 m0 m1 m2 m3 m4 mf0 mf1 mf2 mf3 mf4 r_0 r_1 r_2 r_3 r_4 r_5 r_f0 r_f1 r_f2 r_f3 r_f4 r_f5; replace hx5 := (hf.cell_ (wblt _ hx5) (Nat.ne_of_lt (Nat.lt_of_lt_of_le HX.out.1 HG0.out))).trans hx5; replace hx6 := (hf.cell_ (wblt _ hx6) (Nat.ne_of_lt (Nat.lt_of_lt_of_le HX.out.1 HG0.out))).trans hx6; replace B := As0 (hf.blk B.out NB.out); replace M := As0 (hf.blk M.out NM.out); replace R := As0 (hf.blk R.out NR.out); replace HF := As0 (HF.out.trans hf); (obtain ⟨b0, b1, b2, b3, b4, bf0, bf1, bf2, bf3, bf4⟩ := cN5 B.out); (obtain ⟨m0, m1, m2, m3, m4, mf0, mf1, mf2, mf3, mf4⟩ := cN5 M.out); (obtain ⟨r_0, r_1, r_2, r_3, r_4, r_5, r_f0, r_f1, r_f2, r_f3, r_f4, r_f5⟩ := cN6 R.out); clear hf hk))
       (obtain ⟨A, c, hg, hc, hC, hne⟩ := HK.out); (obtain ⟨q0, q1, q2, q3, f0, f1, f2, f3⟩ := cN4 hg); replace q0 : w8.cell? ⟨g, 0, none⟩ = some (.slice A s1.set.length c) := q0; have HC := As0 (show Kd.C k47 w8 A s1.set.length s1.set from hC); have hc1 : s1.set.length ≤ c := hc; clear hg hC hc q1 q2 q3
       rcases hp with ⟨rfl, hp⟩ | ⟨q, rfl, rfl⟩
       ·have hbe : Qcg s1.cost l j = (s2, none) := hx
        refine Qcb (n := 20) (S := fun w' => w'.cell? ⟨g, 0, none⟩ = some (.slice A s1.set.length c) ∧ w'.cell? ⟨gM, 0, none⟩ = some (.slice (some ad) mc.length c1) ∧ w'.cell? ⟨(ad.add (j.toNat * 7)).block, (ad.add (j.toNat * 7)).off + 5, none⟩ = some (.int .i64 p.f5) ∧ w'.cell? ⟨(ad.add (j.toNat * 7)).block, (ad.add (j.toNat * 7)).off + 6, none⟩ = some (.int .i64 p.f6)) (ds := [17, 19]) (bb 20 0) (by kernel_rfl) rfl rfl ⟨q0, m0, hx5, hx6⟩ (fun hHeld => ?_)
        refine pu 0 49 (bb 20 1) ?_
        refine pu 1 50 (bb 20 3) ?_
        refine pu 2 51 (bb 20 7) ?_
        refine pu 3 52 (bb 20 15) ?_
        refine pu 5 54 (bb 20 47) ?_
        refine pu 7 56 (bb 20 175) ?_
        refine pu 11 60 (bb 20 2223) ?_
        refine pu 13 62 (bb 20 10415) ?_
        refine pu 18 67 (bb 20 272559) ?_
        refine tu hHeld 4 53 (bb 20 272575) ?_
        refine tu hHeld 6 55 (bb 20 272639) ?_
        refine pu 8 57 (bb 20 272895) ?_
        refine pu 9 58 (bb 20 273407) ?_
        refine tu hHeld 10 59 (bb 20 274431) ?_
        refine tu hHeld 12 61 (bb 20 278527) ?_
        refine pu 14 63 (bb 20 294911) ?_
        refine pu 15 64 (bb 20 327679) ?_
        refine tu hHeld 16 65 (bb 20 393215) ?_
        refine Qdu (i := 17) (N := some 66) (bb 20 524287) rfl rfl (by kernel_rfl) (by decide) (fun K hK => ?_)
        refine gG Tryz.func158 #[.slice A s1.set.length c, .int .i64 p.f5, .int .i64 p.f6] ?_
        with_reducible refine (moveS_calls k A c s1.set l p.f5 p.f6 _ (by repeat (first | exact HC.out | refine Kd.C_drewN ?_ _ | refine Kd.C_drew ?_)) hc1 HL.out).mono ?_
        rintro e w9 ⟨u, rfl, ho9, hb9⟩
        refine ⟨_, rfl, ?_⟩
        refine hK.out _ _ ?_
        clear hK K
        refine Qb1 (a' := ?_) ?_ ?_
        rotate_left
        ·show Act.put _ (some 66) _ = _
         simp only [Act.put, List.setIfInBounds_toArray, List.set_cons_zero, List.set_cons_succ, Qbu, Qbv]
         rfl
        refine Qdu (i := 19) (N := some 68) (bb 20 1048575) rfl rfl (by kernel_rfl) (by decide) (fun K hK => ?_)
        refine gG Tryz.func156 #[.pointer (some ⟨g, 0, none⟩), u, .int .i64 j] ?_
        with_reducible refine (Qc8 g s1.cost l j u _ _ _ (HK.out.below (Qb5 (BU (Below.refl _ w8)) hb9)) (Kd.R_bound ho9) (fun k hk => Nat.ne_of_gt (Nat.lt_of_lt_of_le HK.out.lt (Nat.le_trans (Qbm (BU (Below.refl _ w8))) hk.2.1)))).mono ?_
        rintro e w10 ⟨he, hk, hf⟩
        rw [hbe] at he hk
        have hff := (Fr.of (g := g) (Qb5 (BU (Below.refl _ w8)) hb9)).trans hf
        replace B := As0 (hff.blk B.out NB.out)
        replace M := As0 (hff.blk M.out NM.out)
        replace R := As0 (hff.blk R.out NR.out)
        replace HF := As0 (HF.out.trans hff)
        replace HK := As0 hk
        subst he
        clear hff hf hk
        refine ⟨_, rfl, ?_⟩
        refine hK.out _ _ ?_
        clear hK K
        refine Qb1 (a' := ?_) ?_ ?_
        rotate_left
        ·show Act.put _ (some 68) _ = _
         simp only [Act.put, List.setIfInBounds_toArray, List.set_cons_zero, List.set_cons_succ, Qbu, Qbv]
         rfl
        refine Qcy (by kernel_rfl) ?_
        go_wp2
        go_roundg ((r.f3 - j).toNat)
        case measure => have := HI.out; omega
        case rel => exact ⟨j + 1, s2, by first | rw [hw] | rfl, ⟨by omega⟩, ⟨by rw [hn2]; exact hp⟩, HK, HF, B, M, R⟩
       ·have hbe : Qcg s1.cost l j = (s2, some q) := hx
        refine Qcb (n := 20) (S := fun w' => w'.cell? ⟨g, 0, none⟩ = some (.slice A s1.set.length c) ∧ w'.cell? ⟨gM, 0, none⟩ = some (.slice (some ad) mc.length c1) ∧ w'.cell? ⟨(ad.add (j.toNat * 7)).block, (ad.add (j.toNat * 7)).off + 5, none⟩ = some (.int .i64 p.f5) ∧ w'.cell? ⟨(ad.add (j.toNat * 7)).block, (ad.add (j.toNat * 7)).off + 6, none⟩ = some (.int .i64 p.f6)) (ds := [17, 19]) (bb 20 0) (by kernel_rfl) rfl rfl ⟨q0, m0, hx5, hx6⟩ (fun hHeld => ?_)
        refine pu 0 49 (bb 20 1) ?_
        refine pu 1 50 (bb 20 3) ?_
        refine pu 2 51 (bb 20 7) ?_
        refine pu 3 52 (bb 20 15) ?_
        refine pu 5 54 (bb 20 47) ?_
        refine pu 7 56 (bb 20 175) ?_
        refine pu 11 60 (bb 20 2223) ?_
        refine pu 13 62 (bb 20 10415) ?_
        refine pu 18 67 (bb 20 272559) ?_
        refine tu hHeld 4 53 (bb 20 272575) ?_
        refine tu hHeld 6 55 (bb 20 272639) ?_
        refine pu 8 57 (bb 20 272895) ?_
        refine pu 9 58 (bb 20 273407) ?_
        refine tu hHeld 10 59 (bb 20 274431) ?_
        refine tu hHeld 12 61 (bb 20 278527) ?_
        refine pu 14 63 (bb 20 294911) ?_
        refine pu 15 64 (bb 20 327679) ?_
        refine tu hHeld 16 65 (bb 20 393215) ?_
        refine Qdu (i := 17) (N := some 66) (bb 20 524287) rfl rfl (by kernel_rfl) (by decide) (fun K hK => ?_)
        refine gG Tryz.func158 #[.slice A s1.set.length c, .int .i64 p.f5, .int .i64 p.f6] ?_
        with_reducible refine (moveS_calls k A c s1.set l p.f5 p.f6 _ (by repeat (first | exact HC.out | refine Kd.C_drewN ?_ _ | refine Kd.C_drew ?_)) hc1 HL.out).mono ?_
        rintro e w9 ⟨u, rfl, ho9, hb9⟩
        refine ⟨_, rfl, ?_⟩
        refine hK.out _ _ ?_
        clear hK K
        refine Qb1 (a' := ?_) ?_ ?_
        rotate_left
        ·show Act.put _ (some 66) _ = _
         simp only [Act.put, List.setIfInBounds_toArray, List.set_cons_zero, List.set_cons_succ, Qbu, Qbv]
         rfl
        refine Qdu (i := 19) (N := some 68) (bb 20 1048575) rfl rfl (by kernel_rfl) (by decide) (fun K hK => ?_)
        refine goesP_ Tryz.func156 (by kernel_rfl) rfl #[.pointer (some ⟨g, 0, none⟩), u, .int .i64 j] (by rfl) rfl rfl (by simp only [List.map_toArray, List.map_cons, List.map_nil]; rfl) ?_
        with_reducible refine (Qc8 g s1.cost l j u _ _ _ (HK.out.below (Qb5 (BU (Below.refl _ w8)) hb9)) (Kd.R_bound ho9) (fun k hk => Nat.ne_of_gt (Nat.lt_of_lt_of_le HK.out.lt (Nat.le_trans (Qbm (BU (Below.refl _ w8))) hk.2.1)))).mono ?_
        rintro e w10 ⟨he, hk, hf⟩
        rw [hbe] at he hk
        have hff := (Fr.of (g := g) (Qb5 (BU (Below.refl _ w8)) hb9)).trans hf
        replace B := As0 (hff.blk B.out NB.out)
        replace M := As0 (hff.blk M.out NM.out)
        replace R := As0 (hff.blk R.out NR.out)
        replace HF := As0 (HF.out.trans hff)
        replace HK := As0 hk
        subst he
        clear hff hf hk
        exact ⟨_, rfl, rfl, rfl, HK.out, HF.out⟩
      ·rw [if_neg hb] at H'; cases H'
     ·have hjd := decide_eq_false hj
      have hn : (r.f3 - j).toNat = 0 := by omega
      have H2 := H.out
      rw [hn] at H2
      replace H := As0 (show srcF k bc mc r.f4 r.f5 s1 = some x from H2)
      clear H2 HI
      unfold srcF at H
      by_cases hr4 : r.f4 ≥ 0
      ·have hr4d := decide_eq_true hr4
       replace H := H.out
       rw [if_pos hr4] at H
       by_cases hbb : r.f4 < (bc.length : Int) ∧ 0 ≤ r.f5 ∧ r.f5 < (mc.length : Int)
       ·rw [if_pos hbb] at H
        have HI := As0 H
        obtain ⟨y1, y2, y3⟩ := hbb
        have y0 : 0 ≤ r.f4 := hr4
        obtain ⟨ad0, e, hx0, hx1, hx2, hx3, hx4⟩ := at_T41 H0.out r.f4 y0 y1
        cases e
        obtain ⟨ad, e, hz0, hz1, hz2, hz3, hz4, hz5, hz6⟩ := at_T59 H1.out r.f5 y2 y3
        cases e
        have HBw := HF.out.base HB0.out HG0.out HB0.out.size
        replace hx0 := (HBw.cell (wblt w0 hx0)).trans hx0
        replace hx1 := (HBw.cell (wblt w0 hx1)).trans hx1
        replace hx2 := (HBw.cell (wblt w0 hx2)).trans hx2
        replace hx3 := (HBw.cell (wblt w0 hx3)).trans hx3
        replace hx4 := (HBw.cell (wblt w0 hx4)).trans hx4
        replace hz0 := (HBw.cell (wblt w0 hz0)).trans hz0
        replace hz1 := (HBw.cell (wblt w0 hz1)).trans hz1
        replace hz2 := (HBw.cell (wblt w0 hz2)).trans hz2
        replace hz3 := (HBw.cell (wblt w0 hz3)).trans hz3
        replace hz4 := (HBw.cell (wblt w0 hz4)).trans hz4
        replace hz5 := (HBw.cell (wblt w0 hz5)).trans hz5
        replace hz6 := (HBw.cell (wblt w0 hz6)).trans hz6
        have y0d := decide_eq_true y0
        have y1d := decide_eq_true y1
        have y2d := decide_eq_true y2
        have y3d := decide_eq_true y3
        generalize Qav bc r.f4 = pi at hx0 hx1 hx2 hx3 hx4 HI
        generalize Qag mc r.f5 = pm at hz0 hz1 hz2 hz3 hz4 hz5 hz6 HI
        clear HBw H
        obtain ⟨s9, px⟩ := x
        go_wp2
        cases px with
        | none =>
         refine Qcb (n := 16) (S := fun w' => w'.cell? ⟨gB, 0, none⟩ = some (.slice (some ad0) bc.length c0) ∧ w'.cell? ⟨gR, 4, none⟩ = some (.int .i64 r.f4) ∧ w'.cell? ⟨gM, 0, none⟩ = some (.slice (some ad) mc.length c1) ∧ w'.cell? ⟨gR, 5, none⟩ = some (.int .i64 r.f5) ∧ w'.cell? (ad0.add (r.f4.toNat * 5)) = some (.int .i64 pi.f0) ∧ w'.cell? ⟨(ad0.add (r.f4.toNat * 5)).block, (ad0.add (r.f4.toNat * 5)).off + 1, none⟩ = some (.int .i64 pi.f1) ∧ w'.cell? ⟨(ad0.add (r.f4.toNat * 5)).block, (ad0.add (r.f4.toNat * 5)).off + 2, none⟩ = some (.int .i64 pi.f2) ∧ w'.cell? ⟨(ad0.add (r.f4.toNat * 5)).block, (ad0.add (r.f4.toNat * 5)).off + 3, none⟩ = some (.int .i64 pi.f3) ∧ w'.cell? ⟨(ad0.add (r.f4.toNat * 5)).block, (ad0.add (r.f4.toNat * 5)).off + 4, none⟩ = some (.int .i64 pi.f4) ∧ w'.cell? (ad.add (r.f5.toNat * 7)) = some (.int .i64 pm.f0) ∧ w'.cell? ⟨(ad.add (r.f5.toNat * 7)).block, (ad.add (r.f5.toNat * 7)).off + 1, none⟩ = some (.int .i64 pm.f1) ∧ w'.cell? ⟨(ad.add (r.f5.toNat * 7)).block, (ad.add (r.f5.toNat * 7)).off + 2, none⟩ = some (.int .i64 pm.f2) ∧ w'.cell? ⟨(ad.add (r.f5.toNat * 7)).block, (ad.add (r.f5.toNat * 7)).off + 3, none⟩ = some (.int .i64 pm.f3) ∧ w'.cell? ⟨(ad.add (r.f5.toNat * 7)).block, (ad.add (r.f5.toNat * 7)).off + 4, none⟩ = some (.int .i64 pm.f4) ∧ w'.cell? ⟨(ad.add (r.f5.toNat * 7)).block, (ad.add (r.f5.toNat * 7)).off + 5, none⟩ = some (.int .i64 pm.f5) ∧ w'.cell? ⟨(ad.add (r.f5.toNat * 7)).block, (ad.add (r.f5.toNat * 7)).off + 6, none⟩ = some (.int .i64 pm.f6)) (ds := [15]) (bb 16 0) (by kernel_rfl) rfl rfl ⟨b0, r_4, m0, r_5, hx0, hx1, hx2, hx3, hx4, hz0, hz1, hz2, hz3, hz4, hz5, hz6⟩ (fun hHeld => ?_)
         refine pu 0 72 (bb 16 1) ?_
         refine pu 1 73 (bb 16 3) ?_
         refine pu 3 75 (bb 16 11) ?_
         refine pu 7 79 (bb 16 139) ?_
         refine pu 9 81 (bb 16 651) ?_
         refine pu 13 85 (bb 16 8843) ?_
         refine tu hHeld 2 74 (bb 16 8847) ?_
         refine tu hHeld 4 76 (bb 16 8863) ?_
         refine pu 5 77 (bb 16 8895) ?_
         refine tu hHeld 6 78 (bb 16 8959) ?_
         refine tu hHeld 8 80 (bb 16 9215) ?_
         refine tu hHeld 10 82 (bb 16 10239) ?_
         refine pu 11 83 (bb 16 12287) ?_
         refine tu hHeld 12 84 (bb 16 16383) ?_
         refine tu hHeld 14 86 (bb 16 32767) ?_
         refine Qdu (i := 15) (N := some 87) (bb 16 65535) rfl rfl (by kernel_rfl) (by decide) (fun K hK => ?_)
         refine gG Tryz.func159 #[.pointer (some ⟨g, 0, none⟩), .agg #[.int .i64 pi.f0, .int .i64 pi.f1, .int .i64 pi.f2, .int .i64 pi.f3, .int .i64 pi.f4], .agg #[.int .i64 pm.f0, .int .i64 pm.f1, .int .i64 pm.f2, .int .i64 pm.f3, .int .i64 pm.f4, .int .i64 pm.f5, .int .i64 pm.f6], .int .i64 r.f5] ?_
         with_reducible refine (instrF_calls k g s1 pi pm r.f5 _ _ (HK.out.below (BU (Below.refl _ _))) HI.out).mono ?_
         rintro e w10 ⟨he, hk, hf⟩
         have hff := (Fr.of (g := g) (BU (Below.refl _ wr))).trans hf
         replace HF := As0 (HF.out.trans hff)
         replace HK := As0 hk
         subst he
         clear hff hf hk
         refine ⟨_, rfl, ?_⟩
         refine hK.out _ _ ?_
         clear hK K
         refine Qb1 (a' := ?_) ?_ ?_
         rotate_left
         ·show Act.put _ (some 87) _ = _
          simp only [Act.put, List.setIfInBounds_toArray, List.set_cons_zero, List.set_cons_succ, Qbu, Qbv]
          rfl
         refine Qcy (by kernel_rfl) ?_
         go_wp2
         go_returns
         exact ⟨rfl, HK.out, HF.out⟩
        | some q =>
         refine Qcb (n := 16) (S := fun w' => w'.cell? ⟨gB, 0, none⟩ = some (.slice (some ad0) bc.length c0) ∧ w'.cell? ⟨gR, 4, none⟩ = some (.int .i64 r.f4) ∧ w'.cell? ⟨gM, 0, none⟩ = some (.slice (some ad) mc.length c1) ∧ w'.cell? ⟨gR, 5, none⟩ = some (.int .i64 r.f5) ∧ w'.cell? (ad0.add (r.f4.toNat * 5)) = some (.int .i64 pi.f0) ∧ w'.cell? ⟨(ad0.add (r.f4.toNat * 5)).block, (ad0.add (r.f4.toNat * 5)).off + 1, none⟩ = some (.int .i64 pi.f1) ∧ w'.cell? ⟨(ad0.add (r.f4.toNat * 5)).block, (ad0.add (r.f4.toNat * 5)).off + 2, none⟩ = some (.int .i64 pi.f2) ∧ w'.cell? ⟨(ad0.add (r.f4.toNat * 5)).block, (ad0.add (r.f4.toNat * 5)).off + 3, none⟩ = some (.int .i64 pi.f3) ∧ w'.cell? ⟨(ad0.add (r.f4.toNat * 5)).block, (ad0.add (r.f4.toNat * 5)).off + 4, none⟩ = some (.int .i64 pi.f4) ∧ w'.cell? (ad.add (r.f5.toNat * 7)) = some (.int .i64 pm.f0) ∧ w'.cell? ⟨(ad.add (r.f5.toNat * 7)).block, (ad.add (r.f5.toNat * 7)).off + 1, none⟩ = some (.int .i64 pm.f1) ∧ w'.cell? ⟨(ad.add (r.f5.toNat * 7)).block, (ad.add (r.f5.toNat * 7)).off + 2, none⟩ = some (.int .i64 pm.f2) ∧ w'.cell? ⟨(ad.add (r.f5.toNat * 7)).block, (ad.add (r.f5.toNat * 7)).off + 3, none⟩ = some (.int .i64 pm.f3) ∧ w'.cell? ⟨(ad.add (r.f5.toNat * 7)).block, (ad.add (r.f5.toNat * 7)).off + 4, none⟩ = some (.int .i64 pm.f4) ∧ w'.cell? ⟨(ad.add (r.f5.toNat * 7)).block, (ad.add (r.f5.toNat * 7)).off + 5, none⟩ = some (.int .i64 pm.f5) ∧ w'.cell? ⟨(ad.add (r.f5.toNat * 7)).block, (ad.add (r.f5.toNat * 7)).off + 6, none⟩ = some (.int .i64 pm.f6)) (ds := [15]) (bb 16 0) (by kernel_rfl) rfl rfl ⟨b0, r_4, m0, r_5, hx0, hx1, hx2, hx3, hx4, hz0, hz1, hz2, hz3, hz4, hz5, hz6⟩ (fun hHeld => ?_)
         refine pu 0 72 (bb 16 1) ?_
         refine pu 1 73 (bb 16 3) ?_
         refine pu 3 75 (bb 16 11) ?_
         refine pu 7 79 (bb 16 139) ?_
         refine pu 9 81 (bb 16 651) ?_
         refine pu 13 85 (bb 16 8843) ?_
         refine tu hHeld 2 74 (bb 16 8847) ?_
         refine tu hHeld 4 76 (bb 16 8863) ?_
         refine pu 5 77 (bb 16 8895) ?_
         refine tu hHeld 6 78 (bb 16 8959) ?_
         refine tu hHeld 8 80 (bb 16 9215) ?_
         refine tu hHeld 10 82 (bb 16 10239) ?_
         refine pu 11 83 (bb 16 12287) ?_
         refine tu hHeld 12 84 (bb 16 16383) ?_
         refine tu hHeld 14 86 (bb 16 32767) ?_
         refine Qdu (i := 15) (N := some 87) (bb 16 65535) rfl rfl (by kernel_rfl) (by decide) (fun K hK => ?_)
         refine goesP_ Tryz.func159 (by kernel_rfl) rfl #[.pointer (some ⟨g, 0, none⟩), .agg #[.int .i64 pi.f0, .int .i64 pi.f1, .int .i64 pi.f2, .int .i64 pi.f3, .int .i64 pi.f4], .agg #[.int .i64 pm.f0, .int .i64 pm.f1, .int .i64 pm.f2, .int .i64 pm.f3, .int .i64 pm.f4, .int .i64 pm.f5, .int .i64 pm.f6], .int .i64 r.f5] (by rfl) rfl rfl (by simp only [List.map_toArray, List.map_cons, List.map_nil]; rfl) ?_
         with_reducible refine (instrF_calls k g s1 pi pm r.f5 _ _ (HK.out.below (BU (Below.refl _ _))) HI.out).mono ?_
         rintro e w10 ⟨he, hk, hf⟩
         have hff := (Fr.of (g := g) (BU (Below.refl _ wr))).trans hf
         replace HF := As0 (HF.out.trans hff)
         replace HK := As0 hk
         subst he
         clear hff hf hk
         exact ⟨_, rfl, rfl, rfl, HK.out, HF.out⟩
       ·rw [if_neg hbb] at H; cases H
      ·have hr4d := decide_eq_false hr4
       replace H := H.out
       rw [if_neg hr4] at H
       obtain rfl := Option.some.inj H
       go_wp2
       go_returns
       exact ⟨rfl, HK.out, HF.out⟩
 ·rw [if_neg hcut] at hf; cases hf
structure Fr2 (a b : Nat) (w w' : World) : Prop where
 os : w'.os = w.os
 tape : w'.tape = w.tape
 output : w'.output = w.output
 size : w.heap.size ≤ w'.heap.size
 block : ∀ k, k < w.heap.size → k ≠ a → k ≠ b → w'.heap[k]? = w.heap[k]?
theorem Fr2.of {a b : Nat} {w w' : World} (h : Below w.heap.size w w') : Fr2 a b w w' := ⟨h.os, h.tape, h.output, h.size, fun k hk _ _ => h.block k hk⟩
theorem Fr2.trans {a b : Nat} {u v w : World} (h : Fr2 a b u v) (k : Fr2 a b v w) : Fr2 a b u w :=
 ⟨k.os.trans h.os, k.tape.trans h.tape, k.output.trans h.output, Nat.le_trans h.size k.size, fun i hi h1 h2 => (k.block i (Nat.lt_of_lt_of_le hi h.size) h1 h2).trans (h.block i hi h1 h2)⟩
theorem Fr2.setA {a b : Nat} {w w' : World} (h : Fr2 a b w w') (j : Nat) (u : Value) : Fr2 a b w (w'.setCell ⟨a, j, none⟩ u) :=
 h.trans ⟨rfl, rfl, rfl, by simp, fun k hk h1 _ => Below.heap_setCell w' _ u k h1⟩
theorem Fr2.setB {a b : Nat} {w w' : World} (h : Fr2 a b w w') (j : Nat) (u : Value) : Fr2 a b w (w'.setCell ⟨b, j, none⟩ u) :=
 h.trans ⟨rfl, rfl, rfl, by simp, fun k hk _ h2 => Below.heap_setCell w' _ u k h2⟩
theorem Fr2.drew {a b : Nat} {w w' : World} (h : Fr2 a b w w') : Fr2 a b w w'.drew := h.trans (Fr2.of (Qc7 (Below.refl _ _)))
theorem C47_fr2 {a b ta tb : Nat} {w w' : World} {A : Option Addr} {l : List S47} {va vb : Value} (h : Fr2 a b w w') (ha : w.heap[a]? = some (.cells #[va] ta (0, 0))) (hb : w.heap[b]? = some (.cells #[vb] tb (0, 0))) (hC : Kd.C k47 w A l.length l) : Kd.C k47 w' A l.length l := by
 obtain ⟨h1, h2, h3⟩ := hC
 refine ⟨h1, h2, fun hn => ?_⟩
 obtain ⟨ad, rfl, hc⟩ := h3 hn
 have hbl : ∀ n, (ad.add n).block = ad.block := fun n => by unfold Addr.add; split <;> rfl
 have hoff : ∀ n, n ≠ 0 → (ad.add n).off = ad.off + n := fun n hn => by unfold Addr.add; rw [if_neg hn]
 have h2c : ∃ u, w.cell? (ad.add 1) = some u := by
  obtain ⟨c, hs, hK, hcell⟩ := hc 0 _ (List.getElem?_eq_getElem hn)
  obtain rfl := k47_open hK
  exact ⟨_, hcell 1 _ rfl⟩
 obtain ⟨u1, hu1⟩ := h2c
 have hno : ∀ (k t : Nat) (v : Value), w.heap[k]? = some (.cells #[v] t (0, 0)) → ad.block ≠ k := by
  intro k t v hk e
  simp only [World.cell?] at hu1
  rw [hbl, e, hk] at hu1
  have := hoff 1 (by omega)
  simp only at hu1
  split at hu1
  ·cases hu1
  ·rw [this] at hu1
   simp at hu1
 refine ⟨ad, rfl, fun j p hj => ?_⟩
 obtain ⟨c, hs, hK, hcell⟩ := hc j p hj
 obtain rfl := k47_open hK
 refine ⟨_, hs, k47_mk w' p, fun i u hu => ?_⟩
 have hq := hcell i u hu
 exact (World.cell?_of_block (h.block _ (wblt w hq) (by rw [hbl]; exact hno a ta va ha) (by rw [hbl]; exact hno b tb vb hb))).trans hq
theorem Ck.fr2 {a b ta tb g : Nat} {w w' : World} {s : Bs} {va vb : Value} (h : Ck w g s) (hf : Fr2 a b w w') (ha : w.heap[a]? = some (.cells #[va] ta (0, 0))) (hb : w.heap[b]? = some (.cells #[vb] tb (0, 0))) (h1 : g ≠ a) (h2 : g ≠ b) (hta : ta ≠ 47) (htb : tb ≠ 47) : Ck w' g s := by
 obtain ⟨A, c, hg, hc, hC, hne⟩ := h
 exact ⟨A, c, (hf.block g (Qby hg) h1 h2).trans hg, hc, C47_fr2 hf ha hb hC, hne.1, fun ad e => by
  obtain ⟨cs, hcs⟩ := hne.2 ad e
  refine ⟨cs, (hf.block _ (Qby hcs) ?_ ?_).trans hcs⟩
  ·rintro rfl; rw [ha] at hcs; injection hcs with hcs; injection hcs with h3 h4; exact hta h4
  ·rintro rfl; rw [hb] at hcs; injection hcs with hcs; injection hcs with h3 h4; exact htb h4⟩
theorem Fr2.fr {a b g : Nat} {w w1 w' : World} (h : Fr2 a b w1 w') (hf : Fr g w w1) (ha : w.heap.size ≤ a) (hb : w.heap.size ≤ b) : Fr g w w' :=
 ⟨h.os.trans hf.os, h.tape.trans hf.tape, h.output.trans hf.output, Nat.le_trans hf.size h.size, fun k hk hg => (h.block k (Nat.lt_of_lt_of_le hk hf.size) (by omega) (by omega)).trans (hf.block k hk hg)⟩
theorem catch_pan (a b : Nat) (o1 o2 y i : Int) (older : List PanicEntry) (w : World) (ha : w.heap[a]? = some (.cells #[.int .i64 o1] 49 (0, 0))) (hb : w.heap[b]? = some (.cells #[.int .i64 o2] 3 (0, 0))) (hne : a ≠ b) :
    CallsD Tryz.prog 119 #[.pointer (some ⟨a, 0, none⟩), .pointer (some ⟨b, 0, none⟩)] (.panicking ({ v := .iface 185 (.agg #[.int .i64 y, .int .i64 i]), recovered := false } :: older)) w fun e u' w' =>
     e = .returned (.tuple #[]) ∧ u' = .panicking ({ v := .iface 185 (.agg #[.int .i64 y, .int .i64 i]), recovered := true } :: older) ∧ w'.heap[a]? = some (.cells #[.int .i64 y] 49 (0, 0)) ∧ w'.heap[b]? = some (.cells #[.int .i64 i] 3 (0, 0)) ∧ Fr2 a b w w' := by
 have hu20 := Tryz.underlying20
 have hu49 := Tryz.underlying49
 have hu185 := Tryz.underlying185
 have hu186 := Tryz.underlying186
 have hta : ∀ w : World, (Instr.typeAssert (.iface 185 (.agg #[.int .i64 y, .int .i64 i])) 20 185 true).run Tryz.prog w = .ok (.tuple #[.agg #[.int .i64 y, .int .i64 i], .bool true]) w := fun w => by kernel_rfl
 have HA := As0 ha
 have HBb := As0 hb
 have HF := As0 (Fr2.of (a := a) (b := b) (Below.refl w.heap.size w))
 clear ha hb
 refine callsD_of_wpS Tryz.func119 rfl fun c₀ cs hu => ?_
 apply wpS_seq
 apply wpS_region
 simp [wpOpsS, go_sem, recoverD, hu, Tryz.ntmps119, Exit.thenS]
 have ht : (#[.pointer (some { block := a, off := 0 }), .pointer (some { block := b, off := 0 })] ++ ((Array.replicate 18 undef).setIfInBounds 3 (.iface 185 (.agg #[.int .i64 y, .int .i64 i]))).setIfInBounds 0 (.iface 185 (.agg #[.int .i64 y, .int .i64 i])) : Array Value) = #[.pointer (some { block := a, off := 0 }), .pointer (some { block := b, off := 0 }), .iface 185 (.agg #[.int .i64 y, .int .i64 i]), undef, undef, .iface 185 (.agg #[.int .i64 y, .int .i64 i]), undef, undef, undef, undef, undef, undef, undef, undef, undef, undef, undef, undef, undef, undef] := by kernel_rfl
 rw [ht]
 refine wpS_of_wp ?_
 go_wp2_with (first
  | ((with_reducible refine gD 3 ?_); refine bX ?_; intro gx hg w1 hbox hb; have X := As0 hbox; have GX := As0 (Nat.le_of_eq hg.symm); have HBX := As0 hb; clear hb hbox hg)
  | ((with_reducible refine Qdb (.store 185 (.tmp 3) (.tmp 11)) rfl ?_); go_loud (refine Qau rfl rfl 185 _ _ rfl gx #[.int .i64 y, .int .i64 i] rfl rfl 185 #[.int .i64 0, .int .i64 0] X.out (by kernel_rfl) rfl (by kernel_rfl) ?_); intro w5 hg ho hB; have hb := hB _ _ GX.out HBX.out; replace X := As0 hg; have N1 := Qby HA.out; have N2 := Qby HBb.out; have G1 := GX.out; replace HA := As0 (Qbl HA.out hb); replace HBb := As0 (Qbl HBb.out hb); replace HF := As0 (HF.out.trans (Fr2.of hb)); (obtain ⟨z0, z1, y0, y1⟩ := cN2 X.out); have c0 := (Qbn HA.out 0).trans rfl; have c1 := (Qbn HBb.out 0).trans rfl; have d0 := Qbp HA.out 0; have d1 := Qbp HBb.out 0; have na : gx ≠ a := (by omega); have nb : gx ≠ b := (by omega); clear hg ho hB hb HBX GX N1 N2 G1))
 have na' := na.symm
 have nb' := nb.symm
 have hne' := hne.symm
 go_region
 go_wp2
 exact ⟨rfl, _, rfl, _, results_none rfl _ _ _, rfl, rfl, Qbr (Qd5 (Qbt (cs := #[.int .i64 o1]) HA.out 0 _ rfl) hne _), Qbr (Qbt (cs := #[.int .i64 o2]) (Qd5 HBb.out hne' _) 0 _ rfl), ((HF.out.setA 0 _).setB 0 _).drew⟩
theorem catch_idle (p q : Addr) (w : World) :
    CallsD Tryz.prog 119 #[.pointer (some p), .pointer (some q)] .returning w fun e u' w' => e = .returned (.tuple #[]) ∧ u' = .returning ∧ w' = w := by
 have hu20 := Tryz.underlying20
 refine callsD_of_wpS Tryz.func119 rfl fun c₀ cs hu => ?_
 apply wpS_seq
 apply wpS_region
 simp [wpOpsS, go_sem, recoverD, hu, Tryz.ntmps119, Exit.thenS]
 apply wpS_seq
 apply wpS_region
 simp [wpOpsS, go_sem, Exit.thenS]
 refine wpS_cond (t := false) (by simp [Act.eval, Array.replicate]) ?_
 simp only [Bool.false_eq_true, if_false]
 refine wpS_of_wp (wp_skip ?_)
 cases c₀
 simp_all [bodyPostS, results, Tryz.results119, Exit.thenS]
def rowsF (k : Nat) (bc : List S41) (mc : List S59) : List S180 → Bs → (Bs → OBs) → OBs
 | [], s, K => K s
 | r :: t, s, K => (rowF k bc mc r s).then fun s1 => rowsF k bc mc t s1 K
def endF (k : Nat) (bt mt : S37) (n : Int) (s : Bs) : OBs := if bt.f0 = 1 then some (s, none) else useF k s bt.f1 mt.f1 n
def runF (k : Nat) (bc : List S41) (mc : List S59) (bt mt : S37) (rows : List S180) (s : Bs) : OBs := rowsF k bc mc rows s fun s1 => endF k bt mt (mc.length : Int) s1
def whyOf (n : Int) : Pan → Int × Int
 | none => (0, n)
 | some q => q
theorem run_calls (k g : Nat) (s : Bs) (A0 : Option Addr) (c0 : Nat) (bc : List S41) (bt : S37) (A1 : Option Addr) (c1 : Nat) (mc : List S59) (mt : S37) (A2 : Option Addr) (c2 : Nat) (rows : List S180) (x : Bs × Pan) (w0 w : World) (h : Ck w g s) (hB : Below w0.heap.size w0 w) (hg0 : w0.heap.size ≤ g)
    (h0 : Kd.C k41 w0 A0 bc.length bc) (hc0 : bc.length ≤ c0) (h1 : Kd.C k59 w0 A1 mc.length mc) (hc1_ : mc.length ≤ c1) (h2 : Kd.C k180 w0 A2 rows.length rows) (hf : runF k bc mc bt mt rows s = some x) :
    Calls Tryz.prog 66 #[.pointer (some ⟨g, 0, none⟩), .agg #[.slice A0 bc.length c0, .int .i64 bt.f0, .int .i64 bt.f1, .int .i64 bt.f2, .int .i64 bt.f3], .agg #[.slice A1 mc.length c1, .int .i64 mt.f0, .int .i64 mt.f1, .int .i64 mt.f2, .int .i64 mt.f3], .slice A2 rows.length c2] w fun e w' => e = .returned (.tuple #[.int .i64 (whyOf mc.length x.2).1, .int .i64 (whyOf mc.length x.2).2]) ∧ Ck w' g x.1 ∧ Fr g w w' := by
 have hu20 := Tryz.underlying20
 have hu35 := Tryz.underlying35
 have hu37 := Tryz.underlying37
 have hu39 := Tryz.underlying39
 have hu41 := Tryz.underlying41
 have hu49 := Tryz.underlying49
 have hu54 := Tryz.underlying54
 have hu57 := Tryz.underlying57
 have hu59 := Tryz.underlying59
 have hu121 := Tryz.underlying121
 have hu128 := Tryz.underlying128
 have hu180 := Tryz.underlying180
 have HK := As0 h
 have HB0 := As0 hB
 have HG0 := As0 hg0
 have H0 := As0 h0
 have H1 := As0 h1
 have H2 := As0 h2
 have HM2 := As0 h2.2.1
 have H := As0 hf
 have HF := As0 (Fr.refl g w)
 clear h hB hg0 h0 h1 h2 hf
 have hmf : ∀ (fn : Fn) (first cap : Array Value) (w : World), (Instr.makeFunc fn first cap).run Tryz.prog w = .ok (.func fn first cap) w := fun _ _ _ _ => rfl
 go_enter_defers Tryz.func66, Tryz.ntmps66
 go_wp2_with (first
  | ((with_reducible refine gD 5 ?_); refine bX ?_; intro gB hg w1 hbox hb; have B := As0 hbox; have NB := As0 (by have := HK.out.lt; omega : gB ≠ g); have GB := As0 (by have := HF.out.size; omega : w.heap.size ≤ gB); skip; replace HK := As0 (HK.out.below hb); replace HF := As0 (HF.out.then hb); clear hb hbox hg)
  | ((with_reducible refine gD 6 ?_); refine bX ?_; intro gM hg w2 hbox hb; have M := As0 hbox; have NM := As0 (by have := HK.out.lt; omega : gM ≠ g); have GM := As0 (by have := HF.out.size; omega : w.heap.size ≤ gM); replace B := As0 (Qbl B.out hb); replace HK := As0 (HK.out.below hb); replace HF := As0 (HF.out.then hb); clear hb hbox hg)
  | ((with_reducible refine gD 8 ?_); refine bX ?_; intro gV hg w3 hbox hb; have V := As0 hbox; have NV := As0 (by have := HK.out.lt; omega : gV ≠ g); have GV := As0 (by have := HF.out.size; omega : w.heap.size ≤ gV); replace B := As0 (Qbl B.out hb); have NMV := As0 (by have := Qby M.out; omega : gM ≠ gV); replace M := As0 (Qbl M.out hb); replace HK := As0 (HK.out.below hb); replace HF := As0 (HF.out.then hb); clear hb hbox hg)
  | ((with_reducible refine gD 9 ?_); refine bX ?_; intro gW hg w4 hbox hb; have W := As0 hbox; have NW := As0 (by have := HK.out.lt; omega : gW ≠ g); have GW := As0 (by have := HF.out.size; omega : w.heap.size ≤ gW); replace B := As0 (Qbl B.out hb); replace M := As0 (Qbl M.out hb); have NVW := As0 (by have := Qby V.out; omega : gV ≠ gW); replace V := As0 (Qbl V.out hb); replace HK := As0 (HK.out.below hb); replace HF := As0 (HF.out.then hb); (obtain ⟨b0, b1, b2, b3, b4, bf0, bf1, bf2, bf3, bf4⟩ := cN5 B.out); (obtain ⟨m0, m1, m2, m3, m4, mf0, mf1, mf2, mf3, mf4⟩ := cN5 M.out); have v0 := (Qbn V.out 0).trans rfl; have vf := Qbp V.out 0; have a0 := (Qbn W.out 0).trans rfl; have af := Qbp W.out 0; clear hb hbox hg))
 go_loopg [15] (rows.length + 1) (fun n v15 w' => ∃ (i : Nat) (s1 : Bs), v15 = .int .i64 (i : Int) ∧ Qbk (i ≤ rows.length ∧ rows.length - i < n) ∧ Qbk (rowsF k bc mc (rows.drop i) s1 (fun s1 => endF k bt mt (mc.length : Int) s1) = some x) ∧ Qbk (Ck w' g s1) ∧ Qbk (Fr g w w') ∧ Qbk (w'.heap[gB]? = some (.cells #[.slice A0 bc.length c0, .int .i64 bt.f0, .int .i64 bt.f1, .int .i64 bt.f2, .int .i64 bt.f3] 39 (0, 0))) ∧ Qbk (w'.heap[gM]? = some (.cells #[.slice A1 mc.length c1, .int .i64 mt.f0, .int .i64 mt.f1, .int .i64 mt.f2, .int .i64 mt.f3] 57 (0, 0))) ∧ Qbk (w'.heap[gV]? = some (.cells #[.int .i64 0] 49 (0, 0))) ∧ Qbk (w'.heap[gW]? = some (.cells #[.int .i64 0] 3 (0, 0))))
 case atStart => exact ⟨0, s, rfl, ⟨by omega, by omega⟩, ⟨by rw [List.drop_zero]; exact H.out⟩, HK, HF, B, M, V, W⟩
 case round =>
  clear b0 b1 b2 b3 b4 bf0 bf1 bf2 bf3 bf4 m0 m1 m2 m3 m4 mf0 mf1 mf2 mf3 mf4 v0 vf a0 af HK HF B M V W H
  obtain ⟨i, s1, rfl, HI, H, HK, HF, B, M, V, W⟩ := hrel
  (obtain ⟨b0, b1, b2, b3, b4, bf0, bf1, bf2, bf3, bf4⟩ := cN5 B.out); (obtain ⟨m0, m1, m2, m3, m4, mf0, mf1, mf2, mf3, mf4⟩ := cN5 M.out); have v0 := (Qbn V.out 0).trans rfl; have vf := Qbp V.out 0; have a0 := (Qbn W.out 0).trans rfl; have af := Qbp W.out 0
  by_cases hi : i < rows.length
  ·have hlt : (i : Int) < (rows.length : Int) := by omega
   have h0' : (0 : Int) ≤ (i : Int) := by omega
   obtain ⟨ad, e, hx0, hx1, hx2, hx3, hx4, hx5⟩ := at_T180 H2.out i h0' hlt
   cases e
   have HBw := HF.out.base HB0.out HG0.out HB0.out.size
   replace hx0 := (HBw.cell (wblt w0 hx0)).trans hx0
   replace hx1 := (HBw.cell (wblt w0 hx1)).trans hx1
   replace hx2 := (HBw.cell (wblt w0 hx2)).trans hx2
   replace hx3 := (HBw.cell (wblt w0 hx3)).trans hx3
   replace hx4 := (HBw.cell (wblt w0 hx4)).trans hx4
   replace hx5 := (HBw.cell (wblt w0 hx5)).trans hx5
   have hw : wrap64 ((i : Int) + 1) = ((i + 1 : Nat) : Int) := by have := HM2.out; unfold wrap64; omega
   have hp : Qd9 rows (i : Int) = rows[i] := by simp [Qd9, List.getD_eq_getElem?_getD, hi]
   have hdr : rows.drop i = rows[i] :: rows.drop (i + 1) := by rw [List.drop_eq_getElem_cons hi]
   have H' := H.out
   rw [hdr] at H'
   rw [hp] at hx0 hx1 hx2 hx3 hx4 hx5
   simp only [Int.toNat_natCast] at hx0 hx1 hx2 hx3 hx4 hx5
   generalize rows[i] = p at hx0 hx1 hx2 hx3 hx4 hx5 H'
   clear hp hdr HBw
   obtain ⟨s2, pn, hu, hp⟩ := OBs.then_inv (show OBs.then (rowF k bc mc p s1) (fun s1 => rowsF k bc mc (rows.drop (i + 1)) s1 fun s1 => endF k bt mt (mc.length : Int) s1) = some x from H')
   rcases hp with ⟨rfl, hp⟩ | ⟨⟨qy, qi⟩, rfl, rfl⟩
   ·go_wp2_with (first
      | ((with_reducible refine gD 11 ?_); refine bX ?_; intro gi hg w5 hbox hb; have I := As0 hbox; have GI := As0 (Nat.le_of_eq hg.symm); have HBI := As0 hb; clear hb hbox hg)
      | ((with_reducible refine Qdb (.store 180 (.tmp 11) (.tmp 18)) rfl ?_); go_loud (refine Qau rfl rfl 180 _ _ rfl gi #[.int .i64 p.f0, .int .i64 p.f1, .int .i64 p.f2, .int .i64 p.f3, .int .i64 p.f4, .int .i64 p.f5] rfl rfl 180 #[.int .i64 0, .int .i64 0, .int .i64 0, .int .i64 0, .int .i64 0, .int .i64 0] I.out (by kernel_rfl) rfl (by kernel_rfl) ?_); intro w6 hg ho hB; have hb := hB _ _ GI.out HBI.out; replace I := As0 hg; replace B := As0 (Qbl B.out hb); replace M := As0 (Qbl M.out hb); replace V := As0 (Qbl V.out hb); replace W := As0 (Qbl W.out hb); replace HF := As0 (HF.out.then hb); replace HK := As0 (HK.out.below hb); clear b0 b1 b2 b3 b4 bf0 bf1 bf2 bf3 bf4 m0 m1 m2 m3 m4 mf0 mf1 mf2 mf3 mf4 v0 vf a0 af; (obtain ⟨b0, b1, b2, b3, b4, bf0, bf1, bf2, bf3, bf4⟩ := cN5 B.out); (obtain ⟨m0, m1, m2, m3, m4, mf0, mf1, mf2, mf3, mf4⟩ := cN5 M.out); have v0 := (Qbn V.out 0).trans rfl; have vf := Qbp V.out 0; have a0 := (Qbn W.out 0).trans rfl; have af := Qbp W.out 0; (obtain ⟨i_0, i_1, i_2, i_3, i_4, i_5, i_f0, i_f1, i_f2, i_f3, i_f4, i_f5⟩ := cN6 I.out); clear hg ho hB hb HBI GI)
      | (go_at_call 120; refine (row_calls k g s1 A0 c0 bc bt.f0 bt.f1 bt.f2 bt.f3 A1 c1 mc mt.f0 mt.f1 mt.f2 mt.f3 p _ w0 _ HK.out (HF.out.base HB0.out HG0.out HB0.out.size) HG0.out H0.out hc0 H1.out hc1_ hu).mono ?_; rintro e w7 ⟨he, hk, hf⟩; replace he : e = .returned (.tuple #[]) := he; subst he; replace HK := As0 hk; replace B := As0 (hf.blk B.out NB.out); replace M := As0 (hf.blk M.out NM.out); replace V := As0 (hf.blk V.out NV.out); replace W := As0 (hf.blk W.out NW.out); replace HF := As0 (HF.out.trans hf); clear hf hk))
    go_roundg (rows.length - i)
    case measure => have := HI.out; omega
    case rel => exact ⟨i + 1, s2, by first | rw [hw] | (push_cast; rfl), ⟨by omega, by omega⟩, ⟨hp⟩, HK, HF, B, M, V, W⟩
   ·go_wp2_with (first
      | ((with_reducible refine gD 11 ?_); refine bX ?_; intro gi hg w5 hbox hb; have I := As0 hbox; have GI := As0 (Nat.le_of_eq hg.symm); have HBI := As0 hb; clear hb hbox hg)
      | ((with_reducible refine Qdb (.store 180 (.tmp 11) (.tmp 18)) rfl ?_); go_loud (refine Qau rfl rfl 180 _ _ rfl gi #[.int .i64 p.f0, .int .i64 p.f1, .int .i64 p.f2, .int .i64 p.f3, .int .i64 p.f4, .int .i64 p.f5] rfl rfl 180 #[.int .i64 0, .int .i64 0, .int .i64 0, .int .i64 0, .int .i64 0, .int .i64 0] I.out (by kernel_rfl) rfl (by kernel_rfl) ?_); intro w6 hg ho hB; have hb := hB _ _ GI.out HBI.out; replace I := As0 hg; replace B := As0 (Qbl B.out hb); replace M := As0 (Qbl M.out hb); replace V := As0 (Qbl V.out hb); replace W := As0 (Qbl W.out hb); replace HF := As0 (HF.out.then hb); replace HK := As0 (HK.out.below hb); clear b0 b1 b2 b3 b4 bf0 bf1 bf2 bf3 bf4 m0 m1 m2 m3 m4 mf0 mf1 mf2 mf3 mf4 v0 vf a0 af; (obtain ⟨b0, b1, b2, b3, b4, bf0, bf1, bf2, bf3, bf4⟩ := cN5 B.out); (obtain ⟨m0, m1, m2, m3, m4, mf0, mf1, mf2, mf3, mf4⟩ := cN5 M.out); have v0 := (Qbn V.out 0).trans rfl; have vf := Qbp V.out 0; have a0 := (Qbn W.out 0).trans rfl; have af := Qbp W.out 0; (obtain ⟨i_0, i_1, i_2, i_3, i_4, i_5, i_f0, i_f1, i_f2, i_f3, i_f4, i_f5⟩ := cN6 I.out); clear hg ho hB hb HBI GI)
      | (go_at_call 120; refine (row_calls k g s1 A0 c0 bc bt.f0 bt.f1 bt.f2 bt.f3 A1 c1 mc mt.f0 mt.f1 mt.f2 mt.f3 p _ w0 _ HK.out (HF.out.base HB0.out HG0.out HB0.out.size) HG0.out H0.out hc0 H1.out hc1_ hu).mono ?_; rintro e w7 ⟨he, hk, hf⟩; replace he : e = .panicked [{ v := .iface 185 (.agg #[.int .i64 qy, .int .i64 qi]), recovered := false }] := he; subst he; replace HK := As0 hk; replace B := As0 (hf.blk B.out NB.out); replace M := As0 (hf.blk M.out NM.out); replace V := As0 (hf.blk V.out NV.out); replace W := As0 (hf.blk W.out NW.out); replace HF := As0 (HF.out.trans hf); clear hf hk))
    refine leaves_cons (f := 119) (args := #[.pointer (some ⟨gV, 0, none⟩), .pointer (some ⟨gW, 0, none⟩)]) (by simp) (by simp [go_sem]) ?_
    refine (catch_pan gV gW 0 0 qy qi [] _ V.out W.out NVW.out).mono ?_
    rintro e u' w'' ⟨rfl, rfl, ha, hb, hf⟩
    have y0 : w''.cell? ⟨gV, 0, none⟩ = some (.int .i64 qy) := (Qbn ha 0).trans rfl
    have y1 : w''.cell? ⟨gW, 0, none⟩ = some (.int .i64 qi) := (Qbn hb 0).trans rfl
    simp [Leaves, settle, results, Tryz.results66, go_sem]
    exact ⟨.tuple #[.int .i64 qy, .int .i64 qi], by simp [y0, y1], rfl, HK.out.fr2 hf V.out W.out NV.out.symm NW.out.symm (by decide) (by decide), hf.fr HF.out GV.out GW.out⟩
  ·have hi' : i = rows.length := by have := HI.out.1; omega
   have H3 := H.out
   rw [hi', List.drop_length] at H3
   replace H : endF k bt mt (mc.length : Int) s1 = some x := H3
   clear H3 HI
   unfold endF at H
   by_cases hk1 : bt.f0 = 1
   ·rw [if_pos hk1] at H
    obtain rfl := Option.some.inj H
    have hk1b : (bt.f0 != 1) = false := bne_eq_false_iff_eq.mpr hk1
    go_wp2
    have hne := NVW.out
    have hne' := hne.symm
    have hmv := NMV.out
    have hmv' := hmv.symm
    go_region
    go_wp2
    refine leaves_cons (f := 119) (args := #[.pointer (some ⟨gV, 0, none⟩), .pointer (some ⟨gW, 0, none⟩)]) (by simp) (by simp [go_sem]) ?_
    refine (catch_idle _ _ _).mono ?_
    rintro e u' w'' ⟨rfl, rfl, rfl⟩
    have hf2 := (((Fr2.of (a := gV) (b := gW) (Below.refl wr.heap.size wr)).setA 0 (.int .i64 0)).setB 0 (.int .i64 (mc.length : Int))).drew
    have ha := Qbr (Qd5 (p := ⟨gW, 0, none⟩) (Qbt (cs := #[.int .i64 0]) V.out 0 (.int .i64 0) rfl) hne (.int .i64 (mc.length : Int)))
    have hb := Qbr (Qbt (cs := #[.int .i64 0]) (Qd5 (p := ⟨gV, 0, none⟩) W.out hne' (.int .i64 0)) 0 (.int .i64 (mc.length : Int)) rfl)
    generalize ((wr.setCell ⟨gV, 0, none⟩ (.int .i64 0)).setCell ⟨gW, 0, none⟩ (.int .i64 (mc.length : Int))).drew = w9 at hf2 ha hb ⊢
    have y0 : w9.cell? ⟨gV, 0, none⟩ = some (.int .i64 0) := (Qbn ha 0).trans rfl
    have y1 : w9.cell? ⟨gW, 0, none⟩ = some (.int .i64 (mc.length : Int)) := (Qbn hb 0).trans rfl
    simp [Leaves, settle, results, Tryz.results66, go_sem]
    exact ⟨.tuple #[.int .i64 0, .int .i64 (mc.length : Int)], by simp [y0, y1], rfl, HK.out.fr2 hf2 V.out W.out NV.out.symm NW.out.symm (by decide) (by decide), hf2.fr HF.out GV.out GW.out⟩
   ·rw [if_neg hk1] at H
    have hk1b : (bt.f0 != 1) = true := bne_iff_ne.mpr hk1
    obtain ⟨s9, px⟩ := x
    cases px with
    | none =>
     go_wp2_with (go_at_call 121; refine (Qdr k g s1 bt.f1 mt.f1 (mc.length : Int) _ _ HK.out H).mono ?_; rintro e w7 ⟨he, hk, hf⟩; replace he : e = .returned (.tuple #[]) := he; subst he; replace HK := As0 hk; clear b0 b1 b2 b3 b4 bf0 bf1 bf2 bf3 bf4 m0 m1 m2 m3 m4 mf0 mf1 mf2 mf3 mf4 v0 vf a0 af; replace B := As0 (hf.blk B.out NB.out); replace M := As0 (hf.blk M.out NM.out); replace V := As0 (hf.blk V.out NV.out); replace W := As0 (hf.blk W.out NW.out); replace HF := As0 (HF.out.trans hf); (obtain ⟨b0, b1, b2, b3, b4, bf0, bf1, bf2, bf3, bf4⟩ := cN5 B.out); (obtain ⟨m0, m1, m2, m3, m4, mf0, mf1, mf2, mf3, mf4⟩ := cN5 M.out); have v0 := (Qbn V.out 0).trans rfl; have vf := Qbp V.out 0; have a0 := (Qbn W.out 0).trans rfl; have af := Qbp W.out 0; clear hf hk)
     have hne := NVW.out
     have hne' := hne.symm
     have hmv := NMV.out
     have hmv' := hmv.symm
     go_region
     go_wp2
     refine leaves_cons (f := 119) (args := #[.pointer (some ⟨gV, 0, none⟩), .pointer (some ⟨gW, 0, none⟩)]) (by simp) (by simp [go_sem]) ?_
     refine (catch_idle _ _ _).mono ?_
     rintro e u' w'' ⟨rfl, rfl, rfl⟩
     have hf2 := (((Fr2.of (a := gV) (b := gW) (Below.refl w7.heap.size w7)).setA 0 (.int .i64 0)).setB 0 (.int .i64 (mc.length : Int))).drew
     have ha := Qbr (Qd5 (p := ⟨gW, 0, none⟩) (Qbt (cs := #[.int .i64 0]) V.out 0 (.int .i64 0) rfl) hne (.int .i64 (mc.length : Int)))
     have hb := Qbr (Qbt (cs := #[.int .i64 0]) (Qd5 (p := ⟨gV, 0, none⟩) W.out hne' (.int .i64 0)) 0 (.int .i64 (mc.length : Int)) rfl)
     generalize ((w7.setCell ⟨gV, 0, none⟩ (.int .i64 0)).setCell ⟨gW, 0, none⟩ (.int .i64 (mc.length : Int))).drew = w9 at hf2 ha hb ⊢
     have y0 : w9.cell? ⟨gV, 0, none⟩ = some (.int .i64 0) := (Qbn ha 0).trans rfl
     have y1 : w9.cell? ⟨gW, 0, none⟩ = some (.int .i64 (mc.length : Int)) := (Qbn hb 0).trans rfl
     simp [Leaves, settle, results, Tryz.results66, go_sem]
     exact ⟨.tuple #[.int .i64 0, .int .i64 (mc.length : Int)], by simp [y0, y1], rfl, HK.out.fr2 hf2 V.out W.out NV.out.symm NW.out.symm (by decide) (by decide), hf2.fr HF.out GV.out GW.out⟩
    | some q =>
     obtain ⟨qy, qi⟩ := q
     go_wp2_with (go_at_call 121; refine (Qdr k g s1 bt.f1 mt.f1 (mc.length : Int) _ _ HK.out H).mono ?_; rintro e w7 ⟨he, hk, hf⟩; replace he : e = .panicked [{ v := .iface 185 (.agg #[.int .i64 qy, .int .i64 qi]), recovered := false }] := he; subst he; replace HK := As0 hk; clear b0 b1 b2 b3 b4 bf0 bf1 bf2 bf3 bf4 m0 m1 m2 m3 m4 mf0 mf1 mf2 mf3 mf4 v0 vf a0 af; replace B := As0 (hf.blk B.out NB.out); replace M := As0 (hf.blk M.out NM.out); replace V := As0 (hf.blk V.out NV.out); replace W := As0 (hf.blk W.out NW.out); replace HF := As0 (HF.out.trans hf); (obtain ⟨b0, b1, b2, b3, b4, bf0, bf1, bf2, bf3, bf4⟩ := cN5 B.out); (obtain ⟨m0, m1, m2, m3, m4, mf0, mf1, mf2, mf3, mf4⟩ := cN5 M.out); have v0 := (Qbn V.out 0).trans rfl; have vf := Qbp V.out 0; have a0 := (Qbn W.out 0).trans rfl; have af := Qbp W.out 0; clear hf hk)
     refine leaves_cons (f := 119) (args := #[.pointer (some ⟨gV, 0, none⟩), .pointer (some ⟨gW, 0, none⟩)]) (by simp) (by simp [go_sem]) ?_
     refine (catch_pan gV gW 0 0 qy qi [] _ V.out W.out NVW.out).mono ?_
     rintro e u' w'' ⟨rfl, rfl, ha, hb, hf⟩
     have y0 : w''.cell? ⟨gV, 0, none⟩ = some (.int .i64 qy) := (Qbn ha 0).trans rfl
     have y1 : w''.cell? ⟨gW, 0, none⟩ = some (.int .i64 qi) := (Qbn hb 0).trans rfl
     simp [Leaves, settle, results, Tryz.results66, go_sem]
     exact ⟨.tuple #[.int .i64 qy, .int .i64 qi], by simp [y0, y1], rfl, HK.out.fr2 hf V.out W.out NV.out.symm NW.out.symm (by decide) (by decide), hf.fr HF.out GV.out GW.out⟩
def align_copied.f (a0_0 a0_1 a0_2 a0_3 a0_4 : Int) : Option (Bool) := some (a0_0 == 2)
theorem align_copied.calls (a0_0 a0_1 a0_2 a0_3 a0_4 : Int) (r : Bool) (w : World) (h : align_copied.f a0_0 a0_1 a0_2 a0_3 a0_4 = some r) :
 Calls Tryz.prog 111 #[.agg #[.int .i64 a0_0, .int .i64 a0_1, .int .i64 a0_2, .int .i64 a0_3, .int .i64 a0_4]] w fun e w' => e = .returned (.bool r) ∧ Below w.heap.size w w' := by
 have hu41 := Tryz.underlying41
 have HB := As0 (Below.refl w.heap.size w)
 have H : (some (a0_0 == 2)) = some r := h
 clear h
 obtain rfl := Option.some.inj H
 go_enter Tryz.func111, Tryz.ntmps111
 go_wp2_with (first | ((with_reducible refine gD 1 ?_); refine bY HB.out ?_; intro gb265 w2 hg hb K265 GW265 HB; clear hb hg; have q3_ := cN5 K265.out))
 go_ret
 exact ⟨oR, BU HB.out⟩
def align_moved.f (a0_0 a0_1 a0_2 a0_3 a0_4 a0_5 a0_6 : Int) : Option (Bool) := some (a0_0 == 18)
theorem align_moved.calls (a0_0 a0_1 a0_2 a0_3 a0_4 a0_5 a0_6 : Int) (r : Bool) (w : World) (h : align_moved.f a0_0 a0_1 a0_2 a0_3 a0_4 a0_5 a0_6 = some r) :
 Calls Tryz.prog 113 #[.agg #[.int .i64 a0_0, .int .i64 a0_1, .int .i64 a0_2, .int .i64 a0_3, .int .i64 a0_4, .int .i64 a0_5, .int .i64 a0_6]] w fun e w' => e = .returned (.bool r) ∧ Below w.heap.size w w' := by
 have hu59 := Tryz.underlying59
 have HB := As0 (Below.refl w.heap.size w)
 have H : (some (a0_0 == 18)) = some r := h
 clear h
 obtain rfl := Option.some.inj H
 go_enter Tryz.func113, Tryz.ntmps113
 go_wp2_with (first | ((with_reducible refine gD 1 ?_); refine bY HB.out ?_; intro gb266 w2 hg hb K266 GW266 HB; clear hb hg; have q3_ := cN7 K266.out))
 go_ret
 exact ⟨oR, BU HB.out⟩
def align_Same.f (a0_0 a0_1 a0_2 a0_3 a0_4 a1_0 a1_1 a1_2 a1_3 a1_4 a1_5 a1_6 : Int) : Option (Bool) := if a0_0 = a1_0 then (if a0_4 = a1_4 then (if a0_0 = 2 then (some false) else (some (a0_0 != 18))) else (some false)) else (some false)
theorem align_Same.calls (a0_0 a0_1 a0_2 a0_3 a0_4 a1_0 a1_1 a1_2 a1_3 a1_4 a1_5 a1_6 : Int) (r : Bool) (w : World) (h : align_Same.f a0_0 a0_1 a0_2 a0_3 a0_4 a1_0 a1_1 a1_2 a1_3 a1_4 a1_5 a1_6 = some r) :
 Calls Tryz.prog 114 #[.agg #[.int .i64 a0_0, .int .i64 a0_1, .int .i64 a0_2, .int .i64 a0_3, .int .i64 a0_4], .agg #[.int .i64 a1_0, .int .i64 a1_1, .int .i64 a1_2, .int .i64 a1_3, .int .i64 a1_4, .int .i64 a1_5, .int .i64 a1_6]] w fun e w' => e = .returned (.bool r) ∧ Below w.heap.size w w' := by
 have hu41 := Tryz.underlying41
 have hu59 := Tryz.underlying59
 have HB := As0 (Below.refl w.heap.size w)
 have H : (if a0_0 = a1_0 then (if a0_4 = a1_4 then (if a0_0 = 2 then (some false) else (some (a0_0 != 18))) else (some false)) else (some false)) = some r := h
 clear h
 by_cases c3 : a0_0 = a1_0
 rotate_left
 ·rw [if_neg c3] at H
  have c3b0 : (a0_0 == a1_0) = false := beq_eq_false_iff_ne.mpr c3
  have c3b1 : (a0_0 != a1_0) = true := bne_iff_ne.mpr c3
  obtain rfl := Option.some.inj H
  go_enter Tryz.func114, Tryz.ntmps114
  go_wp2_with (first | ((with_reducible refine gD 2 ?_); refine bY HB.out ?_; intro gb267 w21 hg hb K267 GW267 HB; clear hb hg) | ((with_reducible refine gD 3 ?_); refine bY HB.out ?_; intro gb268 w22 hg hb K268 GW268 HB; have N267_268 := pL hg K267; have N268_267 := pR hg K267; replace K267 := kB K267 hb; clear hb hg; have q24_ := cN5 K267.out; have q25_ := cN7 K268.out))
  go_ret
  exact ⟨oR, BU HB.out⟩
 rw [if_pos c3] at H
 have c3b0 : (a0_0 == a1_0) = true := beq_iff_eq.mpr c3
 have c3b1 : (a0_0 != a1_0) = false := bne_eq_false_iff_eq.mpr c3
 clear c3
 by_cases c4 : a0_4 = a1_4
 rotate_left
 ·rw [if_neg c4] at H
  have c4b0 : (a0_4 == a1_4) = false := beq_eq_false_iff_ne.mpr c4
  have c4b1 : (a0_4 != a1_4) = true := bne_iff_ne.mpr c4
  obtain rfl := Option.some.inj H
  go_enter Tryz.func114, Tryz.ntmps114
  go_wp2_with (first | ((with_reducible refine gD 2 ?_); refine bY HB.out ?_; intro gb267 w16 hg hb K267 GW267 HB; clear hb hg) | ((with_reducible refine gD 3 ?_); refine bY HB.out ?_; intro gb268 w17 hg hb K268 GW268 HB; have N267_268 := pL hg K267; have N268_267 := pR hg K267; replace K267 := kB K267 hb; clear hb hg; have q19_ := cN5 K267.out; have q20_ := cN7 K268.out))
  go_ret
  exact ⟨oR, BU HB.out⟩
 rw [if_pos c4] at H
 have c4b0 : (a0_4 == a1_4) = true := beq_iff_eq.mpr c4
 have c4b1 : (a0_4 != a1_4) = false := bne_eq_false_iff_eq.mpr c4
 clear c4
 by_cases c5 : a0_0 = 2
 rotate_left
 ·rw [if_neg c5] at H
  have c5b0 : (a0_0 == 2) = false := beq_eq_false_iff_ne.mpr c5
  have c5b1 : (a0_0 != 2) = true := bne_iff_ne.mpr c5
  obtain rfl := Option.some.inj H
  go_enter Tryz.func114, Tryz.ntmps114
  go_wp2_with (first | ((with_reducible refine gD 2 ?_); refine bY HB.out ?_; intro gb267 w11 hg hb K267 GW267 HB; clear hb hg) | ((with_reducible refine gD 3 ?_); refine bY HB.out ?_; intro gb268 w12 hg hb K268 GW268 HB; have N267_268 := pL hg K267; have N268_267 := pR hg K267; replace K267 := kB K267 hb; clear hb hg; have q14_ := cN5 K267.out; have q15_ := cN7 K268.out))
  go_ret
  exact ⟨oR, BU HB.out⟩
 rw [if_pos c5] at H
 have c5b0 : (a0_0 == 2) = true := beq_iff_eq.mpr c5
 have c5b1 : (a0_0 != 2) = false := bne_eq_false_iff_eq.mpr c5
 clear c5
 obtain rfl := Option.some.inj H
 go_enter Tryz.func114, Tryz.ntmps114
 go_wp2_with (first | ((with_reducible refine gD 2 ?_); refine bY HB.out ?_; intro gb267 w6 hg hb K267 GW267 HB; clear hb hg) | ((with_reducible refine gD 3 ?_); refine bY HB.out ?_; intro gb268 w7 hg hb K268 GW268 HB; have N267_268 := pL hg K267; have N268_267 := pR hg K267; replace K267 := kB K267 hb; clear hb hg; have q9_ := cN5 K267.out; have q10_ := cN7 K268.out))
 go_ret
 exact ⟨oR, BU HB.out⟩
mutual
def Qao.l0 : Nat → List (S41) → Int → Option (Int)
 | 0, _, _ => none
 | k + 1, x0, x1 => if x1 < (x0.length : Int) then (if 0 ≤ x1 then ((align_copied.f ((Qav x0 x1).f0) ((Qav x0 x1).f1) ((Qav x0 x1).f2) ((Qav x0 x1).f3) ((Qav x0 x1).f4)).bind fun t270 => (Qao.j1 k x0 x1 t270)) else (none)) else (Qao.j1 k x0 x1 false)
def Qao.j1 : Nat → List (S41) → Int → Bool → Option (Int)
 | 0, _, _, _ => none
 | k + 1, x0, x1, x18 => if x18 = true then (Qao.l0 k x0 (wrap64 (x1 + 1))) else (some x1)
end
def Qao.f (k : Nat) (l0 : List (S41)) (a1 : Int)  : Option (Int) := Qao.l0 k l0 a1
theorem Qao.calls (k : Nat) (A0 : Option Addr) (c0 : Nat) (l0 : List (S41)) (a1 : Int)  (r : Int) (w : World) (hr0 : Kd.C k41 w A0 l0.length l0) (hc0 : l0.length ≤ c0) (h : Qao.f k l0 a1 = some r) :
 Calls Tryz.prog 110 #[.slice A0 l0.length c0, .int .i64 a1, .func (.func 111) #[] #[]] w fun e w' => e = .returned (.int .i64 r) ∧ Below w.heap.size w w' := by
 have hu41 := Tryz.underlying41
 have R0 := As0 hr0
 have C0 := As0 hc0
 clear hr0 hc0
 have HB := As0 (Below.refl w.heap.size w)
 have H : (Qao.l0 k l0 a1) = some r := h
 clear h
 have H' := As0 H
 clear H
 go_enter Tryz.func110, Tryz.ntmps110
 go_wp2
 go_loopg [1] k (fun kq v1 w' => ∃ (x1_1 : Int), v1 = .int .i64 x1_1 ∧ Qbk (Qao.l0 kq l0 x1_1 = some r) ∧ Qbk (kq ≤ k) ∧ Qbk (Below w.heap.size w w'))
 case atStart => exact ⟨(a1), eR, H', ⟨Nat.le_refl _⟩, ⟨BU HB.out⟩⟩
 case round =>
  clear H'
  obtain ⟨x1_1, rfl, HA, HK1, HB⟩ := hrel
  cases gk with
  | zero => exact absurd HA.out (by simp [Qao.l0])
  | succ k1 =>
   have H := HA.out
   clear HA
   simp only [Qao.l0] at H
   have C4 := As0 H
   clear H
   go_upto_region 1 with (fail)
   go_cut [18] (fun v18 wc => ∃ (kq : Nat) (x18_3 : Bool), v18 = .bool x18_3 ∧ Qbk (Qao.j1 kq l0 x1_1 x18_3 = some r) ∧ Qbk (kq ≤ k1) ∧ Qbk (Below w.heap.size w wc))
   case first =>
    have H := C4.out
    clear C4
    by_cases c5 : x1_1 < (l0.length : Int)
    rotate_left
    ·rw [if_neg c5] at H
     have c5b0 := decide_eq_false c5
     clear c5
     (first | rw [c5b0] | (simp only [Qbu, Qbv]; rw [c5b0]) | skip)
     have H' := As0 H
     clear H
     go_wp2
     go_meet
     case rel => exact ⟨_, (false), eR, H', ⟨by have := HK1.out; first | omega | exact Nat.le_refl _⟩, ⟨BU HB.out⟩⟩
    rw [if_pos c5] at H
    have c5b0 := decide_eq_true c5
    clear c5
    (first | rw [c5b0] | (simp only [Qbu, Qbv]; rw [c5b0]) | skip)
    by_cases c6 : 0 ≤ x1_1
    rotate_left
    ·rw [if_neg c6] at H
     exact absurd H (by simp)
    rw [if_pos c6] at H
    have c6b0 := decide_eq_true c6
    clear c6
    replace H := Option.bind_eq_some_iff.mp H
    obtain ⟨t270, A70, H⟩ := H
    have A7 := As0 A70
    clear A70
    have H' := As0 H
    clear H
    have p269 : 0 ≤ (x1_1 : Int) := qR
    have q269 : x1_1 < (l0.length : Int) := qR
    obtain ⟨ad269, e269, hx269_0, hx269_1, hx269_2, hx269_3, hx269_4⟩ := at_T41 R0.out x1_1 p269 q269
    cases e269
    replace hx269_0 := cl HB hx269_0
    replace hx269_1 := cl HB hx269_1
    replace hx269_2 := cl HB hx269_2
    replace hx269_3 := cl HB hx269_3
    replace hx269_4 := cl HB hx269_4
    replace p269 := eq_true p269
    replace q269 := eq_true q269
    go_wp2_with (first | (go_at_call 111; (with_reducible refine (align_copied.calls ((Qav l0 x1_1).f0) ((Qav l0 x1_1).f1) ((Qav l0 x1_1).f2) ((Qav l0 x1_1).f3) ((Qav l0 x1_1).f4) t270 _ A7.out).mono ?_); rintro e w8 ⟨rfl, hb⟩; replace HB := sB HB hb; (try clear hb)))
    go_meet
    case rel => exact ⟨_, (t270), eR, H', ⟨by have := HK1.out; first | omega | exact Nat.le_refl _⟩, ⟨BU HB.out⟩⟩
   case rest =>
    clear C4
    obtain ⟨kq, x18_3, rfl, HA, HJ3, HB⟩ := hcut
    cases kq with
    | zero => exact absurd HA.out (by simp [Qao.j1])
    | succ kj3 =>
     have H := HA.out
     clear HA
     simp only [Qao.j1] at H
     by_cases c9 : x18_3 = true
     rotate_left
     ·replace c9 := Bool.eq_false_iff.mpr c9
      subst c9
      rw [if_neg bF] at H
      obtain rfl := Option.some.inj H
      go_wp2
      go_ret
      exact ⟨oR, BU HB.out⟩
     subst c9
     rw [if_pos rfl] at H
     have H' := As0 H
     clear H
     go_wp2
     go_roundg kj3
     case measure => have := HK1.out; have := HJ3.out; omega
     case rel => exact ⟨(wrap64 (x1_1 + 1)), eR, H', ⟨by have := HK1.out; have := HJ3.out; omega⟩, ⟨BU HB.out⟩⟩
mutual
def Qar.l0 : Nat → List (S59) → Int → Option (Int)
 | 0, _, _ => none
 | k + 1, x0, x1 => if x1 < (x0.length : Int) then (if 0 ≤ x1 then ((align_moved.f ((Qag x0 x1).f0) ((Qag x0 x1).f1) ((Qag x0 x1).f2) ((Qag x0 x1).f3) ((Qag x0 x1).f4) ((Qag x0 x1).f5) ((Qag x0 x1).f6)).bind fun t270 => (Qar.j1 k x0 x1 t270)) else (none)) else (Qar.j1 k x0 x1 false)
def Qar.j1 : Nat → List (S59) → Int → Bool → Option (Int)
 | 0, _, _, _ => none
 | k + 1, x0, x1, x18 => if x18 = true then (Qar.l0 k x0 (wrap64 (x1 + 1))) else (some x1)
end
def Qar.f (k : Nat) (l0 : List (S59)) (a1 : Int)  : Option (Int) := Qar.l0 k l0 a1
theorem Qar.calls (k : Nat) (A0 : Option Addr) (c0 : Nat) (l0 : List (S59)) (a1 : Int)  (r : Int) (w : World) (hr0 : Kd.C k59 w A0 l0.length l0) (hc0 : l0.length ≤ c0) (h : Qar.f k l0 a1 = some r) :
 Calls Tryz.prog 112 #[.slice A0 l0.length c0, .int .i64 a1, .func (.func 113) #[] #[]] w fun e w' => e = .returned (.int .i64 r) ∧ Below w.heap.size w w' := by
 have hu59 := Tryz.underlying59
 have R0 := As0 hr0
 have C0 := As0 hc0
 clear hr0 hc0
 have HB := As0 (Below.refl w.heap.size w)
 have H : (Qar.l0 k l0 a1) = some r := h
 clear h
 have H' := As0 H
 clear H
 go_enter Tryz.func112, Tryz.ntmps112
 go_wp2
 go_loopg [1] k (fun kq v1 w' => ∃ (x1_1 : Int), v1 = .int .i64 x1_1 ∧ Qbk (Qar.l0 kq l0 x1_1 = some r) ∧ Qbk (kq ≤ k) ∧ Qbk (Below w.heap.size w w'))
 case atStart => exact ⟨(a1), eR, H', ⟨Nat.le_refl _⟩, ⟨BU HB.out⟩⟩
 case round =>
  clear H'
  obtain ⟨x1_1, rfl, HA, HK1, HB⟩ := hrel
  cases gk with
  | zero => exact absurd HA.out (by simp [Qar.l0])
  | succ k1 =>
   have H := HA.out
   clear HA
   simp only [Qar.l0] at H
   have C4 := As0 H
   clear H
   go_upto_region 1 with (fail)
   go_cut [18] (fun v18 wc => ∃ (kq : Nat) (x18_3 : Bool), v18 = .bool x18_3 ∧ Qbk (Qar.j1 kq l0 x1_1 x18_3 = some r) ∧ Qbk (kq ≤ k1) ∧ Qbk (Below w.heap.size w wc))
   case first =>
    have H := C4.out
    clear C4
    by_cases c5 : x1_1 < (l0.length : Int)
    rotate_left
    ·rw [if_neg c5] at H
     have c5b0 := decide_eq_false c5
     clear c5
     (first | rw [c5b0] | (simp only [Qbu, Qbv]; rw [c5b0]) | skip)
     have H' := As0 H
     clear H
     go_wp2
     go_meet
     case rel => exact ⟨_, (false), eR, H', ⟨by have := HK1.out; first | omega | exact Nat.le_refl _⟩, ⟨BU HB.out⟩⟩
    rw [if_pos c5] at H
    have c5b0 := decide_eq_true c5
    clear c5
    (first | rw [c5b0] | (simp only [Qbu, Qbv]; rw [c5b0]) | skip)
    by_cases c6 : 0 ≤ x1_1
    rotate_left
    ·rw [if_neg c6] at H
     exact absurd H (by simp)
    rw [if_pos c6] at H
    have c6b0 := decide_eq_true c6
    clear c6
    replace H := Option.bind_eq_some_iff.mp H
    obtain ⟨t270, A70, H⟩ := H
    have A7 := As0 A70
    clear A70
    have H' := As0 H
    clear H
    have p269 : 0 ≤ (x1_1 : Int) := qR
    have q269 : x1_1 < (l0.length : Int) := qR
    obtain ⟨ad269, e269, hx269_0, hx269_1, hx269_2, hx269_3, hx269_4, hx269_5, hx269_6⟩ := at_T59 R0.out x1_1 p269 q269
    cases e269
    replace hx269_0 := cl HB hx269_0
    replace hx269_1 := cl HB hx269_1
    replace hx269_2 := cl HB hx269_2
    replace hx269_3 := cl HB hx269_3
    replace hx269_4 := cl HB hx269_4
    replace hx269_5 := cl HB hx269_5
    replace hx269_6 := cl HB hx269_6
    replace p269 := eq_true p269
    replace q269 := eq_true q269
    go_wp2_with (first | (go_at_call 113; (with_reducible refine (align_moved.calls ((Qag l0 x1_1).f0) ((Qag l0 x1_1).f1) ((Qag l0 x1_1).f2) ((Qag l0 x1_1).f3) ((Qag l0 x1_1).f4) ((Qag l0 x1_1).f5) ((Qag l0 x1_1).f6) t270 _ A7.out).mono ?_); rintro e w8 ⟨rfl, hb⟩; replace HB := sB HB hb; (try clear hb)))
    go_meet
    case rel => exact ⟨_, (t270), eR, H', ⟨by have := HK1.out; first | omega | exact Nat.le_refl _⟩, ⟨BU HB.out⟩⟩
   case rest =>
    clear C4
    obtain ⟨kq, x18_3, rfl, HA, HJ3, HB⟩ := hcut
    cases kq with
    | zero => exact absurd HA.out (by simp [Qar.j1])
    | succ kj3 =>
     have H := HA.out
     clear HA
     simp only [Qar.j1] at H
     by_cases c9 : x18_3 = true
     rotate_left
     ·replace c9 := Bool.eq_false_iff.mpr c9
      subst c9
      rw [if_neg bF] at H
      obtain rfl := Option.some.inj H
      go_wp2
      go_ret
      exact ⟨oR, BU HB.out⟩
     subst c9
     rw [if_pos rfl] at H
     have H' := As0 H
     clear H
     go_wp2
     go_roundg kj3
     case measure => have := HK1.out; have := HJ3.out; omega
     case rel => exact ⟨(wrap64 (x1_1 + 1)), eR, H', ⟨by have := HK1.out; have := HJ3.out; omega⟩, ⟨BU HB.out⟩⟩
mutual
def Qal.l0 : Nat → List (S41) → List (S59) → List (S180) → Int → Int → Option ((List (S180)) × Int × Int)
 | 0, _, _, _, _, _ => none
 | k + 1, x0, x1, x7, x8, x9 => (Qao.f k x0 x8).bind fun t271 => ((Qar.f k x1 x9).bind fun t272 => (if t271 = (x0.length : Int) then (Qal.j1 k x0 x1 x7 t271 t272 (t272 == (x1.length : Int)) x8 t271 x9 t272 0 0) else (Qal.j1 k x0 x1 x7 t271 t272 false x8 t271 x9 t272 0 0)))
def Qal.j1 : Nat → List (S41) → List (S59) → List (S180) → Int → Int → Bool → Int → Int → Int → Int → Int → Int → Option ((List (S180)) × Int × Int)
 | 0, _, _, _, _, _, _, _, _, _, _, _, _ => none
 | k + 1, x0, x1, x7, x8, x9, x33, x274000, x274001, x274002, x274003, x274004, x274005 => if x33 = true then (if x7.length < 2932031007402 then (some ((x7 ++ [(⟨x274000, x274001, x274002, x274003, (-1), (-1)⟩ : S180)]), x9, 0)) else (none)) else (if x8 = (x0.length : Int) then (Qal.j2 k x0 x1 x7 x8 x9 true x274000 x274001 x274002 x274003 x274004 x274005) else (if x9 = (x1.length : Int) then (Qal.j2 k x0 x1 x7 x8 x9 true x274000 x274001 x274002 x274003 x274004 x274005) else (if 0 ≤ x8 then (if x8 < (x0.length : Int) then (if 0 ≤ x9 then (if x9 < (x1.length : Int) then ((align_Same.f ((Qav x0 x8).f0) ((Qav x0 x8).f1) ((Qav x0 x8).f2) ((Qav x0 x8).f3) ((Qav x0 x8).f4) ((Qag x1 x9).f0) ((Qag x1 x9).f1) ((Qag x1 x9).f2) ((Qag x1 x9).f3) ((Qag x1 x9).f4) ((Qag x1 x9).f5) ((Qag x1 x9).f6)).bind fun t279 => (Qal.j2 k x0 x1 x7 x8 x9 (!t279) x274000 x274001 x274002 x274003 x274004 x274005)) else (none)) else (none)) else (none)) else (none))))
def Qal.j2 : Nat → List (S41) → List (S59) → List (S180) → Int → Int → Bool → Int → Int → Int → Int → Int → Int → Option ((List (S180)) × Int × Int)
 | 0, _, _, _, _, _, _, _, _, _, _, _, _ => none
 | k + 1, x0, x1, x7, x8, x9, x62, x274000, x274001, x274002, x274003, x274004, x274005 => if x62 = true then (some (([] : List (S180)), x9, 20)) else (if x7.length < 2932031007402 then (Qal.l0 k x0 x1 (x7 ++ [(⟨x274000, x274001, x274002, x274003, x8, x9⟩ : S180)]) (wrap64 (x8 + 1)) (wrap64 (x9 + 1))) else (none))
end
def Qal.f (k : Nat) (l0 : List (S41)) (l1 : List (S59)) : Option ((List (S180)) × Int × Int) := Qal.l0 k l0 l1 ([] : List (S180)) 0 0
def Qal.T8 : Bool × List (List Nat × List Nat) := (true, [([], []), ([], []), ([1], [1]), ([0, 2], [0, 2]), ([3], [3]), ([4], [4]), ([4], [4]), ([6, 4], [4, 6]), ([5, 7, 4], [4, 5, 7]), ([4, 8], [4, 8]), ([9, 4], [9]), ([10], [10]), ([10], [10]), ([11, 12, 10], [10, 11, 12]), ([13, 10], [10, 13]), ([10], [10]), ([10], [10]), ([15, 16, 10], [10, 15, 16]), ([17, 10], [10, 17]), ([14, 18, 10, 10], [10, 14, 18]), ([19, 10], [10, 19]), ([10, 20], [10, 20])])
def Qal.B8 : List Nat := [0, 0, 2, 7, 15, 31, 31, 95, 255, 511, 1023, 2047, 2047, 8191, 16383, 2047, 2047, 100351, 231423, 524287, 1048575, 2097151]
theorem Qal.tab8 : rtab .any (opsOf Tryz.f63 8) = Qal.T8 := by kernel_rfl
theorem Qal.bits8 : Qcr Qal.T8.2 Qal.B8 = true := by kernel_rfl
theorem Qal.calls (k : Nat) (A0 : Option Addr) (c0 : Nat) (l0 : List (S41)) (A1 : Option Addr) (c1 : Nat) (l1 : List (S59)) (r1 : List (S180)) (r2 r3 : Int) (w : World) (hr0 : Kd.C k41 w A0 l0.length l0) (hc0 : l0.length ≤ c0) (hr1 : Kd.C k59 w A1 l1.length l1) (hc1 : l1.length ≤ c1) (h : Qal.f k l0 l1 = some (r1, r2, r3)) :
 Calls Tryz.prog 63 #[.slice A0 l0.length c0, .slice A1 l1.length c1] w fun e w' => ∃ v0_ : Value, e = .returned (.tuple #[v0_, .int .i64 r2, .int .i64 r3]) ∧ Kd.R k180 180 w' w.heap.size (fun _ => True) v0_ r1 ∧ Below w.heap.size w w' := by
 have hu180 := Tryz.underlying180
 have hu41 := Tryz.underlying41
 have hu59 := Tryz.underlying59
 have R0 := As0 hr0
 have C0 := As0 hc0
 clear hr0 hc0
 have R1 := As0 hr1
 have C1 := As0 hc1
 clear hr1 hc1
 have HB := As0 (Below.refl w.heap.size w)
 have H : (Qal.l0 k l0 l1 ([] : List (S180)) 0 0) = some (r1, r2, r3) := h
 clear h
 have H' := As0 H
 clear H
 go_enter Tryz.func63, Tryz.ntmps63
 go_wp2
 go_loopg [7, 8, 9] k (fun kq v7 v8 v9 w' => ∃ (x7_1 : List (S180)) (x8_1 : Int) (x9_1 : Int), v8 = .int .i64 x8_1 ∧ v9 = .int .i64 x9_1 ∧ Qbk (Qal.l0 kq l0 l1 x7_1 x8_1 x9_1 = some (r1, r2, r3)) ∧ Qbk (kq ≤ k) ∧ Qbk (Kd.R k180 180 w' w.heap.size (fun _ => True) v7 x7_1) ∧ Qbk (Below w.heap.size w w'))
 case atStart => exact ⟨(([] : List (S180))), (0), (0), eR, eR, H', ⟨Nat.le_refl _⟩, ⟨by first | exact Kd.R_nil _ _ _ _ _ | exact Kd.N_nil _ _ _ _ _ | exact Kd.V_nil _ _ _ _ _ | exact Kd.Q_nil _ _ _ _ _ | exact Kd.S_nil _ _ _ _ _⟩, ⟨BU HB.out⟩⟩
 case round =>
  clear H'
  obtain ⟨x7_1, x8_1, x9_1, rfl, rfl, HA, HK1, HO_7, HB⟩ := hrel
  cases gk with
  | zero => exact absurd HA.out (by simp [Qal.l0])
  | succ k1 =>
   have H := HA.out
   clear HA
   simp only [Qal.l0] at H
   replace H := Option.bind_eq_some_iff.mp H
   obtain ⟨t271, A30, H⟩ := H
   have A3 := As0 A30
   clear A30
   replace H := Option.bind_eq_some_iff.mp H
   obtain ⟨t272, A40, H⟩ := H
   have A4 := As0 A40
   clear A40
   have C5 := As0 H
   clear H
   try go_wp2_with (first | ((with_reducible refine Qbo (f := 110) rfl ?_); refine gL (some 14) Tryz.func110 #[.slice A0 l0.length c0, .int .i64 x8_1, .func (.func 111) #[] #[]] ?_; (with_reducible refine (Qao.calls k1 _ _ l0 x8_1 t271 _ ?side1 ?side2 A3.out).mono ?_); (case side1 => exact CU (Kd.C_below R0.out HB.out)); (case side2 => exact C0.out); rintro e w6 ⟨rfl, hb⟩; refine ⟨_, rfl, ?_⟩; replace HO_7 := As0 (Kd.R_below (RU HO_7.out) hb); replace HB := sB HB hb; (try clear hb)) | ((with_reducible refine Qbo (f := 112) rfl ?_); refine gL (some 18) Tryz.func112 #[.slice A1 l1.length c1, .int .i64 x9_1, .func (.func 113) #[] #[]] ?_; (with_reducible refine (Qar.calls k1 _ _ l1 x9_1 t272 _ ?side1 ?side2 A4.out).mono ?_); (case side1 => exact CU (Kd.C_below R1.out HB.out)); (case side2 => exact C1.out); rintro e w7 ⟨rfl, hb⟩; refine ⟨_, rfl, ?_⟩; replace HO_7 := As0 (Kd.R_below (RU HO_7.out) hb); replace HB := sB HB hb; (try clear hb)) | ((with_reducible refine gD 10 ?_); (try (refine Qcm (by rfl) ?_; dsimp only)); refine bX ?_; intro gb273 hg w8 hbox hb; replace HO_7 := As0 (Kd.R_below (Kd.R_elderB (RU HO_7.out) gb273 (Nat.le_of_eq hg.symm)) hb); have K273 := As0 (hbox); have GW273 := gW hg HB.out; replace HB := sB HB hb; clear hb hbox hg; have q9_ := cN6 K273.out))
   have n0_ : Qbk (Kd.R k180 180 ((((((w8.setCell ⟨gb273, 0, none⟩ (.int .i64 x8_1)).setCell ⟨gb273, 1, none⟩ (.int .i64 t271)).setCell ⟨gb273, 2, none⟩ (.int .i64 x9_1)).setCell ⟨gb273, 3, none⟩ (.int .i64 t272)).setCell ⟨gb273, 4, none⟩ (.int .i64 0)).setCell ⟨gb273, 5, none⟩ (.int .i64 0)) w.heap.size (fun k_ => k_ ≠ gb273) u7 x7_1) := ⟨RU (Kd.R_mono (RF gb273 5 (RF gb273 4 (RF gb273 3 (RF gb273 2 (RF gb273 1 (RF gb273 0 (Kd.R_mono HO_7.out (fun k_ hk => (⟨hk, hk.2⟩ : _ ∧ k_ ≠ gb273))) (.int .i64 x8_1)) (.int .i64 t271)) (.int .i64 x9_1)) (.int .i64 t272)) (.int .i64 0)) (.int .i64 0)) (fun _ hk => hk.1.2))⟩
   have n1_ : Qbk (((((((w8.setCell ⟨gb273, 0, none⟩ (.int .i64 x8_1)).setCell ⟨gb273, 1, none⟩ (.int .i64 t271)).setCell ⟨gb273, 2, none⟩ (.int .i64 x9_1)).setCell ⟨gb273, 3, none⟩ (.int .i64 t272)).setCell ⟨gb273, 4, none⟩ (.int .i64 0)).setCell ⟨gb273, 5, none⟩ (.int .i64 0)).heap[gb273]? = some (.cells #[.int .i64 x8_1, .int .i64 t271, .int .i64 x9_1, .int .i64 t272, .int .i64 0, .int .i64 0] 180 (0, 0))) := ⟨kV K273⟩
   have n2_ : Qbk (Below w.heap.size w ((((((w8.setCell ⟨gb273, 0, none⟩ (.int .i64 x8_1)).setCell ⟨gb273, 1, none⟩ (.int .i64 t271)).setCell ⟨gb273, 2, none⟩ (.int .i64 x9_1)).setCell ⟨gb273, 3, none⟩ (.int .i64 t272)).setCell ⟨gb273, 4, none⟩ (.int .i64 0)).setCell ⟨gb273, 5, none⟩ (.int .i64 0))) := ⟨BU HB.out⟩
   (try clear HO_7)
   (try clear K273)
   (try clear HB)
   generalize ((((((w8.setCell ⟨gb273, 0, none⟩ (.int .i64 x8_1)).setCell ⟨gb273, 1, none⟩ (.int .i64 t271)).setCell ⟨gb273, 2, none⟩ (.int .i64 x9_1)).setCell ⟨gb273, 3, none⟩ (.int .i64 t272)).setCell ⟨gb273, 4, none⟩ (.int .i64 0)).setCell ⟨gb273, 5, none⟩ (.int .i64 0)) = w10 at n0_ n1_ n2_ ⊢
   have HO_7 := n0_
   have K273 := n1_
   have HB := n2_
   clear n0_ n1_ n2_
   replace HO_7 := As0 (Kd.R_drew HO_7.out)
   replace K273 := As0 (Qbr K273.out)
   replace HB := As0 (bd1 HB.out)
   refine Qcb (n := 6) (S := fun w' => w'.cell? ⟨gb273, 0, none⟩ = some (.int .i64 x8_1) ∧ w'.cell? ⟨gb273, 1, none⟩ = some (.int .i64 t271) ∧ w'.cell? ⟨gb273, 2, none⟩ = some (.int .i64 x9_1) ∧ w'.cell? ⟨gb273, 3, none⟩ = some (.int .i64 t272) ∧ w'.cell? ⟨gb273, 4, none⟩ = some (.int .i64 0) ∧ w'.cell? ⟨gb273, 5, none⟩ = some (.int .i64 0)) (ds := []) (bb 6 0) (by kernel_rfl) rfl rfl ⟨bc K273 0, bc K273 1, bc K273 2, bc K273 3, bc K273 4, bc K273 5⟩ (fun hHeld => ?_)
   generalize w10.drew = w11 at HO_7 K273 HB hHeld ⊢
   refine pu 0 20 (bb 6 1) ?_
   refine pu 2 22 (bb 6 5) ?_
   refine tu hHeld 1 21 (bb 6 7) ?_
   refine pu 4 8 (bb 6 23) ?_
   refine tu hHeld 3 23 (bb 6 31) ?_
   refine pu 5 9 (bb 6 63) ?_
   refine Qcy (by kernel_rfl) ?_
   go_upto_region 5 with (fail)
   go_cut [33] (fun v33 wc => ∃ (kq : Nat) (x33_4 : Bool), v33 = .bool x33_4 ∧ Qbk (Qal.j1 kq l0 l1 x7_1 t271 t272 x33_4 x8_1 t271 x9_1 t272 0 0 = some (r1, r2, r3)) ∧ Qbk (kq ≤ k1) ∧ Qbk (Kd.R k180 180 wc w.heap.size (fun k_ => k_ ≠ gb273) u7 x7_1) ∧ Qbk (wc.heap[gb273]? = some (.cells #[.int .i64 x8_1, .int .i64 t271, .int .i64 x9_1, .int .i64 t272, .int .i64 0, .int .i64 0] 180 (0, 0))) ∧ Qbk (Below w.heap.size w wc))
   case first =>
    have H := C5.out
    clear C5
    by_cases c12 : t271 = (l0.length : Int)
    rotate_left
    ·rw [if_neg c12] at H
     have c12b0 : (t271 == (l0.length : Int)) = false := beq_eq_false_iff_ne.mpr c12
     have c12b1 : (t271 != (l0.length : Int)) = true := bne_iff_ne.mpr c12
     (first | rw [c12b0] | (simp only [Qbu, Qbv]; rw [c12b0]) | skip)
     have H' := As0 H
     clear H
     go_wp2
     go_meet
     case rel => exact ⟨_, (false), eR, H', ⟨by have := HK1.out; first | omega | exact Nat.le_refl _⟩, ⟨RU HO_7.out⟩, ⟨bU K273.out⟩, ⟨BU HB.out⟩⟩
    rw [if_pos c12] at H
    have c12b0 : (t271 == (l0.length : Int)) = true := beq_iff_eq.mpr c12
    have c12b1 : (t271 != (l0.length : Int)) = false := bne_eq_false_iff_eq.mpr c12
    clear c12
    (first | rw [c12b0] | (simp only [Qbu, Qbv]; rw [c12b0]) | skip)
    have H' := As0 H
    clear H
    go_wp2
    go_meet
    case rel => exact ⟨_, ((t272 == (l1.length : Int))), eR, H', ⟨by have := HK1.out; first | omega | exact Nat.le_refl _⟩, ⟨RU HO_7.out⟩, ⟨bU K273.out⟩, ⟨BU HB.out⟩⟩
   case rest =>
    clear C5
    obtain ⟨kq, x33_4, rfl, HA, HJ4, HO_7, K273, HB⟩ := hcut
    cases kq with
    | zero => exact absurd HA.out (by simp [Qal.j1])
    | succ kj4 =>
     have H := HA.out
     clear HA
     simp only [Qal.j1] at H
     by_cases c13 : x33_4 = true
     ·subst c13
      rw [if_pos rfl] at H
      by_cases c14 : x7_1.length < 2932031007402
      rotate_left
      ·rw [if_neg c14] at H
       exact absurd H (by simp)
      rw [if_pos c14] at H
      have LMc14 := As0 c14
      clear c14
      obtain ⟨y274, hy274⟩ : ∃ y_ : List (S180), y_ = (x7_1 ++ [(⟨x8_1, t271, x9_1, t272, (-1), (-1)⟩ : S180)]) := ⟨_, rfl⟩
      replace H : (some (y274, t272, 0)) = some (r1, r2, r3) := by first | (rw [hy274]; exact H) | exact H
      have Ny274 := As0 hy274
      clear hy274
      simp only [Option.some.injEq, Prod.mk.injEq] at H
      obtain ⟨rfl, rfl, rfl⟩ := H
      have q15_ := cN6 K273.out
      go_wp2_with (first | ((with_reducible refine Qce (b := .append) (xs := #[.tmp 36, .tmp 38]) rfl ?_); (try (refine Qcm (by rfl) ?_; dsimp only)); at_builtin; refine Kd.R_append k180 (w0 := w) w.heap.size rfl (.tmp 36) (.tmp 38) 121 180 (.agg #[(.int .i64 0), (.int .i64 0), (.int .i64 0), (.int .i64 0), (.int .i64 0), (.int .i64 0)]) 48 rfl Tryz.underlying121 info180 rfl (by decide) (by omega) u7 x7_1 (⟨x8_1, t271, x9_1, t272, (-1), (-1)⟩ : S180) [.int .i64 x8_1, .int .i64 t271, .int .i64 x9_1, .int .i64 t272, .int .i64 (-1), .int .i64 (-1)] (fun k_ => k_ ≠ gb273) (fun _ => False) rfl (by first | (go_simp; done) | (go_simp; rfl)) ?aP (fun _ hk => hk.elim) ?aF ?aO ?aB ?aS ?aL ?_; (case aP => exact k180_mkM _ _ _ (⟨x8_1, t271, x9_1, t272, (-1), (-1)⟩ : S180)); (case aB => exact (BU HB.out)); (case aF => exact (fun k_ hk => Kd.freshB (g := gb273) (o := .cells #[.int .i64 x8_1, .int .i64 t271, .int .i64 x9_1, .int .i64 t272, .int .i64 (-1), .int .i64 (-1)] 180 (0, 0)) (kV K273) k_ hk)); (case aO => exact (RU (Kd.R_mono (RF gb273 5 (RF gb273 4 (Kd.R_mono HO_7.out (fun k_ hk => (⟨hk, hk⟩ : _ ∧ k_ ≠ gb273))) (.int .i64 (-1))) (.int .i64 (-1))) (fun _ hk => hk.1)))); (case aS => exact (Qbm (BU HB.out))); (case aL => have := LMc14.out; omega); intro v275 w16 ho hb hg hat; rw [← Ny274.out] at ho; replace K273 := As0 (Qbx (g := gb273) (o := .cells #[.int .i64 x8_1, .int .i64 t271, .int .i64 x9_1, .int .i64 t272, .int .i64 (-1), .int .i64 (-1)] 180 (0, 0)) (kV K273) hg (Kd.R_away HO_7.out (fun _ hk => hk))); replace HB := As0 (hb); have O276 := As0 (ho); clear HO_7 ho hb hg hat))
      go_ret3
      exact ⟨_, by first | rfl | (simp [Qbe, Qbd] <;> rfl) | (simp [*, Qbe, Qbd] <;> rfl), RU (Kd.R_mono O276.out (fun _ hk => trivial)), BU HB.out⟩
     replace c13 := Bool.eq_false_iff.mpr c13
     subst c13
     rw [if_neg bF] at H
     have C17 := As0 H
     clear H
     go_upto_region 8 with (fail)
     go_cut [62] (fun v62 wc => ∃ (kq : Nat) (x62_16 : Bool), v62 = .bool x62_16 ∧ Qbk (Qal.j2 kq l0 l1 x7_1 t271 t272 x62_16 x8_1 t271 x9_1 t272 0 0 = some (r1, r2, r3)) ∧ Qbk (kq ≤ kj4) ∧ Qbk (Kd.R k180 180 wc w.heap.size (fun k_ => k_ ≠ gb273) u7 x7_1) ∧ Qbk (wc.heap[gb273]? = some (.cells #[.int .i64 x8_1, .int .i64 t271, .int .i64 x9_1, .int .i64 t272, .int .i64 0, .int .i64 0] 180 (0, 0))) ∧ Qbk (Below w.heap.size w wc))
     case first =>
      have H := C17.out
      clear C17
      by_cases c18 : t271 = (l0.length : Int)
      ·rw [if_pos c18] at H
       have c18b0 : (t271 == (l0.length : Int)) = true := beq_iff_eq.mpr c18
       have c18b1 : (t271 != (l0.length : Int)) = false := bne_eq_false_iff_eq.mpr c18
       clear c18
       (first | rw [c18b0] | (simp only [Qbu, Qbv]; rw [c18b0]) | skip)
       have H' := As0 H
       clear H
       try go_wp2
       replace HO_7 := As0 (Kd.R_drew HO_7.out)
       replace K273 := As0 (Qbr K273.out)
       replace HB := As0 (bd1 HB.out)
       refine Qcb (n := 22) (S := fun w' => True) (ds := []) (bb 22 0) (by kernel_rfl) rfl rfl trivial (fun hHeld => ?_); refine Qca Qal.tab8 Qal.bits8 (fun HT_ HW_ => ?_)
       generalize wc.drew = w19 at HO_7 K273 HB hHeld ⊢
       refine pv HT_.out 0 41 (bb 22 1) ?_
       refine pv HT_.out 1 42 (bb 22 3) ?_
       refine pv HT_.out 2 43 (bb 22 7) ?_
       refine pv HT_.out 3 44 (bb 22 15) ?_
       refine pv HT_.out 4 45 (bb 22 31) ?_
       refine py HT_.out 5 46 (bb 22 63) ?_
       refine py HT_.out 6 47 (bb 22 127) ?_
       refine py HT_.out 7 48 (bb 22 255) ?_
       refine py HT_.out 8 49 (bb 22 511) ?_
       refine pv HT_.out 9 50 (bb 22 1023) ?_
       refine pv HT_.out 10 51 (bb 22 2047) ?_
       refine py HT_.out 11 52 (bb 22 4095) ?_
       refine py HT_.out 12 53 (bb 22 8191) ?_
       refine py HT_.out 13 54 (bb 22 16383) ?_
       refine py HT_.out 14 55 (bb 22 32767) ?_
       refine py HT_.out 15 56 (bb 22 65535) ?_
       refine py HT_.out 16 57 (bb 22 131071) ?_
       refine py HT_.out 17 58 (bb 22 262143) ?_
       refine py HT_.out 18 59 (bb 22 524287) ?_
       refine py HT_.out 19 60 (bb 22 1048575) ?_
       refine py HT_.out 20 61 (bb 22 2097151) ?_
       refine pv HT_.out 21 62 (bb 22 4194303) ?_
       refine Qcy (Qco HT_.out (by kernel_rfl)) ?_
       try go_wp2
       go_meet
       case rel => exact ⟨_, (true), eR, H', ⟨by have := HK1.out; have := HJ4.out; first | omega | exact Nat.le_refl _⟩, ⟨RU HO_7.out⟩, ⟨bU K273.out⟩, ⟨BU HB.out⟩⟩
      rw [if_neg c18] at H
      have c18b0 : (t271 == (l0.length : Int)) = false := beq_eq_false_iff_ne.mpr c18
      have c18b1 : (t271 != (l0.length : Int)) = true := bne_iff_ne.mpr c18
      (first | rw [c18b0] | (simp only [Qbu, Qbv]; rw [c18b0]) | skip)
      by_cases c20 : t272 = (l1.length : Int)
      ·rw [if_pos c20] at H
       have c20b0 : (t272 == (l1.length : Int)) = true := beq_iff_eq.mpr c20
       have c20b1 : (t272 != (l1.length : Int)) = false := bne_eq_false_iff_eq.mpr c20
       clear c20
       have H' := As0 H
       clear H
       try go_wp2
       replace HO_7 := As0 (Kd.R_drew HO_7.out)
       replace K273 := As0 (Qbr K273.out)
       replace HB := As0 (bd1 HB.out)
       refine Qcb (n := 22) (S := fun w' => True) (ds := []) (bb 22 0) (by kernel_rfl) rfl rfl trivial (fun hHeld => ?_); refine Qca Qal.tab8 Qal.bits8 (fun HT_ HW_ => ?_)
       generalize wc.drew = w21 at HO_7 K273 HB hHeld ⊢
       refine pv HT_.out 0 41 (bb 22 1) ?_
       refine pv HT_.out 1 42 (bb 22 3) ?_
       refine pv HT_.out 2 43 (bb 22 7) ?_
       refine pv HT_.out 3 44 (bb 22 15) ?_
       refine pv HT_.out 4 45 (bb 22 31) ?_
       refine pv HT_.out 5 46 (bb 22 63) ?_
       refine pv HT_.out 6 47 (bb 22 127) ?_
       refine pv HT_.out 7 48 (bb 22 255) ?_
       refine pv HT_.out 8 49 (bb 22 511) ?_
       refine pv HT_.out 9 50 (bb 22 1023) ?_
       refine pv HT_.out 10 51 (bb 22 2047) ?_
       refine py HT_.out 11 52 (bb 22 4095) ?_
       refine py HT_.out 12 53 (bb 22 8191) ?_
       refine py HT_.out 13 54 (bb 22 16383) ?_
       refine py HT_.out 14 55 (bb 22 32767) ?_
       refine py HT_.out 15 56 (bb 22 65535) ?_
       refine py HT_.out 16 57 (bb 22 131071) ?_
       refine py HT_.out 17 58 (bb 22 262143) ?_
       refine py HT_.out 18 59 (bb 22 524287) ?_
       refine py HT_.out 19 60 (bb 22 1048575) ?_
       refine py HT_.out 20 61 (bb 22 2097151) ?_
       refine pv HT_.out 21 62 (bb 22 4194303) ?_
       refine Qcy (Qco HT_.out (by kernel_rfl)) ?_
       try go_wp2
       go_meet
       case rel => exact ⟨_, (true), eR, H', ⟨by have := HK1.out; have := HJ4.out; first | omega | exact Nat.le_refl _⟩, ⟨RU HO_7.out⟩, ⟨bU K273.out⟩, ⟨BU HB.out⟩⟩
      rw [if_neg c20] at H
      have c20b0 : (t272 == (l1.length : Int)) = false := beq_eq_false_iff_ne.mpr c20
      have c20b1 : (t272 != (l1.length : Int)) = true := bne_iff_ne.mpr c20
      by_cases c22 : 0 ≤ t271
      rotate_left
      ·rw [if_neg c22] at H
       exact absurd H (by simp)
      rw [if_pos c22] at H
      have c22b0 := decide_eq_true c22
      clear c22
      by_cases c23 : t271 < (l0.length : Int)
      rotate_left
      ·rw [if_neg c23] at H
       exact absurd H (by simp)
      rw [if_pos c23] at H
      have c23b0 := decide_eq_true c23
      clear c23
      by_cases c24 : 0 ≤ t272
      rotate_left
      ·rw [if_neg c24] at H
       exact absurd H (by simp)
      rw [if_pos c24] at H
      have c24b0 := decide_eq_true c24
      clear c24
      by_cases c25 : t272 < (l1.length : Int)
      rotate_left
      ·rw [if_neg c25] at H
       exact absurd H (by simp)
      rw [if_pos c25] at H
      have c25b0 := decide_eq_true c25
      clear c25
      replace H := Option.bind_eq_some_iff.mp H
      obtain ⟨t279, A260, H⟩ := H
      have A26 := As0 A260
      clear A260
      have H' := As0 H
      clear H
      try go_wp2
      replace HO_7 := As0 (Kd.R_drew HO_7.out)
      replace K273 := As0 (Qbr K273.out)
      replace HB := As0 (bd1 HB.out)
      have p277 : 0 ≤ (t271 : Int) := qR
      have q277 : t271 < (l0.length : Int) := qR
      obtain ⟨ad277, e277, hx277_0, hx277_1, hx277_2, hx277_3, hx277_4⟩ := at_T41 R0.out t271 p277 q277
      have hw277_4 := hx277_4
      have hw277_3 := hx277_3
      have hw277_2 := hx277_2
      have hw277_1 := hx277_1
      have hw277_0 := hx277_0
      cases e277
      replace hx277_0 := cl HB hx277_0
      replace hx277_1 := cl HB hx277_1
      replace hx277_2 := cl HB hx277_2
      replace hx277_3 := cl HB hx277_3
      replace hx277_4 := cl HB hx277_4
      replace p277 := eq_true p277
      replace q277 := eq_true q277
      have p278 : 0 ≤ (t272 : Int) := qR
      have q278 : t272 < (l1.length : Int) := qR
      obtain ⟨ad278, e278, hx278_0, hx278_1, hx278_2, hx278_3, hx278_4, hx278_5, hx278_6⟩ := at_T59 R1.out t272 p278 q278
      have hw278_6 := hx278_6
      have hw278_5 := hx278_5
      have hw278_4 := hx278_4
      have hw278_3 := hx278_3
      have hw278_2 := hx278_2
      have hw278_1 := hx278_1
      have hw278_0 := hx278_0
      cases e278
      replace hx278_0 := cl HB hx278_0
      replace hx278_1 := cl HB hx278_1
      replace hx278_2 := cl HB hx278_2
      replace hx278_3 := cl HB hx278_3
      replace hx278_4 := cl HB hx278_4
      replace hx278_5 := cl HB hx278_5
      replace hx278_6 := cl HB hx278_6
      replace p278 := eq_true p278
      replace q278 := eq_true q278
      refine Qcb (n := 22) (S := fun w' => w'.cell? (ad277.add ((t271).toNat * 5)) = some (.int .i64 ((Qav l0 t271).f0)) ∧ w'.cell? ⟨(ad277.add ((t271).toNat * 5)).block, (ad277.add ((t271).toNat * 5)).off + 1, none⟩ = some (.int .i64 ((Qav l0 t271).f1)) ∧ w'.cell? ⟨(ad277.add ((t271).toNat * 5)).block, (ad277.add ((t271).toNat * 5)).off + 2, none⟩ = some (.int .i64 ((Qav l0 t271).f2)) ∧ w'.cell? ⟨(ad277.add ((t271).toNat * 5)).block, (ad277.add ((t271).toNat * 5)).off + 3, none⟩ = some (.int .i64 ((Qav l0 t271).f3)) ∧ w'.cell? ⟨(ad277.add ((t271).toNat * 5)).block, (ad277.add ((t271).toNat * 5)).off + 4, none⟩ = some (.int .i64 ((Qav l0 t271).f4)) ∧ w'.cell? (ad278.add ((t272).toNat * 7)) = some (.int .i64 ((Qag l1 t272).f0)) ∧ w'.cell? ⟨(ad278.add ((t272).toNat * 7)).block, (ad278.add ((t272).toNat * 7)).off + 1, none⟩ = some (.int .i64 ((Qag l1 t272).f1)) ∧ w'.cell? ⟨(ad278.add ((t272).toNat * 7)).block, (ad278.add ((t272).toNat * 7)).off + 2, none⟩ = some (.int .i64 ((Qag l1 t272).f2)) ∧ w'.cell? ⟨(ad278.add ((t272).toNat * 7)).block, (ad278.add ((t272).toNat * 7)).off + 3, none⟩ = some (.int .i64 ((Qag l1 t272).f3)) ∧ w'.cell? ⟨(ad278.add ((t272).toNat * 7)).block, (ad278.add ((t272).toNat * 7)).off + 4, none⟩ = some (.int .i64 ((Qag l1 t272).f4)) ∧ w'.cell? ⟨(ad278.add ((t272).toNat * 7)).block, (ad278.add ((t272).toNat * 7)).off + 5, none⟩ = some (.int .i64 ((Qag l1 t272).f5)) ∧ w'.cell? ⟨(ad278.add ((t272).toNat * 7)).block, (ad278.add ((t272).toNat * 7)).off + 6, none⟩ = some (.int .i64 ((Qag l1 t272).f6))) (ds := []) (bb 22 0) (by kernel_rfl) rfl rfl ⟨(cl HB hw277_0), (cl HB hw277_1), (cl HB hw277_2), (cl HB hw277_3), (cl HB hw277_4), (cl HB hw278_0), (cl HB hw278_1), (cl HB hw278_2), (cl HB hw278_3), (cl HB hw278_4), (cl HB hw278_5), (cl HB hw278_6)⟩ (fun hHeld => ?_); refine Qca Qal.tab8 Qal.bits8 (fun HT_ HW_ => ?_)
      generalize wc.drew = w27 at HO_7 K273 HB hx277_0 hx277_1 hx277_2 hx277_3 hx277_4 hx278_0 hx278_1 hx278_2 hx278_3 hx278_4 hx278_5 hx278_6 hHeld ⊢
      refine pv HT_.out 0 41 (bb 22 1) ?_
      refine pv HT_.out 1 42 (bb 22 3) ?_
      refine pv HT_.out 2 43 (bb 22 7) ?_
      refine pv HT_.out 3 44 (bb 22 15) ?_
      refine pv HT_.out 4 45 (bb 22 31) ?_
      refine pv HT_.out 5 46 (bb 22 63) ?_
      refine pv HT_.out 6 47 (bb 22 127) ?_
      refine pv HT_.out 7 48 (bb 22 255) ?_
      refine pv HT_.out 8 49 (bb 22 511) ?_
      refine pv HT_.out 9 50 (bb 22 1023) ?_
      refine pv HT_.out 10 51 (bb 22 2047) ?_
      refine pv HT_.out 11 52 (bb 22 4095) ?_
      refine pv HT_.out 12 53 (bb 22 8191) ?_
      refine pv HT_.out 13 54 (bb 22 16383) ?_
      refine pv HT_.out 15 56 (bb 22 49151) ?_
      refine pv HT_.out 16 57 (bb 22 114687) ?_
      refine pv HT_.out 17 58 (bb 22 245759) ?_
      refine tv hHeld HT_.out HW_.out 14 55 (bb 22 262143) ?_
      refine tv hHeld HT_.out HW_.out 18 59 (bb 22 524287) ?_
      refine one_ (i := 19) (N := some 60) (bb 22 1048575) rfl rfl (Qcd HT_.out (by kernel_rfl)) (by decide) (fun K hK => ?_)
      refine gG Tryz.func114 #[.agg #[.int .i64 ((Qav l0 t271).f0), .int .i64 ((Qav l0 t271).f1), .int .i64 ((Qav l0 t271).f2), .int .i64 ((Qav l0 t271).f3), .int .i64 ((Qav l0 t271).f4)], .agg #[.int .i64 ((Qag l1 t272).f0), .int .i64 ((Qag l1 t272).f1), .int .i64 ((Qag l1 t272).f2), .int .i64 ((Qag l1 t272).f3), .int .i64 ((Qag l1 t272).f4), .int .i64 ((Qag l1 t272).f5), .int .i64 ((Qag l1 t272).f6)]] ?_
      with_reducible refine (align_Same.calls ((Qav l0 t271).f0) ((Qav l0 t271).f1) ((Qav l0 t271).f2) ((Qav l0 t271).f3) ((Qav l0 t271).f4) ((Qag l1 t272).f0) ((Qag l1 t272).f1) ((Qag l1 t272).f2) ((Qag l1 t272).f3) ((Qag l1 t272).f4) ((Qag l1 t272).f5) ((Qag l1 t272).f6) t279 _ A26.out).mono ?_
      rintro e w28 ⟨rfl, hb⟩
      refine ⟨_, rfl, ?_⟩
      replace HO_7 := As0 (Kd.R_below (RU HO_7.out) hb)
      replace K273 := kB K273 hb
      replace HB := sB HB hb
      (try clear hb)
      (try clear hb2)
      (try clear hk)
      (try clear hi)
      refine hK.out _ _ ⟨(cl HB hw277_0), (cl HB hw277_1), (cl HB hw277_2), (cl HB hw277_3), (cl HB hw277_4), (cl HB hw278_0), (cl HB hw278_1), (cl HB hw278_2), (cl HB hw278_3), (cl HB hw278_4), (cl HB hw278_5), (cl HB hw278_6)⟩ (fun hHeld => ?_)
      clear hK K
      refine Qb1 (a' := ?_) ?_ ?_
      rotate_left
      ·show Act.put _ (some 60) _ = _
       simp only [Act.put, sL1, sL2, sL3, Qbu, Qbv]
       rfl
      refine pv HT_.out 20 61 (bb 22 2097151) ?_
      refine pv HT_.out 21 62 (bb 22 4194303) ?_
      refine Qcy (Qco HT_.out (by kernel_rfl)) ?_
      try go_wp2
      go_meet
      case rel => exact ⟨_, (!t279), eR, H', ⟨by have := HK1.out; have := HJ4.out; first | omega | exact Nat.le_refl _⟩, ⟨RU HO_7.out⟩, ⟨bU K273.out⟩, ⟨BU HB.out⟩⟩
     case rest =>
      clear C17
      obtain ⟨kq, x62_16, rfl, HA, HJ16, HO_7, K273, HB⟩ := hcut
      cases kq with
      | zero => exact absurd HA.out (by simp [Qal.j2])
      | succ kj16 =>
       have H := HA.out
       clear HA
       simp only [Qal.j2] at H
       by_cases c29 : x62_16 = true
       ·subst c29
        rw [if_pos rfl] at H
        simp only [Option.some.injEq, Prod.mk.injEq] at H
        obtain ⟨rfl, rfl, rfl⟩ := H
        go_wp2
        go_ret3
        exact ⟨_, by first | rfl | (simp [Qbe, Qbd] <;> rfl) | (simp [*, Qbe, Qbd] <;> rfl), by first | exact Kd.R_nil _ _ _ _ _ | exact Kd.N_nil _ _ _ _ _ | exact Kd.V_nil _ _ _ _ _ | exact Kd.Q_nil _ _ _ _ _ | exact Kd.S_nil _ _ _ _ _, BU HB.out⟩
       replace c29 := Bool.eq_false_iff.mpr c29
       subst c29
       rw [if_neg bF] at H
       by_cases c30 : x7_1.length < 2932031007402
       rotate_left
       ·rw [if_neg c30] at H
        exact absurd H (by simp)
       rw [if_pos c30] at H
       have LMc30 := As0 c30
       clear c30
       obtain ⟨y280, hy280⟩ : ∃ y_ : List (S180), y_ = (x7_1 ++ [(⟨x8_1, t271, x9_1, t272, t271, t272⟩ : S180)]) := ⟨_, rfl⟩
       replace H : (Qal.l0 kj16 l0 l1 y280 (wrap64 (t271 + 1)) (wrap64 (t272 + 1))) = some (r1, r2, r3) := by first | (rw [hy280]; exact H) | exact H
       have Ny280 := As0 hy280
       clear hy280
       have H' := As0 H
       clear H
       have q31_ := cN6 K273.out
       go_wp2_with (first | ((with_reducible refine Qce (b := .append) (xs := #[.tmp 68, .tmp 70]) rfl ?_); (try (refine Qcm (by rfl) ?_; dsimp only)); at_builtin; refine Kd.R_append k180 (w0 := w) w.heap.size rfl (.tmp 68) (.tmp 70) 121 180 (.agg #[(.int .i64 0), (.int .i64 0), (.int .i64 0), (.int .i64 0), (.int .i64 0), (.int .i64 0)]) 48 rfl Tryz.underlying121 info180 rfl (by decide) (by omega) u7 x7_1 (⟨x8_1, t271, x9_1, t272, t271, t272⟩ : S180) [.int .i64 x8_1, .int .i64 t271, .int .i64 x9_1, .int .i64 t272, .int .i64 t271, .int .i64 t272] (fun k_ => k_ ≠ gb273) (fun _ => False) rfl (by first | (go_simp; done) | (go_simp; rfl)) ?aP (fun _ hk => hk.elim) ?aF ?aO ?aB ?aS ?aL ?_; (case aP => exact k180_mkM _ _ _ (⟨x8_1, t271, x9_1, t272, t271, t272⟩ : S180)); (case aB => exact (BU HB.out)); (case aF => exact (fun k_ hk => Kd.freshB (g := gb273) (o := .cells #[.int .i64 x8_1, .int .i64 t271, .int .i64 x9_1, .int .i64 t272, .int .i64 t271, .int .i64 t272] 180 (0, 0)) (kV K273) k_ hk)); (case aO => exact (RU (Kd.R_mono (RF gb273 5 (RF gb273 4 (Kd.R_mono HO_7.out (fun k_ hk => (⟨hk, hk⟩ : _ ∧ k_ ≠ gb273))) (.int .i64 t271)) (.int .i64 t272)) (fun _ hk => hk.1)))); (case aS => exact (Qbm (BU HB.out))); (case aL => have := LMc30.out; omega); intro v281 w32 ho hb hg hat; rw [← Ny280.out] at ho; replace K273 := As0 (Qbx (g := gb273) (o := .cells #[.int .i64 x8_1, .int .i64 t271, .int .i64 x9_1, .int .i64 t272, .int .i64 t271, .int .i64 t272] 180 (0, 0)) (kV K273) hg (Kd.R_away HO_7.out (fun _ hk => hk))); replace HB := As0 (hb); have O282 := As0 (ho); clear HO_7 ho hb hg hat))
       go_roundg kj16
       case measure => have := HK1.out; have := HJ4.out; have := HJ16.out; omega
       case rel => exact ⟨(y280), (wrap64 (t271 + 1)), (wrap64 (t272 + 1)), eR, eR, H', ⟨by have := HK1.out; have := HJ4.out; have := HJ16.out; omega⟩, ⟨RU (Kd.R_mono O282.out (fun _ hk => trivial))⟩, ⟨BU HB.out⟩⟩
def align_Terms.f (a0_0 a0_1 a0_2 a0_3 a1_0 a1_1 a1_2 a1_3 : Int) : Option (Bool) := if a0_0 = a1_0 then (if a0_2 = a1_2 then (some (a0_3 == a1_3)) else (some false)) else (some false)
theorem align_Terms.calls (a0_0 a0_1 a0_2 a0_3 a1_0 a1_1 a1_2 a1_3 : Int) (r : Bool) (w : World) (h : align_Terms.f a0_0 a0_1 a0_2 a0_3 a1_0 a1_1 a1_2 a1_3 = some r) :
 Calls Tryz.prog 64 #[.agg #[.int .i64 a0_0, .int .i64 a0_1, .int .i64 a0_2, .int .i64 a0_3], .agg #[.int .i64 a1_0, .int .i64 a1_1, .int .i64 a1_2, .int .i64 a1_3]] w fun e w' => e = .returned (.bool r) ∧ Below w.heap.size w w' := by
 have hu37 := Tryz.underlying37
 have HB := As0 (Below.refl w.heap.size w)
 have H : (if a0_0 = a1_0 then (if a0_2 = a1_2 then (some (a0_3 == a1_3)) else (some false)) else (some false)) = some r := h
 clear h
 by_cases c3 : a0_0 = a1_0
 rotate_left
 ·rw [if_neg c3] at H
  have c3b0 : (a0_0 == a1_0) = false := beq_eq_false_iff_ne.mpr c3
  have c3b1 : (a0_0 != a1_0) = true := bne_iff_ne.mpr c3
  obtain rfl := Option.some.inj H
  go_enter Tryz.func64, Tryz.ntmps64
  go_wp2_with (first | ((with_reducible refine gD 2 ?_); refine bY HB.out ?_; intro gb283 w15 hg hb K283 GW283 HB; clear hb hg) | ((with_reducible refine gD 3 ?_); refine bY HB.out ?_; intro gb284 w16 hg hb K284 GW284 HB; have N283_284 := pL hg K283; have N284_283 := pR hg K283; replace K283 := kB K283 hb; clear hb hg; have q18_ := cN4 K283.out; have q19_ := cN4 K284.out))
  go_ret
  exact ⟨oR, BU HB.out⟩
 rw [if_pos c3] at H
 have c3b0 : (a0_0 == a1_0) = true := beq_iff_eq.mpr c3
 have c3b1 : (a0_0 != a1_0) = false := bne_eq_false_iff_eq.mpr c3
 clear c3
 by_cases c4 : a0_2 = a1_2
 rotate_left
 ·rw [if_neg c4] at H
  have c4b0 : (a0_2 == a1_2) = false := beq_eq_false_iff_ne.mpr c4
  have c4b1 : (a0_2 != a1_2) = true := bne_iff_ne.mpr c4
  obtain rfl := Option.some.inj H
  go_enter Tryz.func64, Tryz.ntmps64
  go_wp2_with (first | ((with_reducible refine gD 2 ?_); refine bY HB.out ?_; intro gb283 w10 hg hb K283 GW283 HB; clear hb hg) | ((with_reducible refine gD 3 ?_); refine bY HB.out ?_; intro gb284 w11 hg hb K284 GW284 HB; have N283_284 := pL hg K283; have N284_283 := pR hg K283; replace K283 := kB K283 hb; clear hb hg; have q13_ := cN4 K283.out; have q14_ := cN4 K284.out))
  go_ret
  exact ⟨oR, BU HB.out⟩
 rw [if_pos c4] at H
 have c4b0 : (a0_2 == a1_2) = true := beq_iff_eq.mpr c4
 have c4b1 : (a0_2 != a1_2) = false := bne_eq_false_iff_eq.mpr c4
 clear c4
 obtain rfl := Option.some.inj H
 go_enter Tryz.func64, Tryz.ntmps64
 go_wp2_with (first | ((with_reducible refine gD 2 ?_); refine bY HB.out ?_; intro gb283 w5 hg hb K283 GW283 HB; clear hb hg) | ((with_reducible refine gD 3 ?_); refine bY HB.out ?_; intro gb284 w6 hg hb K284 GW284 HB; have N283_284 := pL hg K283; have N284_283 := pR hg K283; replace K283 := kB K283 hb; clear hb hg; have q8_ := cN4 K283.out; have q9_ := cN4 K284.out))
 go_ret
 exact ⟨oR, BU HB.out⟩
theorem cell_al {w : World} {p : Addr} {v : Value} (h : w.cell? p = some v) (o : Obj) : (w.alloc o).cell? p = some v := ((Qb2 (Below.refl w.heap.size w) o).cell (wblt w h)).trans h
theorem C47_on {w w' : World} {A : Option Addr} {l : List S47} (hC : Kd.C k47 w A l.length l) (h : ∀ ad, A = some ad → w'.heap[ad.block]? = w.heap[ad.block]?) : Kd.C k47 w' A l.length l := by
 obtain ⟨h1, h2, h3⟩ := hC
 refine ⟨h1, h2, fun hn => ?_⟩
 obtain ⟨ad, rfl, hc⟩ := h3 hn
 have hbl : ∀ n, (ad.add n).block = ad.block := fun n => by unfold Addr.add; split <;> rfl
 refine ⟨ad, rfl, fun j p hj => ?_⟩
 obtain ⟨c, hs, hK, hcell⟩ := hc j p hj
 obtain rfl := k47_open hK
 refine ⟨_, hs, k47_mk w' p, fun i u hu => ?_⟩
 exact (World.cell?_of_block (by rw [hbl]; exact h ad rfl)).trans (hcell i u hu)
def okF (n : Int) (x : Bs × Pan) : S87 := ⟨if (whyOf n x.2).1 = 0 then x.1.set else [], (whyOf n x.2).1, (whyOf n x.2).2, x.1.steps, x.1.largest⟩
def goF (k : Nat) (bc : List S41) (mc : List S59) (bt mt : S37) (rows : List S180) (inv : List S47) (most : Int) : Option S87 :=
 if inv.length < 8796093022208 ∧ Asc inv then (runF k bc mc bt mt rows ⟨inv, most, 0, (inv.length : Int)⟩).bind fun x => some (okF (mc.length : Int) x) else none
def Qda (k : Nat) (bc : List S41) (mc : List S59) (bt mt : S37) (inv : List S47) (most : Int) : Option S87 :=
 if (inv.length : Int) > most then some ⟨[], 24, 0, 0, (inv.length : Int)⟩
 else (Qal.f k bc mc).bind fun p => if p.2.2 = 0 then (align_Terms.f bt.f0 bt.f1 bt.f2 bt.f3 mt.f0 mt.f1 mt.f2 mt.f3).bind fun t => if t = true then goF k bc mc bt mt p.1 inv most else some ⟨[], 20, p.2.1, 0, (inv.length : Int)⟩
  else some ⟨[], p.2.2, p.2.1, 0, (inv.length : Int)⟩
def BlkPost (w : World) (r : S87) (e : Ending) (w' : World) : Prop := ∃ A c, e = .returned (.agg #[.slice A r.f0.length c, .int .i64 r.f1, .int .i64 r.f2, .int .i64 r.f3, .int .i64 r.f4]) ∧ r.f0.length ≤ c ∧ Kd.C k47 w' A r.f0.length r.f0 ∧ Ty w' A ∧ Below w.heap.size w w'
theorem block_calls (k : Nat) (A0 : Option Addr) (c0 : Nat) (bc : List S41) (bt : S37) (A1 : Option Addr) (c1 : Nat) (mc : List S59) (mt : S37) (A2 : Option Addr) (c2 : Nat) (inv : List S47) (most : Int) (r : S87) (w : World)
    (h0 : Kd.C k41 w A0 bc.length bc) (hc0 : bc.length ≤ c0) (h1 : Kd.C k59 w A1 mc.length mc) (hc1_ : mc.length ≤ c1) (h2 : Kd.C k47 w A2 inv.length inv) (hf : Qda k bc mc bt mt inv most = some r) :
    Calls Tryz.prog 33 #[.agg #[.slice A0 bc.length c0, .int .i64 bt.f0, .int .i64 bt.f1, .int .i64 bt.f2, .int .i64 bt.f3], .agg #[.slice A1 mc.length c1, .int .i64 mt.f0, .int .i64 mt.f1, .int .i64 mt.f2, .int .i64 mt.f3], .slice A2 inv.length c2, .int .i64 most] w (BlkPost w r) := by
 have hu35 := Tryz.underlying35
 have hu37 := Tryz.underlying37
 have hu39 := Tryz.underlying39
 have hu41 := Tryz.underlying41
 have hu44 := Tryz.underlying44
 have hu49 := Tryz.underlying49
 have hu54 := Tryz.underlying54
 have hu57 := Tryz.underlying57
 have hu59 := Tryz.underlying59
 have hu87 := Tryz.underlying87
 have hu121 := Tryz.underlying121
 have hu128 := Tryz.underlying128
 have hu180 := Tryz.underlying180
 have H0 := As0 h0
 have H1 := As0 h1
 have H2 := As0 h2
 have HB := As0 (Below.refl w.heap.size w)
 clear h0 h1 h2
 unfold Qda at hf
 by_cases hm : (inv.length : Int) > most
 ·rw [if_pos hm] at hf
  obtain rfl := Option.some.inj hf
  go_enter Tryz.func33, Tryz.ntmps33
  go_wp2_with (first
   | ((with_reducible refine gD 4 ?_); refine bX ?_; intro gB hg w1 hbox hb; have B := As0 hbox; have GB := As0 (by rw [hg]; exact Qbm (BU HB.out) : w.heap.size ≤ gB); skip; replace HB := sB HB hb; clear hb hbox hg)
   | ((with_reducible refine gD 5 ?_); refine bX ?_; intro gM hg w2 hbox hb; have M := As0 hbox; have GM := As0 (by rw [hg]; exact Qbm (BU HB.out) : w.heap.size ≤ gM); replace B := As0 (Qbl B.out hb); replace HB := sB HB hb; clear hb hbox hg)
   | ((with_reducible refine gD 8 ?_); refine bX ?_; intro gO hg w3 hbox hb; have O := As0 hbox; have GO := As0 (by rw [hg]; exact Qbm (BU HB.out) : w.heap.size ≤ gO); replace B := As0 (Qbl B.out hb); replace M := As0 (Qbl M.out hb); replace HB := sB HB hb; (obtain ⟨b0, b1, b2, b3, b4, bf0, bf1, bf2, bf3, bf4⟩ := cN5 B.out); (obtain ⟨m0, m1, m2, m3, m4, mf0, mf1, mf2, mf3, mf4⟩ := cN5 M.out); clear hb hbox hg)
   | ((with_reducible refine Qdb (.store 87 (.tmp 8) (.tmp 20)) rfl ?_); go_loud (refine Qau rfl rfl 87 _ _ rfl gO #[.slice none 0 0, .int .i64 24, .int .i64 0, .int .i64 0, .int .i64 (inv.length : Int)] rfl rfl 87 #[.slice none 0 0, .int .i64 0, .int .i64 0, .int .i64 0, .int .i64 0] (bU O.out) (by kernel_rfl) rfl (by kernel_rfl) ?_); intro w6 hg ho hB; replace HB := As0 (hB _ _ GO.out (BU HB.out)); replace O := As0 hg; clear hg ho hB))
  exact bodyPost_ret (results_cell_row rfl _ _ gO 87 #[.slice none 0 0, .int .i64 24, .int .i64 0, .int .i64 0, .int .i64 (inv.length : Int)] (0, 0) _ rfl (bU O.out) hu87 rfl (by kernel_rfl)) rfl ⟨none, 0, rfl, Nat.le_refl _, Kd.C_nil _ _, fun ad e => (by cases e), BU HB.out⟩
 ·rw [if_neg hm] at hf
  obtain ⟨⟨rows, pa, pw⟩, ha, hx⟩ := Option.bind_eq_some_iff.mp hf
  clear hf
  by_cases hp : pw = 0
  ·rw [if_pos hp] at hx
   subst hp
   obtain ⟨tt, ht, hx⟩ := Option.bind_eq_some_iff.mp hx
   cases tt with
   | false =>
    obtain rfl := Option.some.inj (show some _ = some r from hx)
    go_enter Tryz.func33, Tryz.ntmps33
    go_wp2_with (first
     | ((with_reducible refine gD 4 ?_); refine bX ?_; intro gB hg w1 hbox hb; have B := As0 hbox; have GB := As0 (by rw [hg]; exact Qbm (BU HB.out) : w.heap.size ≤ gB); skip; replace HB := sB HB hb; clear hb hbox hg)
     | ((with_reducible refine gD 5 ?_); refine bX ?_; intro gM hg w2 hbox hb; have M := As0 hbox; have GM := As0 (by rw [hg]; exact Qbm (BU HB.out) : w.heap.size ≤ gM); replace B := As0 (Qbl B.out hb); replace HB := sB HB hb; clear hb hbox hg)
     | ((with_reducible refine gD 8 ?_); refine bX ?_; intro gO hg w3 hbox hb; have O := As0 hbox; have GO := As0 (by rw [hg]; exact Qbm (BU HB.out) : w.heap.size ≤ gO); replace B := As0 (Qbl B.out hb); replace M := As0 (Qbl M.out hb); replace HB := sB HB hb; (obtain ⟨b0, b1, b2, b3, b4, bf0, bf1, bf2, bf3, bf4⟩ := cN5 B.out); (obtain ⟨m0, m1, m2, m3, m4, mf0, mf1, mf2, mf3, mf4⟩ := cN5 M.out); clear hb hbox hg)
     | (go_at_call 63; refine (Qal.calls k A0 c0 bc A1 c1 mc rows pa _ _ (Kd.C_below H0.out (BU HB.out)) hc0 (Kd.C_below H1.out (BU HB.out)) hc1_ ha).mono ?_; rintro e w4 ⟨vr, rfl, ho, hb⟩; have HR := As0 (Kd.R_lower ho (Qbm (BU HB.out))); clear b0 b1 b2 b3 b4 bf0 bf1 bf2 bf3 bf4 m0 m1 m2 m3 m4 mf0 mf1 mf2 mf3 mf4; replace B := As0 (Qbl B.out hb); replace M := As0 (Qbl M.out hb); replace O := As0 (Qbl O.out hb); replace HB := sB HB hb; (obtain ⟨b0, b1, b2, b3, b4, bf0, bf1, bf2, bf3, bf4⟩ := cN5 B.out); (obtain ⟨m0, m1, m2, m3, m4, mf0, mf1, mf2, mf3, mf4⟩ := cN5 M.out); clear ho hb)
     | (go_at_call 64; refine (align_Terms.calls bt.f0 bt.f1 bt.f2 bt.f3 mt.f0 mt.f1 mt.f2 mt.f3 _ _ ht).mono ?_; rintro e w5 ⟨rfl, hb⟩; (try (replace HR := As0 (Kd.R_below (RU HR.out) hb))); clear b0 b1 b2 b3 b4 bf0 bf1 bf2 bf3 bf4 m0 m1 m2 m3 m4 mf0 mf1 mf2 mf3 mf4; replace B := As0 (Qbl B.out hb); replace M := As0 (Qbl M.out hb); replace O := As0 (Qbl O.out hb); replace HB := sB HB hb; (obtain ⟨b0, b1, b2, b3, b4, bf0, bf1, bf2, bf3, bf4⟩ := cN5 B.out); (obtain ⟨m0, m1, m2, m3, m4, mf0, mf1, mf2, mf3, mf4⟩ := cN5 M.out); clear hb)
     | ((with_reducible refine Qdb (.store 87 (.tmp 8) (.tmp 46)) rfl ?_); go_loud (refine Qau rfl rfl 87 _ _ rfl gO #[.slice none 0 0, .int .i64 20, .int .i64 pa, .int .i64 0, .int .i64 (inv.length : Int)] rfl rfl 87 #[.slice none 0 0, .int .i64 0, .int .i64 0, .int .i64 0, .int .i64 0] (bU O.out) (by kernel_rfl) rfl (by kernel_rfl) ?_); intro w6 hg ho hB; replace HB := As0 (hB _ _ GO.out (BU HB.out)); replace O := As0 hg; clear hg ho hB))
    exact bodyPost_ret (results_cell_row rfl _ _ gO 87 #[.slice none 0 0, .int .i64 20, .int .i64 pa, .int .i64 0, .int .i64 (inv.length : Int)] (0, 0) _ rfl (bU O.out) hu87 rfl (by kernel_rfl)) rfl ⟨none, 0, rfl, Nat.le_refl _, Kd.C_nil _ _, fun ad e => (by cases e), BU HB.out⟩
   | true =>
    replace hx : goF k bc mc bt mt rows inv most = some r := hx
    unfold goF at hx
    by_cases hla : inv.length < 8796093022208 ∧ Asc inv
    ·rw [if_pos hla] at hx
     obtain ⟨hlen, hasc⟩ := hla
     obtain ⟨x, hrun, hx⟩ := Option.bind_eq_some_iff.mp hx
     obtain rfl := Option.some.inj hx
     go_enter Tryz.func33, Tryz.ntmps33
     go_wp2_with (first
      | ((with_reducible refine gD 4 ?_); refine bX ?_; intro gB hg w1 hbox hb; have B := As0 hbox; have GB := As0 (by rw [hg]; exact Qbm (BU HB.out) : w.heap.size ≤ gB); skip; replace HB := sB HB hb; clear hb hbox hg)
      | ((with_reducible refine gD 5 ?_); refine bX ?_; intro gM hg w2 hbox hb; have M := As0 hbox; have GM := As0 (by rw [hg]; exact Qbm (BU HB.out) : w.heap.size ≤ gM); replace B := As0 (Qbl B.out hb); replace HB := sB HB hb; clear hb hbox hg)
      | ((with_reducible refine gD 8 ?_); refine bX ?_; intro gO hg w3 hbox hb; have O := As0 hbox; have GO := As0 (by rw [hg]; exact Qbm (BU HB.out) : w.heap.size ≤ gO); replace B := As0 (Qbl B.out hb); replace M := As0 (Qbl M.out hb); replace HB := sB HB hb; (obtain ⟨b0, b1, b2, b3, b4, bf0, bf1, bf2, bf3, bf4⟩ := cN5 B.out); (obtain ⟨m0, m1, m2, m3, m4, mf0, mf1, mf2, mf3, mf4⟩ := cN5 M.out); clear hb hbox hg)
      | (go_at_call 63; refine (Qal.calls k A0 c0 bc A1 c1 mc rows pa _ _ (Kd.C_below H0.out (BU HB.out)) hc0 (Kd.C_below H1.out (BU HB.out)) hc1_ ha).mono ?_; rintro e w4 ⟨vr, rfl, ho, hb⟩; have HR := As0 (Kd.R_lower ho (Qbm (BU HB.out))); clear b0 b1 b2 b3 b4 bf0 bf1 bf2 bf3 bf4 m0 m1 m2 m3 m4 mf0 mf1 mf2 mf3 mf4; replace B := As0 (Qbl B.out hb); replace M := As0 (Qbl M.out hb); replace O := As0 (Qbl O.out hb); replace HB := sB HB hb; (obtain ⟨b0, b1, b2, b3, b4, bf0, bf1, bf2, bf3, bf4⟩ := cN5 B.out); (obtain ⟨m0, m1, m2, m3, m4, mf0, mf1, mf2, mf3, mf4⟩ := cN5 M.out); clear ho hb)
      | (go_at_call 64; refine (align_Terms.calls bt.f0 bt.f1 bt.f2 bt.f3 mt.f0 mt.f1 mt.f2 mt.f3 _ _ ht).mono ?_; rintro e w5 ⟨rfl, hb⟩; (try (replace HR := As0 (Kd.R_below (RU HR.out) hb))); clear b0 b1 b2 b3 b4 bf0 bf1 bf2 bf3 bf4 m0 m1 m2 m3 m4 mf0 mf1 mf2 mf3 mf4; replace B := As0 (Qbl B.out hb); replace M := As0 (Qbl M.out hb); replace O := As0 (Qbl O.out hb); replace HB := sB HB hb; (obtain ⟨b0, b1, b2, b3, b4, bf0, bf1, bf2, bf3, bf4⟩ := cN5 B.out); (obtain ⟨m0, m1, m2, m3, m4, mf0, mf1, mf2, mf3, mf4⟩ := cN5 M.out); clear hb)
      | (go_at_call 65; refine (Qes _ A2 c2 inv (Kd.C_below H2.out (BU HB.out)) hasc hlen).mono ?_; rintro e w6 ⟨vm, rfl, ho, hb⟩; (obtain ⟨A4, c4, e4, hc4, HC4⟩ := Kd.R_reads HR.out); subst e4; replace HR := As0 (Kd.C_below HC4 (Qb5 (BU (Below.refl _ _)) hb)); (obtain ⟨A3, c3, e3, hc3, HC3⟩ := Kd.R_reads ho); subst e3; have HM3 := As0 ho; replace HC3 := As0 HC3; clear b0 b1 b2 b3 b4 bf0 bf1 bf2 bf3 bf4 m0 m1 m2 m3 m4 mf0 mf1 mf2 mf3 mf4; replace B := As0 (Qbl B.out hb); replace M := As0 (Qbl M.out hb); replace O := As0 (Qbl O.out hb); replace HB := sB HB hb; (obtain ⟨b0, b1, b2, b3, b4, bf0, bf1, bf2, bf3, bf4⟩ := cN5 B.out); (obtain ⟨m0, m1, m2, m3, m4, mf0, mf1, mf2, mf3, mf4⟩ := cN5 M.out); clear ho hb HC4)
      | ((with_reducible refine gD 53 ?_); go_loud (refine bX ?_); intro g hg w7 hbox hb; have HK := As0 (show Ck w7 g ⟨inv, most, 0, (inv.length : Int)⟩ from ⟨A3, c3, hbox, hc3, Kd.C_below HC3.out hb, fun ad e => (by subst e; have q := (Kd.R_bound HM3.out).1 ad.block rfl; have q2 := q.2.2.1; omega), (show Ty w6 A3 from fun ad e => (by subst e; obtain ⟨inner, ho⟩ := Kd.R_own HM3.out; exact Qdt ho ad.block rfl)).below hb⟩); have GE := As0 (Nat.le_of_eq hg.symm); have HG := As0 (by rw [hg]; exact Qbm HB.out : w.heap.size ≤ g); have HG6 := As0 hb; have NB := As0 (by have := Qby B.out; omega : gB ≠ g); have NM := As0 (by have := Qby M.out; omega : gM ≠ g); have NO := As0 (by have := Qby O.out; omega : gO ≠ g); have C0 := As0 (Kd.C_below H0.out HB.out); have C1 := As0 (Kd.C_below H1.out HB.out); clear b0 b1 b2 b3 b4 bf0 bf1 bf2 bf3 bf4 m0 m1 m2 m3 m4 mf0 mf1 mf2 mf3 mf4; replace B := As0 (Qbl B.out hb); replace M := As0 (Qbl M.out hb); replace O := As0 (Qbl O.out hb); replace HB := sB HB hb; (obtain ⟨b0, b1, b2, b3, b4, bf0, bf1, bf2, bf3, bf4⟩ := cN5 B.out); (obtain ⟨m0, m1, m2, m3, m4, mf0, mf1, mf2, mf3, mf4⟩ := cN5 M.out); clear hb hbox hg)
      | (go_at_call 66; refine (run_calls k g ⟨inv, most, 0, (inv.length : Int)⟩ A0 c0 bc bt A1 c1 mc mt A4 c4 rows x w6 _ HK.out HG6.out GE.out C0.out hc0 C1.out hc1_ HR.out hrun).mono ?_; rintro e w8 ⟨rfl, hk, hf⟩; replace HK := As0 hk; replace HB := As0 (hf.base HB.out HG.out HB.out.size); replace B := As0 (hf.blk B.out NB.out); replace M := As0 (hf.blk M.out NM.out); replace O := As0 (hf.blk O.out NO.out); clear b0 b1 b2 b3 b4 bf0 bf1 bf2 bf3 bf4 m0 m1 m2 m3 m4 mf0 mf1 mf2 mf3 mf4 hk hf))
     (obtain ⟨A9, c9, hg9, hc9, HC9, hne9⟩ := HK.out)
     (obtain ⟨q0, q1, q2, q3, f0, f1, f2, f3⟩ := cN4 hg9)
     obtain ⟨wy, hwy⟩ : ∃ y, y = (whyOf mc.length x.2).1 := ⟨_, rfl⟩
     obtain ⟨wa, hwa⟩ : ∃ y, y = (whyOf mc.length x.2).2 := ⟨_, rfl⟩
     rw [← hwy, ← hwa]
     have HWY := As0 hwy
     have HWA := As0 hwa
     clear hwy hwa
     have p2 : ∀ o : Obj, (w8.alloc o).cell? ⟨g, 2, none⟩ = some (.int .i64 x.1.steps) := fun o => cell_al q2 o
     have p3 : ∀ o : Obj, (w8.alloc o).cell? ⟨g, 3, none⟩ = some (.int .i64 x.1.largest) := fun o => cell_al q3 o
     go_region
     go_upto_if 74 with (fail)
     have hX := As0 (Qbr (Qdm w8 (.cells #[.slice none 0 0, .int .i64 wy, .int .i64 wa, .int .i64 x.1.steps, .int .i64 x.1.largest] 87 (0, 0))))
     have hb9 := Qc7 (Qb2 (Below.refl w8.heap.size w8) (.cells #[.slice none 0 0, .int .i64 wy, .int .i64 wa, .int .i64 x.1.steps, .int .i64 x.1.largest] 87 (0, 0)))
     have hgx : g ≠ w8.heap.size := Nat.ne_of_lt HK.out.lt
     have hgs := HB.out.size
     have hox := Qby O.out
     clear p2 p3 q0 q1 q2 q3 f0 f1 f2 f3 hg9 hc9 HC9 hne9 A9 c9
     replace HB := As0 (Qb5 HB.out hb9)
     replace HK := As0 (HK.out.below hb9)
     replace O := As0 (Qbl O.out hb9)
     clear B M hb9
     generalize hw9 : (w8.alloc (.cells #[.slice none 0 0, .int .i64 wy, .int .i64 wa, .int .i64 x.1.steps, .int .i64 x.1.largest] 87 (0, 0))).drew = w9 at *
     have GX : w.heap.size ≤ w8.heap.size := hgs
     have hxo : gO ≠ w8.heap.size := Nat.ne_of_lt hox
     clear hw9
     generalize w8.heap.size = gX at *
     have GX' := As0 GX
     (obtain ⟨A9, c9, hg9, hc9, HC9, hne9⟩ := HK.out)
     (obtain ⟨q0, q1, q2, q3, f0, f1, f2, f3⟩ := cN4 hg9)
     (obtain ⟨x0, x1, x2, x3, x4, y0, y1, y2, y3, y4⟩ := cN5 hX.out)
     have hC9 := As0 HC9
     have hOld := As0 O.out
     clear HC9 hg9
     by_cases hy : wy = 0
     ·have hyb : (wy == 0) = true := beq_iff_eq.mpr hy
      have hr : okF mc.length x = ⟨x.1.set, wy, wa, x.1.steps, x.1.largest⟩ := by unfold okF; rw [← HWY.out, ← HWA.out, if_pos hy]
      clear hy
      go_wp2_with ((with_reducible refine Qdb (.store 87 (.tmp 8) (.tmp 80)) rfl ?_); go_loud (refine Qau rfl rfl 87 _ _ rfl gO #[.slice A9 x.1.set.length c9, .int .i64 wy, .int .i64 wa, .int .i64 x.1.steps, .int .i64 x.1.largest] rfl rfl 87 #[.slice none 0 0, .int .i64 0, .int .i64 0, .int .i64 0, .int .i64 0] (Qd5 O.out hxo _) (by kernel_rfl) rfl (by kernel_rfl) ?_); intro wz hg ho hB; replace HB := As0 (hB _ _ GO.out (BU HB.out)); replace O := As0 hg; have HO_ := As0 ho; clear hg ho hB)
      refine bodyPost_ret (results_cell_row rfl _ _ gO 87 #[.slice A9 x.1.set.length c9, .int .i64 wy, .int .i64 wa, .int .i64 x.1.steps, .int .i64 x.1.largest] (0, 0) _ rfl (bU O.out) hu87 rfl (by kernel_rfl)) rfl ?_
      show BlkPost w (okF mc.length x) _ _
      rw [hr]
      have hsame : ∀ ad, A9 = some ad → wz.heap[ad.block]? = w9.heap[ad.block]? := by
       intro ad e
       obtain ⟨cs, hcs⟩ := hne9.2 ad e
       have n1 : ad.block ≠ gX := by rintro rfl; rw [hX.out] at hcs; injection hcs with hcs; injection hcs with h3 h4; cases h4
       have n2 : ad.block ≠ gO := by rintro rfl; rw [hOld.out] at hcs; injection hcs with hcs; injection hcs with h3 h4; cases h4
       exact (HO_.out _ n2).trans (Below.heap_setCell _ _ _ _ n1)
      exact ⟨A9, c9, rfl, hc9, C47_on hC9.out hsame, fun ad e => (by obtain ⟨cs, hcs⟩ := hne9.2 ad e; exact ⟨cs, (hsame ad e).trans hcs⟩), BU HB.out⟩
     ·have hyb : (wy == 0) = false := beq_eq_false_iff_ne.mpr hy
      have hr : okF mc.length x = ⟨[], wy, wa, x.1.steps, x.1.largest⟩ := by unfold okF; rw [← HWY.out, ← HWA.out, if_neg hy]
      clear hy
      go_wp2_with ((with_reducible refine Qdb (.store 87 (.tmp 8) (.tmp 80)) rfl ?_); go_loud (refine Qau rfl rfl 87 _ _ rfl gO #[.slice none 0 0, .int .i64 wy, .int .i64 wa, .int .i64 x.1.steps, .int .i64 x.1.largest] rfl rfl 87 #[.slice none 0 0, .int .i64 0, .int .i64 0, .int .i64 0, .int .i64 0] O.out (by kernel_rfl) rfl (by kernel_rfl) ?_); intro wz hg ho hB; replace HB := As0 (hB _ _ GO.out (BU HB.out)); replace O := As0 hg; have HO_ := As0 ho; clear hg ho hB)
      refine bodyPost_ret (results_cell_row rfl _ _ gO 87 #[.slice none 0 0, .int .i64 wy, .int .i64 wa, .int .i64 x.1.steps, .int .i64 x.1.largest] (0, 0) _ rfl (bU O.out) hu87 rfl (by kernel_rfl)) rfl ?_
      show BlkPost w (okF mc.length x) _ _
      rw [hr]
      exact ⟨none, 0, rfl, Nat.le_refl _, Kd.C_nil _ _, fun ad e => (by cases e), BU HB.out⟩
    ·rw [if_neg hla] at hx; cases hx
  ·rw [if_neg hp] at hx
   obtain rfl := Option.some.inj hx
   have hpb : (pw == 0) = false := beq_eq_false_iff_ne.mpr hp
   have hpc : (pw != 0) = true := bne_iff_ne.mpr hp
   go_enter Tryz.func33, Tryz.ntmps33
   go_wp2_with (first
    | ((with_reducible refine gD 4 ?_); refine bX ?_; intro gB hg w1 hbox hb; have B := As0 hbox; have GB := As0 (by rw [hg]; exact Qbm (BU HB.out) : w.heap.size ≤ gB); skip; replace HB := sB HB hb; clear hb hbox hg)
    | ((with_reducible refine gD 5 ?_); refine bX ?_; intro gM hg w2 hbox hb; have M := As0 hbox; have GM := As0 (by rw [hg]; exact Qbm (BU HB.out) : w.heap.size ≤ gM); replace B := As0 (Qbl B.out hb); replace HB := sB HB hb; clear hb hbox hg)
    | ((with_reducible refine gD 8 ?_); refine bX ?_; intro gO hg w3 hbox hb; have O := As0 hbox; have GO := As0 (by rw [hg]; exact Qbm (BU HB.out) : w.heap.size ≤ gO); replace B := As0 (Qbl B.out hb); replace M := As0 (Qbl M.out hb); replace HB := sB HB hb; (obtain ⟨b0, b1, b2, b3, b4, bf0, bf1, bf2, bf3, bf4⟩ := cN5 B.out); (obtain ⟨m0, m1, m2, m3, m4, mf0, mf1, mf2, mf3, mf4⟩ := cN5 M.out); clear hb hbox hg)
    | (go_at_call 63; refine (Qal.calls k A0 c0 bc A1 c1 mc rows pa _ _ (Kd.C_below H0.out (BU HB.out)) hc0 (Kd.C_below H1.out (BU HB.out)) hc1_ ha).mono ?_; rintro e w4 ⟨vr, rfl, ho, hb⟩; have HR := As0 (Kd.R_lower ho (Qbm (BU HB.out))); clear b0 b1 b2 b3 b4 bf0 bf1 bf2 bf3 bf4 m0 m1 m2 m3 m4 mf0 mf1 mf2 mf3 mf4; replace B := As0 (Qbl B.out hb); replace M := As0 (Qbl M.out hb); replace O := As0 (Qbl O.out hb); replace HB := sB HB hb; (obtain ⟨b0, b1, b2, b3, b4, bf0, bf1, bf2, bf3, bf4⟩ := cN5 B.out); (obtain ⟨m0, m1, m2, m3, m4, mf0, mf1, mf2, mf3, mf4⟩ := cN5 M.out); clear ho hb)
    | ((with_reducible refine Qdb (.store 87 (.tmp 8) (.tmp 46)) rfl ?_); go_loud (refine Qau rfl rfl 87 _ _ rfl gO #[.slice none 0 0, .int .i64 pw, .int .i64 pa, .int .i64 0, .int .i64 (inv.length : Int)] rfl rfl 87 #[.slice none 0 0, .int .i64 0, .int .i64 0, .int .i64 0, .int .i64 0] (bU O.out) (by kernel_rfl) rfl (by kernel_rfl) ?_); intro w6 hg ho hB; replace HB := As0 (hB _ _ GO.out (BU HB.out)); replace O := As0 hg; clear hg ho hB))
   exact bodyPost_ret (results_cell_row rfl _ _ gO 87 #[.slice none 0 0, .int .i64 pw, .int .i64 pa, .int .i64 0, .int .i64 (inv.length : Int)] (0, 0) _ rfl (bU O.out) hu87 rfl (by kernel_rfl)) rfl ⟨none, 0, rfl, Nat.le_refl _, Kd.C_nil _ _, fun ad e => (by cases e), BU HB.out⟩
def machine_others_1.f (k : Nat) (a0_0 a0_1 a0_2 a0_3 a0_4 a0_5 a0_6 a1 a2 : Int) : Option (Int) := (Qba.f k a0_0 a0_1 a0_2 a0_3 a0_4 a1).bind fun t122 => (some t122)
theorem machine_others_1.calls (k : Nat) (a0_0 a0_1 a0_2 a0_3 a0_4 a0_5 a0_6 a1 a2 r : Int) (w : World) (h : machine_others_1.f k a0_0 a0_1 a0_2 a0_3 a0_4 a0_5 a0_6 a1 a2 = some r) :
 Calls Tryz.prog 195 #[.agg #[.int .i64 a0_0, .int .i64 a0_1, .int .i64 a0_2, .int .i64 a0_3, .int .i64 a0_4, .int .i64 a0_5, .int .i64 a0_6], .int .i64 a1, .int .i64 a2] w fun e w' => e = .returned (.int .i64 r) ∧ Below w.heap.size w w' := by
 have hu59 := Tryz.underlying59
 have hu41 := Tryz.underlying41
 have HB := As0 (Below.refl w.heap.size w)
 have H : ((Qba.f k a0_0 a0_1 a0_2 a0_3 a0_4 a1).bind fun t122 => (some t122)) = some r := h
 clear h
 replace H := Option.bind_eq_some_iff.mp H
 obtain ⟨t122, A40, H⟩ := H
 have A4 := As0 A40
 clear A40
 obtain rfl := Option.some.inj H
 go_enter Tryz.func195, Tryz.ntmps195
 go_wp2_with (first | ((with_reducible refine gD 3 ?_); refine bY HB.out ?_; intro gb121 w5 hg hb K121 GW121 HB; clear hb hg; have q6_ := cN7 K121.out) | ((with_reducible refine Qbo (f := 148) rfl ?_); refine gL (some 19) Tryz.func148 #[.agg #[.int .i64 a0_0, .int .i64 a0_1, .int .i64 a0_2, .int .i64 a0_3, .int .i64 a0_4], .int .i64 a1] ?_; (with_reducible refine (Qba.calls k a0_0 a0_1 a0_2 a0_3 a0_4 a1 t122 _ A4.out).mono ?_); rintro e w7 ⟨rfl, hb⟩; refine ⟨_, rfl, ?_⟩; replace K121 := kB K121 hb; replace HB := sB HB hb; (try clear hb)))
 go_ret
 exact ⟨oR, BU HB.out⟩
def machine_others_2.f (a0_0 a0_1 a0_2 a0_3 a0_4 a0_5 a0_6 : Int) : Option (Bool) := if a0_5 = 0 then (some (a0_6 == 0)) else (some false)
theorem machine_others_2.calls (a0_0 a0_1 a0_2 a0_3 a0_4 a0_5 a0_6 : Int) (r : Bool) (w : World) (h : machine_others_2.f a0_0 a0_1 a0_2 a0_3 a0_4 a0_5 a0_6 = some r) :
 Calls Tryz.prog 196 #[.agg #[.int .i64 a0_0, .int .i64 a0_1, .int .i64 a0_2, .int .i64 a0_3, .int .i64 a0_4, .int .i64 a0_5, .int .i64 a0_6]] w fun e w' => e = .returned (.bool r) ∧ Below w.heap.size w w' := by
 have hu59 := Tryz.underlying59
 have HB := As0 (Below.refl w.heap.size w)
 have H : (if a0_5 = 0 then (some (a0_6 == 0)) else (some false)) = some r := h
 clear h
 by_cases c2 : a0_5 = 0
 rotate_left
 ·rw [if_neg c2] at H
  have c2b0 : (a0_5 == 0) = false := beq_eq_false_iff_ne.mpr c2
  have c2b1 : (a0_5 != 0) = true := bne_iff_ne.mpr c2
  obtain rfl := Option.some.inj H
  go_enter Tryz.func196, Tryz.ntmps196
  go_wp2_with (first | ((with_reducible refine gD 1 ?_); refine bY HB.out ?_; intro gb123 w5 hg hb K123 GW123 HB; clear hb hg; have q6_ := cN7 K123.out))
  go_ret
  exact ⟨oR, BU HB.out⟩
 rw [if_pos c2] at H
 have c2b0 : (a0_5 == 0) = true := beq_iff_eq.mpr c2
 have c2b1 : (a0_5 != 0) = false := bne_eq_false_iff_eq.mpr c2
 clear c2
 obtain rfl := Option.some.inj H
 go_enter Tryz.func196, Tryz.ntmps196
 go_wp2_with (first | ((with_reducible refine gD 1 ?_); refine bY HB.out ?_; intro gb123 w3 hg hb K123 GW123 HB; clear hb hg; have q4_ := cN7 K123.out))
 go_ret
 exact ⟨oR, BU HB.out⟩
mutual
def Qaz.j0 : Nat → Int → Int → Bool → Int → Int → Int → Int → Int → Int → Int → Option (Int)
 | 0, _, _, _, _, _, _, _, _, _, _ => none
 | k + 1, x1, x2, x7, x128000, x128001, x128002, x128003, x128004, x128005, x128006 => if x7 = true then (Qaz.j1 k true) else ((Qa9.f x128005 x1 x2).bind fun t130 => (if t130 = true then ((Qa9.f x128006 x1 x2).bind fun t131 => (Qaz.j1 k (!t131))) else (Qaz.j1 k true)))
def Qaz.j1 : Nat → Bool → Option (Int)
 | 0, _ => none
 | k + 1, x32 => if x32 = true then (some 10) else (some 0)
end
def Qaz.f (k : Nat) (a0_0 a0_1 a0_2 a0_3 a0_4 a0_5 a0_6 a1 a2 : Int) : Option (Int) := (Qaq.f a0_5).bind fun t128 => (if t128 = true then ((Qaq.f a0_6).bind fun t129 => (Qaz.j0 k a1 a2 t129 a0_0 a0_1 a0_2 a0_3 a0_4 a0_5 a0_6)) else (Qaz.j0 k a1 a2 false a0_0 a0_1 a0_2 a0_3 a0_4 a0_5 a0_6))
theorem Qaz.calls (k : Nat) (a0_0 a0_1 a0_2 a0_3 a0_4 a0_5 a0_6 a1 a2 r : Int) (w : World) (h : Qaz.f k a0_0 a0_1 a0_2 a0_3 a0_4 a0_5 a0_6 a1 a2 = some r) :
 Calls Tryz.prog 197 #[.agg #[.int .i64 a0_0, .int .i64 a0_1, .int .i64 a0_2, .int .i64 a0_3, .int .i64 a0_4, .int .i64 a0_5, .int .i64 a0_6], .int .i64 a1, .int .i64 a2] w fun e w' => e = .returned (.int .i64 r) ∧ Below w.heap.size w w' := by
 have hu59 := Tryz.underlying59
 have HB := As0 (Below.refl w.heap.size w)
 have H : ((Qaq.f a0_5).bind fun t128 => (if t128 = true then ((Qaq.f a0_6).bind fun t129 => (Qaz.j0 k a1 a2 t129 a0_0 a0_1 a0_2 a0_3 a0_4 a0_5 a0_6)) else (Qaz.j0 k a1 a2 false a0_0 a0_1 a0_2 a0_3 a0_4 a0_5 a0_6))) = some r := h
 clear h
 have C4 := As0 H
 clear H
 go_enter Tryz.func197, Tryz.ntmps197
 go_upto_region 1 with (first | ((with_reducible refine gD 3 ?_); refine bY HB.out ?_; intro gb127 w5 hg hb K127 GW127 HB; clear hb hg))
 (try simp only [Act.put, sL1, sL2, sL3])
 go_cut [7] (fun v7 wc => ∃ (kq : Nat) (x7_3 : Bool), v7 = .bool x7_3 ∧ Qbk (Qaz.j0 kq a1 a2 x7_3 a0_0 a0_1 a0_2 a0_3 a0_4 a0_5 a0_6 = some r) ∧ Qbk (kq ≤ k) ∧ Qbk (wc.heap[gb127]? = some (.cells #[.int .i64 a0_0, .int .i64 a0_1, .int .i64 a0_2, .int .i64 a0_3, .int .i64 a0_4, .int .i64 a0_5, .int .i64 a0_6] 59 (0, 0))) ∧ Qbk (Below w.heap.size w wc))
 case first =>
  have H := C4.out
  clear C4
  replace H := Option.bind_eq_some_iff.mp H
  obtain ⟨t128, A60, H⟩ := H
  have A6 := As0 A60
  clear A60
  by_cases c7 : t128 = true
  rotate_left
  ·replace c7 := Bool.eq_false_iff.mpr c7
   subst c7
   rw [if_neg bF] at H
   have H' := As0 H
   clear H
   have q10_ := cN7 K127.out
   go_wp2_with (first | ((with_reducible refine Qbo (f := 135) rfl ?_); refine gL (some 10) Tryz.func135 #[.int .i64 a0_5] ?_; (with_reducible refine (Qaq.calls a0_5 false _ A6.out).mono ?_); rintro e w' ⟨rfl, ⟨nd, rfl⟩⟩; refine ⟨_, rfl, ?_⟩))
   go_meet
   case rel => exact ⟨_, (false), eR, H', ⟨by first | omega | exact Nat.le_refl _⟩, ⟨bU K127.out⟩, ⟨BU HB.out⟩⟩
  subst c7
  rw [if_pos rfl] at H
  replace H := Option.bind_eq_some_iff.mp H
  obtain ⟨t129, A80, H⟩ := H
  have A8 := As0 A80
  clear A80
  have H' := As0 H
  clear H
  have q9_ := cN7 K127.out
  go_wp2_with (first | ((with_reducible refine Qbo (f := 135) rfl ?_); refine gL (some 10) Tryz.func135 #[.int .i64 a0_5] ?_; (with_reducible refine (Qaq.calls a0_5 true _ A6.out).mono ?_); rintro e w' ⟨rfl, ⟨nd, rfl⟩⟩; refine ⟨_, rfl, ?_⟩) | (go_at_call 135; (with_reducible refine (Qaq.calls a0_6 t129 _ A8.out).mono ?_); rintro e w' ⟨rfl, ⟨nd, rfl⟩⟩))
  go_meet
  case rel => exact ⟨_, (t129), eR, H', ⟨by first | omega | exact Nat.le_refl _⟩, ⟨bU K127.out⟩, ⟨BU HB.out⟩⟩
 case rest =>
  clear C4
  obtain ⟨kq, x7_3, rfl, HA, HJ3, K127, HB⟩ := hcut
  cases kq with
  | zero => exact absurd HA.out (by simp [Qaz.j0])
  | succ kj3 =>
   have H := HA.out
   clear HA
   simp only [Qaz.j0] at H
   have C11 := As0 H
   clear H
   go_upto_region 2 with (fail)
   go_cut [32] (fun v32 wc => ∃ (kq : Nat) (x32_10 : Bool), v32 = .bool x32_10 ∧ Qbk (Qaz.j1 kq x32_10 = some r) ∧ Qbk (kq ≤ kj3) ∧ Qbk (wc.heap[gb127]? = some (.cells #[.int .i64 a0_0, .int .i64 a0_1, .int .i64 a0_2, .int .i64 a0_3, .int .i64 a0_4, .int .i64 a0_5, .int .i64 a0_6] 59 (0, 0))) ∧ Qbk (Below w.heap.size w wc))
   case first =>
    have H := C11.out
    clear C11
    by_cases c12 : x7_3 = true
    ·subst c12
     rw [if_pos rfl] at H
     have H' := As0 H
     clear H
     go_wp2
     go_meet
     case rel => exact ⟨_, (true), eR, H', ⟨by have := HJ3.out; first | omega | exact Nat.le_refl _⟩, ⟨bU K127.out⟩, ⟨BU HB.out⟩⟩
    replace c12 := Bool.eq_false_iff.mpr c12
    subst c12
    rw [if_neg bF] at H
    replace H := Option.bind_eq_some_iff.mp H
    obtain ⟨t130, A130, H⟩ := H
    have A13 := As0 A130
    clear A130
    by_cases c14 : t130 = true
    rotate_left
    ·replace c14 := Bool.eq_false_iff.mpr c14
     subst c14
     rw [if_neg bF] at H
     have H' := As0 H
     clear H
     have q17_ := cN7 K127.out
     go_wp2_with (first | (go_at_call 138; (with_reducible refine (Qa9.calls a0_5 a1 a2 false _ A13.out).mono ?_); rintro e w' ⟨rfl, ⟨nd, rfl⟩⟩))
     go_meet
     case rel => exact ⟨_, (true), eR, H', ⟨by have := HJ3.out; first | omega | exact Nat.le_refl _⟩, ⟨bU K127.out⟩, ⟨BU HB.out⟩⟩
    subst c14
    rw [if_pos rfl] at H
    replace H := Option.bind_eq_some_iff.mp H
    obtain ⟨t131, A150, H⟩ := H
    have A15 := As0 A150
    clear A150
    have H' := As0 H
    clear H
    have q16_ := cN7 K127.out
    go_wp2_with (first | (go_at_call 138; (with_reducible refine (Qa9.calls a0_5 a1 a2 true _ A13.out).mono ?_); rintro e w' ⟨rfl, ⟨nd, rfl⟩⟩) | (go_at_call 138; (with_reducible refine (Qa9.calls a0_6 a1 a2 t131 _ A15.out).mono ?_); rintro e w' ⟨rfl, ⟨nd, rfl⟩⟩))
    go_meet
    case rel => exact ⟨_, (!t131), eR, H', ⟨by have := HJ3.out; first | omega | exact Nat.le_refl _⟩, ⟨bU K127.out⟩, ⟨BU HB.out⟩⟩
   case rest =>
    clear C11
    obtain ⟨kq, x32_10, rfl, HA, HJ10, K127, HB⟩ := hcut
    cases kq with
    | zero => exact absurd HA.out (by simp [Qaz.j1])
    | succ kj10 =>
     have H := HA.out
     clear HA
     simp only [Qaz.j1] at H
     by_cases c18 : x32_10 = true
     ·subst c18
      rw [if_pos rfl] at H
      obtain rfl := Option.some.inj H
      go_wp2
      go_ret
      exact ⟨oR, BU HB.out⟩
     replace c18 := Bool.eq_false_iff.mpr c18
     subst c18
     rw [if_neg bF] at H
     obtain rfl := Option.some.inj H
     go_wp2
     go_ret
     exact ⟨oR, BU HB.out⟩
def machine_moves_2.f (a0_0 a0_1 a0_2 a0_3 a0_4 a0_5 a0_6 : Int) : Option (Bool) := if a0_1 = 0 then (if a0_2 = 0 then (if a0_3 = 0 then (some (a0_4 == 0)) else (some false)) else (some false)) else (some false)
theorem machine_moves_2.calls (a0_0 a0_1 a0_2 a0_3 a0_4 a0_5 a0_6 : Int) (r : Bool) (w : World) (h : machine_moves_2.f a0_0 a0_1 a0_2 a0_3 a0_4 a0_5 a0_6 = some r) :
 Calls Tryz.prog 198 #[.agg #[.int .i64 a0_0, .int .i64 a0_1, .int .i64 a0_2, .int .i64 a0_3, .int .i64 a0_4, .int .i64 a0_5, .int .i64 a0_6]] w fun e w' => e = .returned (.bool r) ∧ Below w.heap.size w w' := by
 have hu59 := Tryz.underlying59
 have HB := As0 (Below.refl w.heap.size w)
 have H : (if a0_1 = 0 then (if a0_2 = 0 then (if a0_3 = 0 then (some (a0_4 == 0)) else (some false)) else (some false)) else (some false)) = some r := h
 clear h
 by_cases c2 : a0_1 = 0
 rotate_left
 ·rw [if_neg c2] at H
  have c2b0 : (a0_1 == 0) = false := beq_eq_false_iff_ne.mpr c2
  have c2b1 : (a0_1 != 0) = true := bne_iff_ne.mpr c2
  obtain rfl := Option.some.inj H
  go_enter Tryz.func198, Tryz.ntmps198
  go_wp2_with (first | ((with_reducible refine gD 1 ?_); refine bY HB.out ?_; intro gb132 w11 hg hb K132 GW132 HB; clear hb hg; have q12_ := cN7 K132.out))
  go_ret
  exact ⟨oR, BU HB.out⟩
 rw [if_pos c2] at H
 have c2b0 : (a0_1 == 0) = true := beq_iff_eq.mpr c2
 have c2b1 : (a0_1 != 0) = false := bne_eq_false_iff_eq.mpr c2
 clear c2
 by_cases c3 : a0_2 = 0
 rotate_left
 ·rw [if_neg c3] at H
  have c3b0 : (a0_2 == 0) = false := beq_eq_false_iff_ne.mpr c3
  have c3b1 : (a0_2 != 0) = true := bne_iff_ne.mpr c3
  obtain rfl := Option.some.inj H
  go_enter Tryz.func198, Tryz.ntmps198
  go_wp2_with (first | ((with_reducible refine gD 1 ?_); refine bY HB.out ?_; intro gb132 w9 hg hb K132 GW132 HB; clear hb hg; have q10_ := cN7 K132.out))
  go_ret
  exact ⟨oR, BU HB.out⟩
 rw [if_pos c3] at H
 have c3b0 : (a0_2 == 0) = true := beq_iff_eq.mpr c3
 have c3b1 : (a0_2 != 0) = false := bne_eq_false_iff_eq.mpr c3
 clear c3
 by_cases c4 : a0_3 = 0
 rotate_left
 ·rw [if_neg c4] at H
  have c4b0 : (a0_3 == 0) = false := beq_eq_false_iff_ne.mpr c4
  have c4b1 : (a0_3 != 0) = true := bne_iff_ne.mpr c4
  obtain rfl := Option.some.inj H
  go_enter Tryz.func198, Tryz.ntmps198
  go_wp2_with (first | ((with_reducible refine gD 1 ?_); refine bY HB.out ?_; intro gb132 w7 hg hb K132 GW132 HB; clear hb hg; have q8_ := cN7 K132.out))
  go_ret
  exact ⟨oR, BU HB.out⟩
 rw [if_pos c4] at H
 have c4b0 : (a0_3 == 0) = true := beq_iff_eq.mpr c4
 have c4b1 : (a0_3 != 0) = false := bne_eq_false_iff_eq.mpr c4
 clear c4
 obtain rfl := Option.some.inj H
 go_enter Tryz.func198, Tryz.ntmps198
 go_wp2_with (first | ((with_reducible refine gD 1 ?_); refine bY HB.out ?_; intro gb132 w5 hg hb K132 GW132 HB; clear hb hg; have q6_ := cN7 K132.out))
 go_ret
 exact ⟨oR, BU HB.out⟩
theorem others_calls (w : World) : Calls Tryz.prog 172 #[] w fun e w' => e = .returned (.agg #[.func (.func 195) #[] #[], .func (.func 196) #[] #[]]) ∧ Below w.heap.size w w' := by
 have hu239 := Tryz.underlying239
 go_enter Tryz.func172, Tryz.ntmps172
 go_wp2_with ((with_reducible refine Qdb (.store 239 (.tmp 0) (.tmp 1)) rfl ?_); go_loud (refine Qau rfl rfl 239 _ _ rfl w.heap.size #[.func (.func 195) #[] #[], .func (.func 196) #[] #[]] rfl rfl 239 #[.nilFunc, .nilFunc] (Qdm w _) (by kernel_rfl) rfl (by kernel_rfl) ?_); intro w1 hg ho hB)
 exact bodyPost_ret (results_cell_row rfl _ _ w.heap.size 239 #[.func (.func 195) #[] #[], .func (.func 196) #[] #[]] (0, 0) _ rfl hg hu239 rfl (by kernel_rfl)) rfl ⟨rfl, hB _ _ (Nat.le_refl _) (Qb2 (Below.refl _ _) _)⟩
theorem moves_calls (w : World) : Calls Tryz.prog 173 #[] w fun e w' => e = .returned (.agg #[.func (.func 197) #[] #[], .func (.func 198) #[] #[]]) ∧ Below w.heap.size w w' := by
 have hu239 := Tryz.underlying239
 go_enter Tryz.func173, Tryz.ntmps173
 go_wp2_with ((with_reducible refine Qdb (.store 239 (.tmp 0) (.tmp 1)) rfl ?_); go_loud (refine Qau rfl rfl 239 _ _ rfl w.heap.size #[.func (.func 197) #[] #[], .func (.func 198) #[] #[]] rfl rfl 239 #[.nilFunc, .nilFunc] (Qdm w _) (by kernel_rfl) rfl (by kernel_rfl) ?_); intro w1 hg ho hB)
 exact bodyPost_ret (results_cell_row rfl _ _ w.heap.size 239 #[.func (.func 197) #[] #[], .func (.func 198) #[] #[]] (0, 0) _ rfl hg hu239 rfl (by kernel_rfl)) rfl ⟨rfl, hB _ _ (Nat.le_refl _) (Qb2 (Below.refl _ _) _)⟩
theorem Qex (a0 a1 a2 a3 a4 a5 a6 r s : Int) (t z : Bool) (y v : Int) (w : World) (hop : a0 ≠ 18)
    (h133 : ∀ W, Calls Tryz.prog 133 #[.int .i64 a0] W fun e w' => e = .returned (.bool t) ∧ Qbz W w')
    (h1 : t = true → ∀ W, Calls Tryz.prog 195 #[.agg #[.int .i64 a0, .int .i64 a1, .int .i64 a2, .int .i64 a3, .int .i64 a4, .int .i64 a5, .int .i64 a6], .int .i64 r, .int .i64 s] W fun e w' => e = .returned (.int .i64 y) ∧ Below W.heap.size W w')
    (h2 : t = true → y = 0 → ∀ W, Calls Tryz.prog 196 #[.agg #[.int .i64 a0, .int .i64 a1, .int .i64 a2, .int .i64 a3, .int .i64 a4, .int .i64 a5, .int .i64 a6]] W fun e w' => e = .returned (.bool z) ∧ Below W.heap.size W w')
    (hv : v = if t = true then (if y = 0 then (if z = true then 0 else 12) else y) else 8) :
    Calls Tryz.prog 150 #[.agg #[.int .i64 a0, .int .i64 a1, .int .i64 a2, .int .i64 a3, .int .i64 a4, .int .i64 a5, .int .i64 a6], .int .i64 r, .int .i64 s] w fun e w' => e = .returned (.int .i64 v) ∧ Below w.heap.size w w' := by
 have hu59 := Tryz.underlying59
 have hu239 := Tryz.underlying239
 have HB := As0 (Below.refl w.heap.size w)
 have hop1 : (a0 == 18) = false := beq_eq_false_iff_ne.mpr hop
 go_enter Tryz.func150, Tryz.ntmps150
 go_wp2_with (first
  | ((with_reducible refine gD 3 ?_); refine bX ?_; intro g hg w1 hbox hb; have X := As0 hbox; replace HB := sB HB hb; (obtain ⟨z0, z1, z2, z3, z4, z5, z6, y0, y1, y2, y3, y4, y5, y6⟩ := cN7 X.out); clear hb hbox hg)
  | (go_at_call 133; refine (h133 _).mono ?_; rintro e w2 ⟨rfl, ⟨m, rfl⟩⟩)
  | (go_at_call 172; refine (others_calls _).mono ?_; rintro e w3 ⟨rfl, hb⟩; (clear z0 z1 z2 z3 z4 z5 z6 y0 y1 y2 y3 y4 y5 y6); (replace X := kB X hb); (replace HB := sB HB hb); (obtain ⟨z0, z1, z2, z3, z4, z5, z6, y0, y1, y2, y3, y4, y5, y6⟩ := cN7 X.out); clear hb)
  | ((with_reducible refine Qdb (.store 239 (.tmp 7) (.tmp 13)) rfl ?_); go_loud (refine Qau rfl rfl 239 _ _ rfl w3.heap.size #[.func (.func 195) #[] #[], .func (.func 196) #[] #[]] rfl rfl 239 #[.nilFunc, .nilFunc] (Qdm w3 _) (by kernel_rfl) rfl (by kernel_rfl) ?_); intro w4 hg ho hB; have lt := Qby X.out; replace X := As0 ((ho g (Nat.ne_of_lt lt)).trans (Qbw X.out _)); replace HB := As0 (hB _ _ (Qbm HB.out) (Qb2 HB.out _)); have Y := As0 hg; clear hg ho hB; (clear z0 z1 z2 z3 z4 z5 z6 y0 y1 y2 y3 y4 y5 y6); (obtain ⟨z0, z1, z2, z3, z4, z5, z6, y0, y1, y2, y3, y4, y5, y6⟩ := cN7 X.out); (obtain ⟨e0, e1, f0, f1⟩ := cN2 Y.out))
  | (go_at_call 195; refine (h1 (by simpa using (by assumption : (!t) = false)) _).mono ?_; rintro e w7 ⟨rfl, hb⟩; (clear z0 z1 z2 z3 z4 z5 z6 y0 y1 y2 y3 y4 y5 y6); (replace X := kB X hb); (replace HB := sB HB hb); (obtain ⟨z0, z1, z2, z3, z4, z5, z6, y0, y1, y2, y3, y4, y5, y6⟩ := cN7 X.out); (replace Y := kB Y hb); (clear e0 e1 f0 f1); (obtain ⟨e0, e1, f0, f1⟩ := cN2 Y.out); clear hb)
  | (go_at_call 196; refine (h2 (by simpa using (by assumption : (!t) = false)) (by simpa using (by assumption : (y != 0) = false)) _).mono ?_; rintro e w8 ⟨rfl, hb⟩; (clear z0 z1 z2 z3 z4 z5 z6 y0 y1 y2 y3 y4 y5 y6); (replace X := kB X hb); (replace HB := sB HB hb); clear hb))
 all_goals (go_ret; exact ⟨by simp_all, BU HB.out⟩)
theorem instr_move (a1 a2 a3 a4 a5 a6 r s : Int) (t z : Bool) (y v : Int) (w : World)
    (h133 : ∀ W, Calls Tryz.prog 133 #[.int .i64 18] W fun e w' => e = .returned (.bool t) ∧ Qbz W w')
    (h1 : t = true → ∀ W, Calls Tryz.prog 197 #[.agg #[.int .i64 18, .int .i64 a1, .int .i64 a2, .int .i64 a3, .int .i64 a4, .int .i64 a5, .int .i64 a6], .int .i64 r, .int .i64 s] W fun e w' => e = .returned (.int .i64 y) ∧ Below W.heap.size W w')
    (h2 : t = true → y = 0 → ∀ W, Calls Tryz.prog 198 #[.agg #[.int .i64 18, .int .i64 a1, .int .i64 a2, .int .i64 a3, .int .i64 a4, .int .i64 a5, .int .i64 a6]] W fun e w' => e = .returned (.bool z) ∧ Below W.heap.size W w')
    (hv : v = if t = true then (if y = 0 then (if z = true then 0 else 12) else y) else 8) :
    Calls Tryz.prog 150 #[.agg #[.int .i64 18, .int .i64 a1, .int .i64 a2, .int .i64 a3, .int .i64 a4, .int .i64 a5, .int .i64 a6], .int .i64 r, .int .i64 s] w fun e w' => e = .returned (.int .i64 v) ∧ Below w.heap.size w w' := by
 have hu59 := Tryz.underlying59
 have hu239 := Tryz.underlying239
 have HB := As0 (Below.refl w.heap.size w)
 go_enter Tryz.func150, Tryz.ntmps150
 go_wp2_with (first
  | ((with_reducible refine gD 3 ?_); refine bX ?_; intro g hg w1 hbox hb; have X := As0 hbox; replace HB := sB HB hb; (obtain ⟨z0, z1, z2, z3, z4, z5, z6, y0, y1, y2, y3, y4, y5, y6⟩ := cN7 X.out); clear hb hbox hg)
  | (go_at_call 133; refine (h133 _).mono ?_; rintro e w2 ⟨rfl, ⟨m, rfl⟩⟩)
  | (go_at_call 172; refine (others_calls _).mono ?_; rintro e w3 ⟨rfl, hb⟩; (clear z0 z1 z2 z3 z4 z5 z6 y0 y1 y2 y3 y4 y5 y6); (replace X := kB X hb); (replace HB := sB HB hb); (obtain ⟨z0, z1, z2, z3, z4, z5, z6, y0, y1, y2, y3, y4, y5, y6⟩ := cN7 X.out); clear hb; have HB3 := HB)
  | ((with_reducible refine Qdb (.store 239 (.tmp 7) (.tmp 13)) rfl ?_); go_loud (refine Qau rfl rfl 239 _ _ rfl w3.heap.size #[.func (.func 195) #[] #[], .func (.func 196) #[] #[]] rfl rfl 239 #[.nilFunc, .nilFunc] (Qdm w3 _) (by kernel_rfl) rfl (by kernel_rfl) ?_); intro w4 hg ho hB; have lt := Qby X.out; replace X := As0 ((ho g (Nat.ne_of_lt lt)).trans (Qbw X.out _)); replace HB := As0 (hB _ _ (Qbm HB.out) (Qb2 HB.out _)); have Y := As0 hg; clear hg ho hB; (clear z0 z1 z2 z3 z4 z5 z6 y0 y1 y2 y3 y4 y5 y6); (obtain ⟨z0, z1, z2, z3, z4, z5, z6, y0, y1, y2, y3, y4, y5, y6⟩ := cN7 X.out); (obtain ⟨e0, e1, f0, f1⟩ := cN2 Y.out))
  | (go_at_call 173; refine (moves_calls _).mono ?_; rintro e w5 ⟨rfl, hb⟩; (clear z0 z1 z2 z3 z4 z5 z6 y0 y1 y2 y3 y4 y5 y6); (replace X := kB X hb); (replace HB := sB HB hb); (obtain ⟨z0, z1, z2, z3, z4, z5, z6, y0, y1, y2, y3, y4, y5, y6⟩ := cN7 X.out); (replace Y := kB Y hb); (clear e0 e1 f0 f1); (obtain ⟨e0, e1, f0, f1⟩ := cN2 Y.out); clear hb)
  | ((with_reducible refine Qdb (.store 239 (.tmp 7) (.tmp 17)) rfl ?_); go_loud (refine Qau rfl rfl 239 _ _ rfl w3.heap.size #[.func (.func 197) #[] #[], .func (.func 198) #[] #[]] rfl rfl 239 #[.func (.func 195) #[] #[], .func (.func 196) #[] #[]] Y.out (by kernel_rfl) rfl (by kernel_rfl) ?_); intro w6 hg ho hB; replace X := As0 ((ho g (Nat.ne_of_lt lt)).trans X.out); have B3 := Qbm HB3.out; replace HB := As0 (hB _ _ B3 HB.out); replace Y := As0 hg; clear hg ho hB; (clear z0 z1 z2 z3 z4 z5 z6 y0 y1 y2 y3 y4 y5 y6); (obtain ⟨z0, z1, z2, z3, z4, z5, z6, y0, y1, y2, y3, y4, y5, y6⟩ := cN7 X.out); (clear e0 e1 f0 f1); (obtain ⟨e0, e1, f0, f1⟩ := cN2 Y.out))
  | (go_at_call 197; refine (h1 (by simpa using (by assumption : (!t) = false)) _).mono ?_; rintro e w7 ⟨rfl, hb⟩; (clear z0 z1 z2 z3 z4 z5 z6 y0 y1 y2 y3 y4 y5 y6); (replace X := kB X hb); (replace HB := sB HB hb); (obtain ⟨z0, z1, z2, z3, z4, z5, z6, y0, y1, y2, y3, y4, y5, y6⟩ := cN7 X.out); (replace Y := kB Y hb); (clear e0 e1 f0 f1); (obtain ⟨e0, e1, f0, f1⟩ := cN2 Y.out); clear hb)
  | (go_at_call 198; refine (h2 (by simpa using (by assumption : (!t) = false)) (by simpa using (by assumption : (y != 0) = false)) _).mono ?_; rintro e w8 ⟨rfl, hb⟩; (clear z0 z1 z2 z3 z4 z5 z6 y0 y1 y2 y3 y4 y5 y6); (replace X := kB X hb); (replace HB := sB HB hb); clear hb))
 all_goals (go_ret; exact ⟨by simp_all, BU HB.out⟩)
def machine_Instr.f (k : Nat) (a0 a1 a2 a3 a4 a5 a6 r s : Int) : Option Int :=
 (opcode_Machine.f a0).bind fun t => if t = true then (if a0 = 18 then ((Qaz.f k a0 a1 a2 a3 a4 a5 a6 r s).bind fun y => if y = 0 then ((machine_moves_2.f a0 a1 a2 a3 a4 a5 a6).bind fun z => some (if z = true then 0 else 12)) else some y)
  else ((machine_others_1.f k a0 a1 a2 a3 a4 a5 a6 r s).bind fun y => if y = 0 then ((machine_others_2.f a0 a1 a2 a3 a4 a5 a6).bind fun z => some (if z = true then 0 else 12)) else some y)) else some 8
theorem machine_Instr.calls (k : Nat) (a0 a1 a2 a3 a4 a5 a6 r s v : Int) (w : World) (h : machine_Instr.f k a0 a1 a2 a3 a4 a5 a6 r s = some v) :
    Calls Tryz.prog 150 #[.agg #[.int .i64 a0, .int .i64 a1, .int .i64 a2, .int .i64 a3, .int .i64 a4, .int .i64 a5, .int .i64 a6], .int .i64 r, .int .i64 s] w fun e w' => e = .returned (.int .i64 v) ∧ Below w.heap.size w w' := by
 unfold machine_Instr.f at h
 obtain ⟨t, ht, h⟩ := Option.bind_eq_some_iff.mp h
 have h133 := fun W => opcode_Machine.calls a0 t W ht
 by_cases hop : a0 = 18
 rotate_left
 ·cases t with
  | false => exact Qex a0 a1 a2 a3 a4 a5 a6 r s false true 0 v w hop h133 (fun h => by cases h) (fun h => by cases h) (by simpa using h.symm)
  | true =>
   rw [if_pos rfl, if_neg hop] at h
   obtain ⟨y, hy, h⟩ := Option.bind_eq_some_iff.mp h
   by_cases y0 : y = 0
   rotate_left
   ·rw [if_neg y0] at h
    exact Qex a0 a1 a2 a3 a4 a5 a6 r s true true y v w hop h133 (fun _ W => machine_others_1.calls k a0 a1 a2 a3 a4 a5 a6 r s y W hy) (fun _ q => absurd q y0) (by simpa [y0] using h.symm)
   rw [if_pos y0] at h
   obtain ⟨z, hz, h⟩ := Option.bind_eq_some_iff.mp h
   exact Qex a0 a1 a2 a3 a4 a5 a6 r s true z y v w hop h133 (fun _ W => machine_others_1.calls k a0 a1 a2 a3 a4 a5 a6 r s y W hy) (fun _ _ W => machine_others_2.calls a0 a1 a2 a3 a4 a5 a6 z W hz) (by simpa [y0] using h.symm)
 subst hop
 cases t with
 | false => exact instr_move a1 a2 a3 a4 a5 a6 r s false true 0 v w h133 (fun h => by cases h) (fun h => by cases h) (by simpa using h.symm)
 | true =>
  rw [if_pos rfl, if_pos rfl] at h
  obtain ⟨y, hy, h⟩ := Option.bind_eq_some_iff.mp h
  by_cases y0 : y = 0
  rotate_left
  ·rw [if_neg y0] at h
   exact instr_move a1 a2 a3 a4 a5 a6 r s true true y v w h133 (fun _ W => Qaz.calls k 18 a1 a2 a3 a4 a5 a6 r s y W hy) (fun _ q => absurd q y0) (by simpa [y0] using h.symm)
  rw [if_pos y0] at h
  obtain ⟨z, hz, h⟩ := Option.bind_eq_some_iff.mp h
  exact instr_move a1 a2 a3 a4 a5 a6 r s true z y v w h133 (fun _ W => Qaz.calls k 18 a1 a2 a3 a4 a5 a6 r s y W hy) (fun _ _ W => machine_moves_2.calls 18 a1 a2 a3 a4 a5 a6 z W hz) (by simpa [y0] using h.symm)
mutual
def Qa1.j0 : Nat → Bool → Int → Int → List (S39) → Option (Int)
 | 0, _, _, _, _ => none
 | k + 1, x6, x162000, x162001, x162002 => if x6 = true then (some 9) else (if x162001 > 1048576 then (some 6) else (if (x162002.length : Int) = 0 then (some 14) else (if (x162002.length : Int) > 1048576 then (Qa1.j1 k true x162000 x162001 x162002) else ((source_Code.f k x162000 x162001 x162002).bind fun t162 => (Qa1.j1 k (decide (t162 > 1048576)) x162000 x162001 x162002)))))
def Qa1.j1 : Nat → Bool → Int → Int → List (S39) → Option (Int)
 | 0, _, _, _, _ => none
 | k + 1, x26, x162000, x162001, x162002 => if x26 = true then (some 6) else (Qa1.l0 k x162002 (x162002.length : Int) 0 x162000 x162001 x162002)
def Qa1.l0 : Nat → List (S39) → Int → Int → Int → Int → List (S39) → Option (Int)
 | 0, _, _, _, _, _, _ => none
 | k + 1, x37, x38, x39, x162000, x162001, x162002 => if x39 < x38 then (if 0 ≤ x39 then (if x39 < (x37.length : Int) then ((source_block.f k ((Qam x37 x39).f0) ((Qam x37 x39).f1.f0) ((Qam x37 x39).f1.f1) ((Qam x37 x39).f1.f2) ((Qam x37 x39).f1.f3) x162001 (x162002.length : Int)).bind fun t165 => (if t165 = 0 then (Qa1.l0 k x37 x38 (wrap64 (x39 + 1)) x162000 x162001 x162002) else (some t165))) else (none)) else (none)) else (some 0)
end
def Qa1.f (k : Nat) (a0_0 a0_1 : Int) (l0_2 : List (S39)) : Option (Int) := if a0_0 < 0 then (Qa1.j0 k true a0_0 a0_1 l0_2) else (Qa1.j0 k (decide (a0_0 > a0_1)) a0_0 a0_1 l0_2)
theorem Qa1.calls (k : Nat) (a0_0 a0_1 : Int) (A0_2 : Option Addr) (c0_2 : Nat) (l0_2 : List (S39)) (r : Int) (w : World) (hr0_2 : Kd.C k39 w A0_2 l0_2.length l0_2) (hc0_2 : l0_2.length ≤ c0_2) (h : Qa1.f k a0_0 a0_1 l0_2 = some r) :
 Calls Tryz.prog 59 #[.agg #[.int .i64 a0_0, .int .i64 a0_1, .slice A0_2 l0_2.length c0_2]] w fun e w' => e = .returned (.int .i64 r) ∧ Below w.heap.size w w' := by
 have hu24 := Tryz.underlying24
 have hu39 := Tryz.underlying39
 have R0_2 := As0 hr0_2
 have C0_2 := As0 hc0_2
 clear hr0_2 hc0_2
 have HB := As0 (Below.refl w.heap.size w)
 have H : (if a0_0 < 0 then (Qa1.j0 k true a0_0 a0_1 l0_2) else (Qa1.j0 k (decide (a0_0 > a0_1)) a0_0 a0_1 l0_2)) = some r := h
 clear h
 have C2 := As0 H
 clear H
 go_enter Tryz.func59, Tryz.ntmps59
 go_upto_region 1 with (first | ((with_reducible refine gD 1 ?_); refine bY HB.out ?_; intro gb161 w3 hg hb K161 GW161 HB; clear hb hg))
 (try simp only [Act.put, sL1, sL2, sL3])
 go_cut [6] (fun v6 wc => ∃ (kq : Nat) (x6_1 : Bool), v6 = .bool x6_1 ∧ Qbk (Qa1.j0 kq x6_1 a0_0 a0_1 l0_2 = some r) ∧ Qbk (kq ≤ k) ∧ Qbk (wc.heap[gb161]? = some (.cells #[.int .i64 a0_0, .int .i64 a0_1, (.slice A0_2 l0_2.length c0_2)] 24 (0, 0))) ∧ Qbk (Below w.heap.size w wc))
 case first =>
  have H := C2.out
  clear C2
  by_cases c4 : a0_0 < 0
  rotate_left
  ·rw [if_neg c4] at H
   have c4b0 := decide_eq_false c4
   clear c4
   (first | rw [c4b0] | (simp only [Qbu, Qbv]; rw [c4b0]) | skip)
   have H' := As0 H
   clear H
   have q6_ := cN3 K161.out
   go_wp2
   go_meet
   case rel => exact ⟨_, (decide (a0_0 > a0_1)), eR, H', ⟨by first | omega | exact Nat.le_refl _⟩, ⟨bU K161.out⟩, ⟨BU HB.out⟩⟩
  rw [if_pos c4] at H
  have c4b0 := decide_eq_true c4
  clear c4
  (first | rw [c4b0] | (simp only [Qbu, Qbv]; rw [c4b0]) | skip)
  have H' := As0 H
  clear H
  have q5_ := cN3 K161.out
  go_wp2
  go_meet
  case rel => exact ⟨_, (true), eR, H', ⟨by first | omega | exact Nat.le_refl _⟩, ⟨bU K161.out⟩, ⟨BU HB.out⟩⟩
 case rest =>
  clear C2
  obtain ⟨kq, x6_1, rfl, HA, HJ1, K161, HB⟩ := hcut
  cases kq with
  | zero => exact absurd HA.out (by simp [Qa1.j0])
  | succ kj1 =>
   have H := HA.out
   clear HA
   simp only [Qa1.j0] at H
   by_cases c7 : x6_1 = true
   ·subst c7
    rw [if_pos rfl] at H
    obtain rfl := Option.some.inj H
    go_wp2
    go_ret
    exact ⟨oR, BU HB.out⟩
   replace c7 := Bool.eq_false_iff.mpr c7
   subst c7
   rw [if_neg bF] at H
   by_cases c8 : a0_1 > 1048576
   ·rw [if_pos c8] at H
    have c8b0 := decide_eq_true c8
    clear c8
    obtain rfl := Option.some.inj H
    have q9_ := cN3 K161.out
    go_wp2
    go_ret
    exact ⟨oR, BU HB.out⟩
   rw [if_neg c8] at H
   have c8b0 := decide_eq_false c8
   clear c8
   by_cases c10 : (l0_2.length : Int) = 0
   ·rw [if_pos c10] at H
    have c10b0 : ((l0_2.length : Int) == 0) = true := beq_iff_eq.mpr c10
    have c10b1 : ((l0_2.length : Int) != 0) = false := bne_eq_false_iff_eq.mpr c10
    clear c10
    obtain rfl := Option.some.inj H
    have q11_ := cN3 K161.out
    go_wp2
    go_ret
    exact ⟨oR, BU HB.out⟩
   rw [if_neg c10] at H
   have c10b0 : ((l0_2.length : Int) == 0) = false := beq_eq_false_iff_ne.mpr c10
   have c10b1 : ((l0_2.length : Int) != 0) = true := bne_iff_ne.mpr c10
   have c10b2 : ¬ (l0_2 = []) := fun h_ => c10 (by rw [h_]; rfl)
   have C12 := As0 H
   clear H
   have q13_ := cN3 K161.out
   go_upto_region 7 with (fail)
   go_cut [26] (fun v26 wc => ∃ (kq : Nat) (x26_11 : Bool), v26 = .bool x26_11 ∧ Qbk (Qa1.j1 kq x26_11 a0_0 a0_1 l0_2 = some r) ∧ Qbk (kq ≤ kj1) ∧ Qbk (wc.heap[gb161]? = some (.cells #[.int .i64 a0_0, .int .i64 a0_1, (.slice A0_2 l0_2.length c0_2)] 24 (0, 0))) ∧ Qbk (Below w.heap.size w wc))
   case first =>
    have H := C12.out
    clear C12
    by_cases c14 : (l0_2.length : Int) > 1048576
    ·rw [if_pos c14] at H
     have c14b0 := decide_eq_true c14
     have c14b1 : decide (1048576 < l0_2.length) = true := decide_eq_true (by omega)
     clear c14
     (first | rw [c14b0] | (simp only [Qbu, Qbv]; rw [c14b0]) | skip)
     have H' := As0 H
     clear H
     have q15_ := cN3 K161.out
     go_wp2
     go_meet
     case rel => exact ⟨_, (true), eR, H', ⟨by have := HJ1.out; first | omega | exact Nat.le_refl _⟩, ⟨bU K161.out⟩, ⟨BU HB.out⟩⟩
    rw [if_neg c14] at H
    have c14b0 := decide_eq_false c14
    have c14b1 : decide (1048576 < l0_2.length) = false := decide_eq_false (by omega)
    clear c14
    (first | rw [c14b0] | (simp only [Qbu, Qbv]; rw [c14b0]) | skip)
    replace H := Option.bind_eq_some_iff.mp H
    obtain ⟨t162, A160, H⟩ := H
    have A16 := As0 A160
    clear A160
    have H' := As0 H
    clear H
    have q17_ := cN3 K161.out
    go_wp2_with (first | (go_at_call 103; (with_reducible refine (source_Code.calls kj1 a0_0 a0_1 _ _ l0_2 t162 _ ?side1 ?side2 A16.out).mono ?_); (case side1 => exact CU (Kd.C_below R0_2.out HB.out)); (case side2 => exact C0_2.out); rintro e w18 ⟨rfl, hb⟩; replace K161 := kB K161 hb; replace HB := sB HB hb; (try clear hb)))
    go_meet
    case rel => exact ⟨_, (decide (t162 > 1048576)), eR, H', ⟨by have := HJ1.out; first | omega | exact Nat.le_refl _⟩, ⟨bU K161.out⟩, ⟨BU HB.out⟩⟩
   case rest =>
    clear C12
    obtain ⟨kq, x26_11, rfl, HA, HJ11, K161, HB⟩ := hcut
    cases kq with
    | zero => exact absurd HA.out (by simp [Qa1.j1])
    | succ kj11 =>
     have H := HA.out
     clear HA
     simp only [Qa1.j1] at H
     by_cases c19 : x26_11 = true
     ·subst c19
      rw [if_pos rfl] at H
      obtain rfl := Option.some.inj H
      go_wp2
      go_ret
      exact ⟨oR, BU HB.out⟩
     replace c19 := Bool.eq_false_iff.mpr c19
     subst c19
     rw [if_neg bF] at H
     have H' := As0 H
     clear H
     have q20_ := cN3 K161.out
     go_wp2
     go_loopg [39] kj11 (fun kq v39 w' => ∃ (x39_3 : Int), v39 = .int .i64 x39_3 ∧ Qbk (Qa1.l0 kq l0_2 (l0_2.length : Int) x39_3 a0_0 a0_1 l0_2 = some r) ∧ Qbk (kq ≤ kj11) ∧ Qbk (w'.heap[gb161]? = some (.cells #[.int .i64 a0_0, .int .i64 a0_1, (.slice A0_2 l0_2.length c0_2)] 24 (0, 0))) ∧ Qbk (Below w.heap.size w w'))
     case atStart => exact ⟨(0), eR, H', ⟨Nat.le_refl _⟩, ⟨bU K161.out⟩, ⟨BU HB.out⟩⟩
     case round =>
      clear H'
      obtain ⟨x39_3, rfl, HA, HK3, K161, HB⟩ := hrel
      cases gk with
      | zero => exact absurd HA.out (by simp [Qa1.l0])
      | succ k3 =>
       have H := HA.out
       clear HA
       simp only [Qa1.l0] at H
       by_cases c21 : x39_3 < (l0_2.length : Int)
       rotate_left
       ·rw [if_neg c21] at H
        have c21b0 := decide_eq_false c21
        clear c21
        obtain rfl := Option.some.inj H
        go_wp2
        go_ret
        exact ⟨oR, BU HB.out⟩
       rw [if_pos c21] at H
       have c21b0 := decide_eq_true c21
       clear c21
       by_cases c22 : 0 ≤ x39_3
       rotate_left
       ·rw [if_neg c22] at H
        exact absurd H (by simp)
       rw [if_pos c22] at H
       have c22b0 := decide_eq_true c22
       clear c22
       by_cases c23 : x39_3 < (l0_2.length : Int)
       rotate_left
       ·rw [if_neg c23] at H
        exact absurd H (by simp)
       rw [if_pos c23] at H
       have c23b0 := decide_eq_true c23
       clear c23
       replace H := Option.bind_eq_some_iff.mp H
       obtain ⟨t165, A240, H⟩ := H
       have A24 := As0 A240
       clear A240
       by_cases c25 : t165 = 0
       rotate_left
       ·rw [if_neg c25] at H
        have c25b0 : (t165 == 0) = false := beq_eq_false_iff_ne.mpr c25
        have c25b1 : (t165 != 0) = true := bne_iff_ne.mpr c25
        obtain rfl := Option.some.inj H
        have p163 : 0 ≤ (x39_3 : Int) := qR
        have q163 : x39_3 < (l0_2.length : Int) := qR
        obtain ⟨ad163, A163_0, c163_0, e163, hx163_0, hx163_1, hx163_2, hx163_3, hx163_4, hl163_0, hi163_0⟩ := at_T39 R0_2.out x39_3 p163 q163
        cases e163
        replace hx163_0 := cl HB hx163_0
        replace hx163_1 := cl HB hx163_1
        replace hx163_2 := cl HB hx163_2
        replace hx163_3 := cl HB hx163_3
        replace hx163_4 := cl HB hx163_4
        have R163_0 := As0 hi163_0
        have C163_0 := As0 hl163_0
        clear hi163_0 hl163_0
        replace p163 := eq_true p163
        replace q163 := eq_true q163
        go_wp2_with (first | ((with_reducible refine gD 4 ?_); refine bY HB.out ?_; intro gb164 w31 hg hb K164 GW164 HB; have N161_164 := pL hg K161; have N164_161 := pR hg K161; replace K161 := kB K161 hb; clear hb hg; have q33_ := cN5 K164.out; have q34_ := cN3 K161.out) | ((with_reducible refine Qbo (f := 104) rfl ?_); refine gL (some 49) Tryz.func104 #[.agg #[.slice A163_0 ((Qam l0_2 x39_3).f0).length c163_0, .int .i64 ((Qam l0_2 x39_3).f1.f0), .int .i64 ((Qam l0_2 x39_3).f1.f1), .int .i64 ((Qam l0_2 x39_3).f1.f2), .int .i64 ((Qam l0_2 x39_3).f1.f3)], .int .i64 a0_1, .int .i64 (l0_2.length : Int)] ?_; (with_reducible refine (source_block.calls k3 _ _ ((Qam l0_2 x39_3).f0) ((Qam l0_2 x39_3).f1.f0) ((Qam l0_2 x39_3).f1.f1) ((Qam l0_2 x39_3).f1.f2) ((Qam l0_2 x39_3).f1.f3) a0_1 (l0_2.length : Int) t165 _ ?side1 ?side2 A24.out).mono ?_); (case side1 => exact Kd.C_below R163_0.out (BU HB.out)); (case side2 => exact C163_0.out); rintro e w35 ⟨rfl, hb⟩; refine ⟨_, rfl, ?_⟩; replace K161 := kF K161 hb; replace K164 := kP (.cells #[.slice A163_0 ((Qam l0_2 x39_3).f0).length c163_0, .int .i64 ((Qam l0_2 x39_3).f1.f0), .int .i64 ((Qam l0_2 x39_3).f1.f1), .int .i64 ((Qam l0_2 x39_3).f1.f2), .int .i64 ((Qam l0_2 x39_3).f1.f3)] 39 (0, 0)) K164 hb; replace HB := sB HB hb; (try clear hb)))
        go_ret
        exact ⟨oR, BU HB.out⟩
       rw [if_pos c25] at H
       have c25b0 : (t165 == 0) = true := beq_iff_eq.mpr c25
       have c25b1 : (t165 != 0) = false := bne_eq_false_iff_eq.mpr c25
       clear c25
       have H' := As0 H
       clear H
       have p163 : 0 ≤ (x39_3 : Int) := qR
       have q163 : x39_3 < (l0_2.length : Int) := qR
       obtain ⟨ad163, A163_0, c163_0, e163, hx163_0, hx163_1, hx163_2, hx163_3, hx163_4, hl163_0, hi163_0⟩ := at_T39 R0_2.out x39_3 p163 q163
       cases e163
       replace hx163_0 := cl HB hx163_0
       replace hx163_1 := cl HB hx163_1
       replace hx163_2 := cl HB hx163_2
       replace hx163_3 := cl HB hx163_3
       replace hx163_4 := cl HB hx163_4
       have R163_0 := As0 hi163_0
       have C163_0 := As0 hl163_0
       clear hi163_0 hl163_0
       replace p163 := eq_true p163
       replace q163 := eq_true q163
       go_wp2_with (first | ((with_reducible refine gD 4 ?_); refine bY HB.out ?_; intro gb164 w26 hg hb K164 GW164 HB; have N161_164 := pL hg K161; have N164_161 := pR hg K161; replace K161 := kB K161 hb; clear hb hg; have q28_ := cN5 K164.out; have q29_ := cN3 K161.out) | ((with_reducible refine Qbo (f := 104) rfl ?_); refine gL (some 49) Tryz.func104 #[.agg #[.slice A163_0 ((Qam l0_2 x39_3).f0).length c163_0, .int .i64 ((Qam l0_2 x39_3).f1.f0), .int .i64 ((Qam l0_2 x39_3).f1.f1), .int .i64 ((Qam l0_2 x39_3).f1.f2), .int .i64 ((Qam l0_2 x39_3).f1.f3)], .int .i64 a0_1, .int .i64 (l0_2.length : Int)] ?_; (with_reducible refine (source_block.calls k3 _ _ ((Qam l0_2 x39_3).f0) ((Qam l0_2 x39_3).f1.f0) ((Qam l0_2 x39_3).f1.f1) ((Qam l0_2 x39_3).f1.f2) ((Qam l0_2 x39_3).f1.f3) a0_1 (l0_2.length : Int) t165 _ ?side1 ?side2 A24.out).mono ?_); (case side1 => exact Kd.C_below R163_0.out (BU HB.out)); (case side2 => exact C163_0.out); rintro e w30 ⟨rfl, hb⟩; refine ⟨_, rfl, ?_⟩; replace K161 := kF K161 hb; replace K164 := kP (.cells #[.slice A163_0 ((Qam l0_2 x39_3).f0).length c163_0, .int .i64 ((Qam l0_2 x39_3).f1.f0), .int .i64 ((Qam l0_2 x39_3).f1.f1), .int .i64 ((Qam l0_2 x39_3).f1.f2), .int .i64 ((Qam l0_2 x39_3).f1.f3)] 39 (0, 0)) K164 hb; replace HB := sB HB hb; (try clear hb)))
       go_roundg k3
       case measure => have := HJ1.out; have := HJ11.out; have := HK3.out; omega
       case rel => exact ⟨(wrap64 (x39_3 + 1)), eR, H', ⟨by have := HJ1.out; have := HJ11.out; have := HK3.out; omega⟩, ⟨bU K161.out⟩, ⟨BU HB.out⟩⟩
def machine_Code.l0 : Nat → Int → List (S57) → Int → Int → Option (Int)
 | 0, _, _, _, _ => none
 | k + 1, x3, x7, x8, x9 => if x9 < x8 then (if 0 ≤ x9 then (if x9 < (x7.length : Int) then (machine_Code.l0 k (wrap64 (x3 + (((Qad x7 x9).f0).length : Int))) x7 x8 (wrap64 (x9 + 1))) else (none)) else (none)) else (some x3)
def machine_Code.f (k : Nat) (a0_0 a0_1 a0_2 : Int) (l0_3 : List (S57)) : Option (Int) := machine_Code.l0 k 0 l0_3 (l0_3.length : Int) 0
theorem machine_Code.calls (k : Nat) (a0_0 a0_1 a0_2 : Int) (A0_3 : Option Addr) (c0_3 : Nat) (l0_3 : List (S57)) (r : Int) (w : World) (hr0_3 : Kd.C k57 w A0_3 l0_3.length l0_3) (hc0_3 : l0_3.length ≤ c0_3) (h : machine_Code.f k a0_0 a0_1 a0_2 l0_3 = some r) :
 Calls Tryz.prog 105 #[.agg #[.int .i64 a0_0, .int .i64 a0_1, .int .i64 a0_2, .slice A0_3 l0_3.length c0_3]] w fun e w' => e = .returned (.int .i64 r) ∧ Below w.heap.size w w' := by
 have hu27 := Tryz.underlying27
 have hu57 := Tryz.underlying57
 have R0_3 := As0 hr0_3
 have C0_3 := As0 hc0_3
 clear hr0_3 hc0_3
 have HB := As0 (Below.refl w.heap.size w)
 have H : (machine_Code.l0 k 0 l0_3 (l0_3.length : Int) 0) = some r := h
 clear h
 have H' := As0 H
 clear H
 go_enter Tryz.func105, Tryz.ntmps105
 go_wp2_with (first | ((with_reducible refine gD 1 ?_); refine bY HB.out ?_; intro gb166 w2 hg hb K166 GW166 HB; clear hb hg; have q3_ := cN4 K166.out))
 go_loopg [3, 9] k (fun kq v3 v9 w' => ∃ (x3_1 : Int) (x9_1 : Int), v3 = .int .i64 x3_1 ∧ v9 = .int .i64 x9_1 ∧ Qbk (machine_Code.l0 kq x3_1 l0_3 (l0_3.length : Int) x9_1 = some r) ∧ Qbk (kq ≤ k) ∧ Qbk (w'.heap[gb166]? = some (.cells #[.int .i64 a0_0, .int .i64 a0_1, .int .i64 a0_2, (.slice A0_3 l0_3.length c0_3)] 27 (0, 0))) ∧ Qbk (Below w.heap.size w w'))
 case atStart => exact ⟨(0), (0), eR, eR, H', ⟨Nat.le_refl _⟩, ⟨bU K166.out⟩, ⟨BU HB.out⟩⟩
 case round =>
  clear H'
  obtain ⟨x3_1, x9_1, rfl, rfl, HA, HK1, K166, HB⟩ := hrel
  cases gk with
  | zero => exact absurd HA.out (by simp [machine_Code.l0])
  | succ k1 =>
   have H := HA.out
   clear HA
   simp only [machine_Code.l0] at H
   by_cases c4 : x9_1 < (l0_3.length : Int)
   rotate_left
   ·rw [if_neg c4] at H
    have c4b0 := decide_eq_false c4
    clear c4
    obtain rfl := Option.some.inj H
    go_wp2
    go_ret
    exact ⟨oR, BU HB.out⟩
   rw [if_pos c4] at H
   have c4b0 := decide_eq_true c4
   clear c4
   by_cases c5 : 0 ≤ x9_1
   rotate_left
   ·rw [if_neg c5] at H
    exact absurd H (by simp)
   rw [if_pos c5] at H
   have c5b0 := decide_eq_true c5
   clear c5
   by_cases c6 : x9_1 < (l0_3.length : Int)
   rotate_left
   ·rw [if_neg c6] at H
    exact absurd H (by simp)
   rw [if_pos c6] at H
   have c6b0 := decide_eq_true c6
   clear c6
   have H' := As0 H
   clear H
   have p167 : 0 ≤ (x9_1 : Int) := qR
   have q167 : x9_1 < (l0_3.length : Int) := qR
   obtain ⟨ad167, A167_0, c167_0, e167, hx167_0, hx167_1, hx167_2, hx167_3, hx167_4, hl167_0, hi167_0⟩ := Qej R0_3.out x9_1 p167 q167
   cases e167
   replace hx167_0 := cl HB hx167_0
   replace hx167_1 := cl HB hx167_1
   replace hx167_2 := cl HB hx167_2
   replace hx167_3 := cl HB hx167_3
   replace hx167_4 := cl HB hx167_4
   have R167_0 := As0 hi167_0
   have C167_0 := As0 hl167_0
   clear hi167_0 hl167_0
   replace p167 := eq_true p167
   replace q167 := eq_true q167
   go_wp2_with (first | ((with_reducible refine gD 5 ?_); refine bY HB.out ?_; intro gb168 w7 hg hb K168 GW168 HB; have N166_168 := pL hg K166; have N168_166 := pR hg K166; replace K166 := kB K166 hb; clear hb hg; have q9_ := cN5 K168.out))
   go_roundg k1
   case measure => have := HK1.out; omega
   case rel => exact ⟨(wrap64 (x3_1 + (((Qad l0_3 x9_1).f0).length : Int))), (wrap64 (x9_1 + 1)), eR, eR, H', ⟨by have := HK1.out; omega⟩, ⟨kV K166⟩, ⟨BU HB.out⟩⟩
mutual
def Qa7.l0 : Nat → Int → List (S59) → Int → Int → Int → Int → Int → List (S57) → List (S59) → Int → Int → Int → Int → Option (Int)
 | 0, _, _, _, _, _, _, _, _, _, _, _, _, _ => none
 | k + 1, x5, x10, x11, x12, x171000, x171001, x171002, x171003, x172000, x172001, x172002, x172003, x172004 => if x12 < x11 then (if 0 ≤ x12 then (if x12 < (x10.length : Int) then ((machine_Instr.f k ((Qag x10 x12).f0) ((Qag x10 x12).f1) ((Qag x10 x12).f2) ((Qag x10 x12).f3) ((Qag x10 x12).f4) ((Qag x10 x12).f5) ((Qag x10 x12).f6) x171001 x171002).bind fun t175 => (if t175 = 0 then (if ((Qag x10 x12).f0) = 18 then (Qa7.j1 k (wrap64 (x5 + 1)) x10 x11 x12 x171000 x171001 x171002 x171003 x172000 x172001 x172002 x172003 x172004) else (Qa7.j1 k 0 x10 x11 x12 x171000 x171001 x171002 x171003 x172000 x172001 x172002 x172003 x172004)) else (some t175))) else (none)) else (none)) else ((Qbj.f k x172001 x172002 x172003 x172004 x171001 (x171003.length : Int)).bind fun t172 => (some t172))
def Qa7.j1 : Nat → Int → List (S59) → Int → Int → Int → Int → Int → List (S57) → List (S59) → Int → Int → Int → Int → Option (Int)
 | 0, _, _, _, _, _, _, _, _, _, _, _, _, _ => none
 | k + 1, x5, x10, x11, x12, x171000, x171001, x171002, x171003, x172000, x172001, x172002, x172003, x172004 => if x5 > 64 then (some 15) else (Qa7.l0 k x5 x10 x11 (wrap64 (x12 + 1)) x171000 x171001 x171002 x171003 x172000 x172001 x172002 x172003 x172004)
end
def Qa7.f (k : Nat) (a0_0 a0_1 a0_2 : Int) (l0_3 : List (S57)) (l1_0 : List (S59)) (a1_1 a1_2 a1_3 a1_4 : Int) : Option (Int) := Qa7.l0 k 0 l1_0 (l1_0.length : Int) 0 a0_0 a0_1 a0_2 l0_3 l1_0 a1_1 a1_2 a1_3 a1_4
theorem Qa7.calls (k : Nat) (a0_0 a0_1 a0_2 : Int) (A0_3 : Option Addr) (c0_3 : Nat) (l0_3 : List (S57)) (A1_0 : Option Addr) (c1_0 : Nat) (l1_0 : List (S59)) (a1_1 a1_2 a1_3 a1_4 r : Int) (w : World) (hr0_3 : Kd.C k57 w A0_3 l0_3.length l0_3) (hc0_3 : l0_3.length ≤ c0_3) (hr1_0 : Kd.C k59 w A1_0 l1_0.length l1_0) (hc1_0 : l1_0.length ≤ c1_0) (h : Qa7.f k a0_0 a0_1 a0_2 l0_3 l1_0 a1_1 a1_2 a1_3 a1_4 = some r) :
 Calls Tryz.prog 106 #[.agg #[.int .i64 a0_0, .int .i64 a0_1, .int .i64 a0_2, .slice A0_3 l0_3.length c0_3], .agg #[.slice A1_0 l1_0.length c1_0, .int .i64 a1_1, .int .i64 a1_2, .int .i64 a1_3, .int .i64 a1_4]] w fun e w' => e = .returned (.int .i64 r) ∧ Below w.heap.size w w' := by
 have hu27 := Tryz.underlying27
 have hu57 := Tryz.underlying57
 have hu59 := Tryz.underlying59
 have hu37 := Tryz.underlying37
 have R0_3 := As0 hr0_3
 have C0_3 := As0 hc0_3
 clear hr0_3 hc0_3
 have R1_0 := As0 hr1_0
 have C1_0 := As0 hc1_0
 clear hr1_0 hc1_0
 have HB := As0 (Below.refl w.heap.size w)
 have H : (Qa7.l0 k 0 l1_0 (l1_0.length : Int) 0 a0_0 a0_1 a0_2 l0_3 l1_0 a1_1 a1_2 a1_3 a1_4) = some r := h
 clear h
 have H' := As0 H
 clear H
 go_enter Tryz.func106, Tryz.ntmps106
 go_wp2_with (first | ((with_reducible refine gD 2 ?_); refine bY HB.out ?_; intro gb170 w3 hg hb K170 GW170 HB; clear hb hg) | ((with_reducible refine gD 3 ?_); refine bY HB.out ?_; intro gb171 w4 hg hb K171 GW171 HB; have N170_171 := pL hg K170; have N171_170 := pR hg K170; replace K170 := kB K170 hb; clear hb hg; have q6_ := cN5 K171.out))
 go_loopg [5, 12] k (fun kq v5 v12 w' => ∃ (x5_1 : Int) (x12_1 : Int), v5 = .int .i64 x5_1 ∧ v12 = .int .i64 x12_1 ∧ Qbk (Qa7.l0 kq x5_1 l1_0 (l1_0.length : Int) x12_1 a0_0 a0_1 a0_2 l0_3 l1_0 a1_1 a1_2 a1_3 a1_4 = some r) ∧ Qbk (kq ≤ k) ∧ Qbk (w'.heap[gb170]? = some (.cells #[.int .i64 a0_0, .int .i64 a0_1, .int .i64 a0_2, (.slice A0_3 l0_3.length c0_3)] 27 (0, 0))) ∧ Qbk (w'.heap[gb171]? = some (.cells #[(.slice A1_0 l1_0.length c1_0), .int .i64 a1_1, .int .i64 a1_2, .int .i64 a1_3, .int .i64 a1_4] 57 (0, 0))) ∧ Qbk (Below w.heap.size w w'))
 case atStart => exact ⟨(0), (0), eR, eR, H', ⟨Nat.le_refl _⟩, ⟨bU K170.out⟩, ⟨bU K171.out⟩, ⟨BU HB.out⟩⟩
 case round =>
  clear H'
  obtain ⟨x5_1, x12_1, rfl, rfl, HA, HK1, K170, K171, HB⟩ := hrel
  cases gk with
  | zero => exact absurd HA.out (by simp [Qa7.l0])
  | succ k1 =>
   have H := HA.out
   clear HA
   simp only [Qa7.l0] at H
   by_cases c7 : x12_1 < (l1_0.length : Int)
   rotate_left
   ·rw [if_neg c7] at H
    have c7b0 := decide_eq_false c7
    clear c7
    replace H := Option.bind_eq_some_iff.mp H
    obtain ⟨t172, A300, H⟩ := H
    have A30 := As0 A300
    clear A300
    obtain rfl := Option.some.inj H
    have q32_ := cN5 K171.out
    have q33_ := cN4 K170.out
    go_wp2_with (first | ((with_reducible refine Qbo (f := 149) rfl ?_); refine gL (some 40) Tryz.func149 #[.agg #[.int .i64 a1_1, .int .i64 a1_2, .int .i64 a1_3, .int .i64 a1_4], .int .i64 a0_1, .int .i64 (l0_3.length : Int)] ?_; (with_reducible refine (Qbj.calls k1 a1_1 a1_2 a1_3 a1_4 a0_1 (l0_3.length : Int) t172 _ A30.out).mono ?_); rintro e w34 ⟨rfl, hb⟩; refine ⟨_, rfl, ?_⟩; replace K170 := kB K170 hb; replace K171 := kB K171 hb; replace HB := sB HB hb; (try clear hb)))
    go_ret
    exact ⟨oR, BU HB.out⟩
   rw [if_pos c7] at H
   have c7b0 := decide_eq_true c7
   clear c7
   by_cases c8 : 0 ≤ x12_1
   rotate_left
   ·rw [if_neg c8] at H
    exact absurd H (by simp)
   rw [if_pos c8] at H
   have c8b0 := decide_eq_true c8
   clear c8
   by_cases c9 : x12_1 < (l1_0.length : Int)
   rotate_left
   ·rw [if_neg c9] at H
    exact absurd H (by simp)
   rw [if_pos c9] at H
   have c9b0 := decide_eq_true c9
   clear c9
   replace H := Option.bind_eq_some_iff.mp H
   obtain ⟨t175, A100, H⟩ := H
   have A10 := As0 A100
   clear A100
   by_cases c11 : t175 = 0
   rotate_left
   ·rw [if_neg c11] at H
    have c11b0 : (t175 == 0) = false := beq_eq_false_iff_ne.mpr c11
    have c11b1 : (t175 != 0) = true := bne_iff_ne.mpr c11
    obtain rfl := Option.some.inj H
    have p173 : 0 ≤ (x12_1 : Int) := qR
    have q173 : x12_1 < (l1_0.length : Int) := qR
    obtain ⟨ad173, e173, hx173_0, hx173_1, hx173_2, hx173_3, hx173_4, hx173_5, hx173_6⟩ := at_T59 R1_0.out x12_1 p173 q173
    cases e173
    replace hx173_0 := cl HB hx173_0
    replace hx173_1 := cl HB hx173_1
    replace hx173_2 := cl HB hx173_2
    replace hx173_3 := cl HB hx173_3
    replace hx173_4 := cl HB hx173_4
    replace hx173_5 := cl HB hx173_5
    replace hx173_6 := cl HB hx173_6
    replace p173 := eq_true p173
    replace q173 := eq_true q173
    go_wp2_with (first | ((with_reducible refine gD 7 ?_); refine bY HB.out ?_; intro gb174 w23 hg hb K174 GW174 HB; have N170_174 := pL hg K170; have N174_170 := pR hg K170; replace K170 := kB K170 hb; have N171_174 := pL hg K171; have N174_171 := pR hg K171; replace K171 := kB K171 hb; clear hb hg; have q26_ := cN7 K174.out; have q28_ := cN4 K170.out) | ((with_reducible refine Qbo (f := 150) rfl ?_); refine gL (some 21) Tryz.func150 #[.agg #[.int .i64 ((Qag l1_0 x12_1).f0), .int .i64 ((Qag l1_0 x12_1).f1), .int .i64 ((Qag l1_0 x12_1).f2), .int .i64 ((Qag l1_0 x12_1).f3), .int .i64 ((Qag l1_0 x12_1).f4), .int .i64 ((Qag l1_0 x12_1).f5), .int .i64 ((Qag l1_0 x12_1).f6)], .int .i64 a0_1, .int .i64 a0_2] ?_; (with_reducible refine (machine_Instr.calls k1 ((Qag l1_0 x12_1).f0) ((Qag l1_0 x12_1).f1) ((Qag l1_0 x12_1).f2) ((Qag l1_0 x12_1).f3) ((Qag l1_0 x12_1).f4) ((Qag l1_0 x12_1).f5) ((Qag l1_0 x12_1).f6) a0_1 a0_2 t175 _ A10.out).mono ?_); rintro e w29 ⟨rfl, hb⟩; refine ⟨_, rfl, ?_⟩; replace K170 := kF K170 hb; replace K171 := kF K171 hb; replace K174 := kP (.cells #[.int .i64 ((Qag l1_0 x12_1).f0), .int .i64 ((Qag l1_0 x12_1).f1), .int .i64 ((Qag l1_0 x12_1).f2), .int .i64 ((Qag l1_0 x12_1).f3), .int .i64 ((Qag l1_0 x12_1).f4), .int .i64 ((Qag l1_0 x12_1).f5), .int .i64 ((Qag l1_0 x12_1).f6)] 59 (0, 0)) K174 hb; replace HB := sB HB hb; (try clear hb)))
    go_ret
    exact ⟨oR, BU HB.out⟩
   rw [if_pos c11] at H
   have c11b0 : (t175 == 0) = true := beq_iff_eq.mpr c11
   have c11b1 : (t175 != 0) = false := bne_eq_false_iff_eq.mpr c11
   clear c11
   have C12 := As0 H
   clear H
   have p173 : 0 ≤ (x12_1 : Int) := qR
   have q173 : x12_1 < (l1_0.length : Int) := qR
   obtain ⟨ad173, e173, hx173_0, hx173_1, hx173_2, hx173_3, hx173_4, hx173_5, hx173_6⟩ := at_T59 R1_0.out x12_1 p173 q173
   cases e173
   replace hx173_0 := cl HB hx173_0
   replace hx173_1 := cl HB hx173_1
   replace hx173_2 := cl HB hx173_2
   replace hx173_3 := cl HB hx173_3
   replace hx173_4 := cl HB hx173_4
   replace hx173_5 := cl HB hx173_5
   replace hx173_6 := cl HB hx173_6
   replace p173 := eq_true p173
   replace q173 := eq_true q173
   go_upto_if 29 with (first | ((with_reducible refine gD 7 ?_); refine bY HB.out ?_; intro gb174 w13 hg hb K174 GW174 HB; have N170_174 := pL hg K170; have N174_170 := pR hg K170; replace K170 := kB K170 hb; have N171_174 := pL hg K171; have N174_171 := pR hg K171; replace K171 := kB K171 hb; clear hb hg; have q16_ := cN7 K174.out; have q18_ := cN4 K170.out) | ((with_reducible refine Qbo (f := 150) rfl ?_); refine gL (some 21) Tryz.func150 #[.agg #[.int .i64 ((Qag l1_0 x12_1).f0), .int .i64 ((Qag l1_0 x12_1).f1), .int .i64 ((Qag l1_0 x12_1).f2), .int .i64 ((Qag l1_0 x12_1).f3), .int .i64 ((Qag l1_0 x12_1).f4), .int .i64 ((Qag l1_0 x12_1).f5), .int .i64 ((Qag l1_0 x12_1).f6)], .int .i64 a0_1, .int .i64 a0_2] ?_; (with_reducible refine (machine_Instr.calls k1 ((Qag l1_0 x12_1).f0) ((Qag l1_0 x12_1).f1) ((Qag l1_0 x12_1).f2) ((Qag l1_0 x12_1).f3) ((Qag l1_0 x12_1).f4) ((Qag l1_0 x12_1).f5) ((Qag l1_0 x12_1).f6) a0_1 a0_2 t175 _ A10.out).mono ?_); rintro e w19 ⟨rfl, hb⟩; refine ⟨_, rfl, ?_⟩; replace K170 := kF K170 hb; replace K171 := kF K171 hb; replace K174 := kP (.cells #[.int .i64 ((Qag l1_0 x12_1).f0), .int .i64 ((Qag l1_0 x12_1).f1), .int .i64 ((Qag l1_0 x12_1).f2), .int .i64 ((Qag l1_0 x12_1).f3), .int .i64 ((Qag l1_0 x12_1).f4), .int .i64 ((Qag l1_0 x12_1).f5), .int .i64 ((Qag l1_0 x12_1).f6)] 59 (0, 0)) K174 hb; replace HB := sB HB hb; (try clear hb); have q20_ := cN7 K174.out))
   (try simp only [Act.put, sL1, sL2, sL3])
   go_cut [5] (fun v5 wc => ∃ (kq : Nat) (x5_11 : Int), v5 = .int .i64 x5_11 ∧ Qbk (Qa7.j1 kq x5_11 l1_0 (l1_0.length : Int) x12_1 a0_0 a0_1 a0_2 l0_3 l1_0 a1_1 a1_2 a1_3 a1_4 = some r) ∧ Qbk (kq ≤ k1) ∧ Qbk (wc.heap[gb170]? = some (.cells #[.int .i64 a0_0, .int .i64 a0_1, .int .i64 a0_2, (.slice A0_3 l0_3.length c0_3)] 27 (0, 0))) ∧ Qbk (wc.heap[gb171]? = some (.cells #[(.slice (some ad173) l1_0.length c1_0), .int .i64 a1_1, .int .i64 a1_2, .int .i64 a1_3, .int .i64 a1_4] 57 (0, 0))) ∧ Qbk (wc.heap[gb174]? = some (.cells #[.int .i64 ((Qag l1_0 x12_1).f0), .int .i64 ((Qag l1_0 x12_1).f1), .int .i64 ((Qag l1_0 x12_1).f2), .int .i64 ((Qag l1_0 x12_1).f3), .int .i64 ((Qag l1_0 x12_1).f4), .int .i64 ((Qag l1_0 x12_1).f5), .int .i64 ((Qag l1_0 x12_1).f6)] 59 (0, 0))) ∧ Qbk (Below w.heap.size w wc))
   case first =>
    have H := C12.out
    clear C12
    by_cases c21 : ((Qag l1_0 x12_1).f0) = 18
    rotate_left
    ·rw [if_neg c21] at H
     have c21b0 : (((Qag l1_0 x12_1).f0) == 18) = false := beq_eq_false_iff_ne.mpr c21
     have c21b1 : (((Qag l1_0 x12_1).f0) != 18) = true := bne_iff_ne.mpr c21
     (first | rw [c21b0] | (simp only [Qbu, Qbv]; rw [c21b0]) | skip)
     have H' := As0 H
     clear H
     go_wp2
     go_meet
     case rel => exact ⟨_, (0), eR, H', ⟨by have := HK1.out; first | omega | exact Nat.le_refl _⟩, ⟨bU K170.out⟩, ⟨bU K171.out⟩, ⟨bU K174.out⟩, ⟨BU HB.out⟩⟩
    rw [if_pos c21] at H
    have c21b0 : (((Qag l1_0 x12_1).f0) == 18) = true := beq_iff_eq.mpr c21
    have c21b1 : (((Qag l1_0 x12_1).f0) != 18) = false := bne_eq_false_iff_eq.mpr c21
    clear c21
    (first | rw [c21b0] | (simp only [Qbu, Qbv]; rw [c21b0]) | skip)
    have H' := As0 H
    clear H
    go_wp2
    go_meet
    case rel => exact ⟨_, (wrap64 (x5_1 + 1)), eR, H', ⟨by have := HK1.out; first | omega | exact Nat.le_refl _⟩, ⟨bU K170.out⟩, ⟨bU K171.out⟩, ⟨bU K174.out⟩, ⟨BU HB.out⟩⟩
   case rest =>
    clear C12
    obtain ⟨kq, x5_11, rfl, HA, HJ11, K170, K171, K174, HB⟩ := hcut
    cases kq with
    | zero => exact absurd HA.out (by simp [Qa7.j1])
    | succ kj11 =>
     have H := HA.out
     clear HA
     simp only [Qa7.j1] at H
     by_cases c22 : x5_11 > 64
     ·rw [if_pos c22] at H
      have c22b0 := decide_eq_true c22
      clear c22
      obtain rfl := Option.some.inj H
      go_wp2
      go_ret
      exact ⟨oR, BU HB.out⟩
     rw [if_neg c22] at H
     have c22b0 := decide_eq_false c22
     clear c22
     have H' := As0 H
     clear H
     go_wp2
     go_roundg kj11
     case measure => have := HK1.out; have := HJ11.out; omega
     case rel => exact ⟨(x5_11), (wrap64 (x12_1 + 1)), eR, eR, H', ⟨by have := HK1.out; have := HJ11.out; omega⟩, ⟨bU K170.out⟩, ⟨bU K171.out⟩, ⟨BU HB.out⟩⟩
mutual
def Qah.j0 : Nat → Bool → Int → Int → Int → List (S57) → Option (Int)
 | 0, _, _, _, _, _ => none
 | k + 1, x6, x177000, x177001, x177002, x177003 => if x6 = true then (some 10) else (if x177001 < 0 then (some 9) else (if x177002 > 1048576 then (Qah.j1 k true x177000 x177001 x177002 x177003) else (Qah.j1 k (decide (x177001 > 1048576)) x177000 x177001 x177002 x177003)))
def Qah.j1 : Nat → Bool → Int → Int → Int → List (S57) → Option (Int)
 | 0, _, _, _, _, _ => none
 | k + 1, x21, x177000, x177001, x177002, x177003 => if x21 = true then (some 6) else (if (x177003.length : Int) = 0 then (some 14) else (if (x177003.length : Int) > 1048576 then (Qah.j2 k true x177000 x177001 x177002 x177003) else ((machine_Code.f k x177000 x177001 x177002 x177003).bind fun t177 => (Qah.j2 k (decide (t177 > 1048576)) x177000 x177001 x177002 x177003))))
def Qah.j2 : Nat → Bool → Int → Int → Int → List (S57) → Option (Int)
 | 0, _, _, _, _, _ => none
 | k + 1, x35, x177000, x177001, x177002, x177003 => if x35 = true then (some 6) else (Qah.l0 k x177003 (x177003.length : Int) 0 x177000 x177001 x177002 x177003)
def Qah.l0 : Nat → List (S57) → Int → Int → Int → Int → Int → List (S57) → Option (Int)
 | 0, _, _, _, _, _, _, _ => none
 | k + 1, x46, x47, x48, x177000, x177001, x177002, x177003 => if x48 < x47 then (if 0 ≤ x48 then (if x48 < (x46.length : Int) then ((Qa7.f k x177000 x177001 x177002 x177003 ((Qad x46 x48).f0) ((Qad x46 x48).f1.f0) ((Qad x46 x48).f1.f1) ((Qad x46 x48).f1.f2) ((Qad x46 x48).f1.f3)).bind fun t180 => (if t180 = 0 then (Qah.l0 k x46 x47 (wrap64 (x48 + 1)) x177000 x177001 x177002 x177003) else (some t180))) else (none)) else (none)) else (some 0)
end
def Qah.f (k : Nat) (a0_0 a0_1 a0_2 : Int) (l0_3 : List (S57)) : Option (Int) := if a0_0 < 0 then (Qah.j0 k true a0_0 a0_1 a0_2 l0_3) else (Qah.j0 k (decide (a0_0 > a0_2)) a0_0 a0_1 a0_2 l0_3)
theorem Qah.calls (k : Nat) (a0_0 a0_1 a0_2 : Int) (A0_3 : Option Addr) (c0_3 : Nat) (l0_3 : List (S57)) (r : Int) (w : World) (hr0_3 : Kd.C k57 w A0_3 l0_3.length l0_3) (hc0_3 : l0_3.length ≤ c0_3) (h : Qah.f k a0_0 a0_1 a0_2 l0_3 = some r) :
 Calls Tryz.prog 60 #[.agg #[.int .i64 a0_0, .int .i64 a0_1, .int .i64 a0_2, .slice A0_3 l0_3.length c0_3]] w fun e w' => e = .returned (.int .i64 r) ∧ Below w.heap.size w w' := by
 have hu27 := Tryz.underlying27
 have hu57 := Tryz.underlying57
 have R0_3 := As0 hr0_3
 have C0_3 := As0 hc0_3
 clear hr0_3 hc0_3
 have HB := As0 (Below.refl w.heap.size w)
 have H : (if a0_0 < 0 then (Qah.j0 k true a0_0 a0_1 a0_2 l0_3) else (Qah.j0 k (decide (a0_0 > a0_2)) a0_0 a0_1 a0_2 l0_3)) = some r := h
 clear h
 have C2 := As0 H
 clear H
 go_enter Tryz.func60, Tryz.ntmps60
 go_upto_region 1 with (first | ((with_reducible refine gD 1 ?_); refine bY HB.out ?_; intro gb176 w3 hg hb K176 GW176 HB; clear hb hg))
 (try simp only [Act.put, sL1, sL2, sL3])
 go_cut [6] (fun v6 wc => ∃ (kq : Nat) (x6_1 : Bool), v6 = .bool x6_1 ∧ Qbk (Qah.j0 kq x6_1 a0_0 a0_1 a0_2 l0_3 = some r) ∧ Qbk (kq ≤ k) ∧ Qbk (wc.heap[gb176]? = some (.cells #[.int .i64 a0_0, .int .i64 a0_1, .int .i64 a0_2, (.slice A0_3 l0_3.length c0_3)] 27 (0, 0))) ∧ Qbk (Below w.heap.size w wc))
 case first =>
  have H := C2.out
  clear C2
  by_cases c4 : a0_0 < 0
  rotate_left
  ·rw [if_neg c4] at H
   have c4b0 := decide_eq_false c4
   clear c4
   (first | rw [c4b0] | (simp only [Qbu, Qbv]; rw [c4b0]) | skip)
   have H' := As0 H
   clear H
   have q6_ := cN4 K176.out
   go_wp2
   go_meet
   case rel => exact ⟨_, (decide (a0_0 > a0_2)), eR, H', ⟨by first | omega | exact Nat.le_refl _⟩, ⟨bU K176.out⟩, ⟨BU HB.out⟩⟩
  rw [if_pos c4] at H
  have c4b0 := decide_eq_true c4
  clear c4
  (first | rw [c4b0] | (simp only [Qbu, Qbv]; rw [c4b0]) | skip)
  have H' := As0 H
  clear H
  have q5_ := cN4 K176.out
  go_wp2
  go_meet
  case rel => exact ⟨_, (true), eR, H', ⟨by first | omega | exact Nat.le_refl _⟩, ⟨bU K176.out⟩, ⟨BU HB.out⟩⟩
 case rest =>
  clear C2
  obtain ⟨kq, x6_1, rfl, HA, HJ1, K176, HB⟩ := hcut
  cases kq with
  | zero => exact absurd HA.out (by simp [Qah.j0])
  | succ kj1 =>
   have H := HA.out
   clear HA
   simp only [Qah.j0] at H
   by_cases c7 : x6_1 = true
   ·subst c7
    rw [if_pos rfl] at H
    obtain rfl := Option.some.inj H
    go_wp2
    go_ret
    exact ⟨oR, BU HB.out⟩
   replace c7 := Bool.eq_false_iff.mpr c7
   subst c7
   rw [if_neg bF] at H
   by_cases c8 : a0_1 < 0
   ·rw [if_pos c8] at H
    have c8b0 := decide_eq_true c8
    clear c8
    obtain rfl := Option.some.inj H
    have q9_ := cN4 K176.out
    go_wp2
    go_ret
    exact ⟨oR, BU HB.out⟩
   rw [if_neg c8] at H
   have c8b0 := decide_eq_false c8
   clear c8
   have C10 := As0 H
   clear H
   have q11_ := cN4 K176.out
   go_upto_region 5 with (fail)
   go_cut [21] (fun v21 wc => ∃ (kq : Nat) (x21_9 : Bool), v21 = .bool x21_9 ∧ Qbk (Qah.j1 kq x21_9 a0_0 a0_1 a0_2 l0_3 = some r) ∧ Qbk (kq ≤ kj1) ∧ Qbk (wc.heap[gb176]? = some (.cells #[.int .i64 a0_0, .int .i64 a0_1, .int .i64 a0_2, (.slice A0_3 l0_3.length c0_3)] 27 (0, 0))) ∧ Qbk (Below w.heap.size w wc))
   case first =>
    have H := C10.out
    clear C10
    by_cases c12 : a0_2 > 1048576
    rotate_left
    ·rw [if_neg c12] at H
     have c12b0 := decide_eq_false c12
     clear c12
     (first | rw [c12b0] | (simp only [Qbu, Qbv]; rw [c12b0]) | skip)
     have H' := As0 H
     clear H
     have q14_ := cN4 K176.out
     go_wp2
     go_meet
     case rel => exact ⟨_, (decide (a0_1 > 1048576)), eR, H', ⟨by have := HJ1.out; first | omega | exact Nat.le_refl _⟩, ⟨bU K176.out⟩, ⟨BU HB.out⟩⟩
    rw [if_pos c12] at H
    have c12b0 := decide_eq_true c12
    clear c12
    (first | rw [c12b0] | (simp only [Qbu, Qbv]; rw [c12b0]) | skip)
    have H' := As0 H
    clear H
    have q13_ := cN4 K176.out
    go_wp2
    go_meet
    case rel => exact ⟨_, (true), eR, H', ⟨by have := HJ1.out; first | omega | exact Nat.le_refl _⟩, ⟨bU K176.out⟩, ⟨BU HB.out⟩⟩
   case rest =>
    clear C10
    obtain ⟨kq, x21_9, rfl, HA, HJ9, K176, HB⟩ := hcut
    cases kq with
    | zero => exact absurd HA.out (by simp [Qah.j1])
    | succ kj9 =>
     have H := HA.out
     clear HA
     simp only [Qah.j1] at H
     by_cases c15 : x21_9 = true
     ·subst c15
      rw [if_pos rfl] at H
      obtain rfl := Option.some.inj H
      go_wp2
      go_ret
      exact ⟨oR, BU HB.out⟩
     replace c15 := Bool.eq_false_iff.mpr c15
     subst c15
     rw [if_neg bF] at H
     by_cases c16 : (l0_3.length : Int) = 0
     ·rw [if_pos c16] at H
      have c16b0 : ((l0_3.length : Int) == 0) = true := beq_iff_eq.mpr c16
      have c16b1 : ((l0_3.length : Int) != 0) = false := bne_eq_false_iff_eq.mpr c16
      clear c16
      obtain rfl := Option.some.inj H
      have q17_ := cN4 K176.out
      go_wp2
      go_ret
      exact ⟨oR, BU HB.out⟩
     rw [if_neg c16] at H
     have c16b0 : ((l0_3.length : Int) == 0) = false := beq_eq_false_iff_ne.mpr c16
     have c16b1 : ((l0_3.length : Int) != 0) = true := bne_iff_ne.mpr c16
     have c16b2 : ¬ (l0_3 = []) := fun h_ => c16 (by rw [h_]; rfl)
     have C18 := As0 H
     clear H
     have q19_ := cN4 K176.out
     go_upto_region 9 with (fail)
     go_cut [35] (fun v35 wc => ∃ (kq : Nat) (x35_17 : Bool), v35 = .bool x35_17 ∧ Qbk (Qah.j2 kq x35_17 a0_0 a0_1 a0_2 l0_3 = some r) ∧ Qbk (kq ≤ kj9) ∧ Qbk (wc.heap[gb176]? = some (.cells #[.int .i64 a0_0, .int .i64 a0_1, .int .i64 a0_2, (.slice A0_3 l0_3.length c0_3)] 27 (0, 0))) ∧ Qbk (Below w.heap.size w wc))
     case first =>
      have H := C18.out
      clear C18
      by_cases c20 : (l0_3.length : Int) > 1048576
      ·rw [if_pos c20] at H
       have c20b0 := decide_eq_true c20
       have c20b1 : decide (1048576 < l0_3.length) = true := decide_eq_true (by omega)
       clear c20
       (first | rw [c20b0] | (simp only [Qbu, Qbv]; rw [c20b0]) | skip)
       have H' := As0 H
       clear H
       have q21_ := cN4 K176.out
       go_wp2
       go_meet
       case rel => exact ⟨_, (true), eR, H', ⟨by have := HJ1.out; have := HJ9.out; first | omega | exact Nat.le_refl _⟩, ⟨bU K176.out⟩, ⟨BU HB.out⟩⟩
      rw [if_neg c20] at H
      have c20b0 := decide_eq_false c20
      have c20b1 : decide (1048576 < l0_3.length) = false := decide_eq_false (by omega)
      clear c20
      (first | rw [c20b0] | (simp only [Qbu, Qbv]; rw [c20b0]) | skip)
      replace H := Option.bind_eq_some_iff.mp H
      obtain ⟨t177, A220, H⟩ := H
      have A22 := As0 A220
      clear A220
      have H' := As0 H
      clear H
      have q23_ := cN4 K176.out
      go_wp2_with (first | (go_at_call 105; (with_reducible refine (machine_Code.calls kj9 a0_0 a0_1 a0_2 _ _ l0_3 t177 _ ?side1 ?side2 A22.out).mono ?_); (case side1 => exact CU (Kd.C_below R0_3.out HB.out)); (case side2 => exact C0_3.out); rintro e w24 ⟨rfl, hb⟩; replace K176 := kB K176 hb; replace HB := sB HB hb; (try clear hb)))
      go_meet
      case rel => exact ⟨_, (decide (t177 > 1048576)), eR, H', ⟨by have := HJ1.out; have := HJ9.out; first | omega | exact Nat.le_refl _⟩, ⟨bU K176.out⟩, ⟨BU HB.out⟩⟩
     case rest =>
      clear C18
      obtain ⟨kq, x35_17, rfl, HA, HJ17, K176, HB⟩ := hcut
      cases kq with
      | zero => exact absurd HA.out (by simp [Qah.j2])
      | succ kj17 =>
       have H := HA.out
       clear HA
       simp only [Qah.j2] at H
       by_cases c25 : x35_17 = true
       ·subst c25
        rw [if_pos rfl] at H
        obtain rfl := Option.some.inj H
        go_wp2
        go_ret
        exact ⟨oR, BU HB.out⟩
       replace c25 := Bool.eq_false_iff.mpr c25
       subst c25
       rw [if_neg bF] at H
       have H' := As0 H
       clear H
       have q26_ := cN4 K176.out
       go_wp2
       go_loopg [48] kj17 (fun kq v48 w' => ∃ (x48_4 : Int), v48 = .int .i64 x48_4 ∧ Qbk (Qah.l0 kq l0_3 (l0_3.length : Int) x48_4 a0_0 a0_1 a0_2 l0_3 = some r) ∧ Qbk (kq ≤ kj17) ∧ Qbk (w'.heap[gb176]? = some (.cells #[.int .i64 a0_0, .int .i64 a0_1, .int .i64 a0_2, (.slice A0_3 l0_3.length c0_3)] 27 (0, 0))) ∧ Qbk (Below w.heap.size w w'))
       case atStart => exact ⟨(0), eR, H', ⟨Nat.le_refl _⟩, ⟨bU K176.out⟩, ⟨BU HB.out⟩⟩
       case round =>
        clear H'
        obtain ⟨x48_4, rfl, HA, HK4, K176, HB⟩ := hrel
        cases gk with
        | zero => exact absurd HA.out (by simp [Qah.l0])
        | succ k4 =>
         have H := HA.out
         clear HA
         simp only [Qah.l0] at H
         by_cases c27 : x48_4 < (l0_3.length : Int)
         rotate_left
         ·rw [if_neg c27] at H
          have c27b0 := decide_eq_false c27
          clear c27
          obtain rfl := Option.some.inj H
          go_wp2
          go_ret
          exact ⟨oR, BU HB.out⟩
         rw [if_pos c27] at H
         have c27b0 := decide_eq_true c27
         clear c27
         by_cases c28 : 0 ≤ x48_4
         rotate_left
         ·rw [if_neg c28] at H
          exact absurd H (by simp)
         rw [if_pos c28] at H
         have c28b0 := decide_eq_true c28
         clear c28
         by_cases c29 : x48_4 < (l0_3.length : Int)
         rotate_left
         ·rw [if_neg c29] at H
          exact absurd H (by simp)
         rw [if_pos c29] at H
         have c29b0 := decide_eq_true c29
         clear c29
         replace H := Option.bind_eq_some_iff.mp H
         obtain ⟨t180, A300, H⟩ := H
         have A30 := As0 A300
         clear A300
         by_cases c31 : t180 = 0
         rotate_left
         ·rw [if_neg c31] at H
          have c31b0 : (t180 == 0) = false := beq_eq_false_iff_ne.mpr c31
          have c31b1 : (t180 != 0) = true := bne_iff_ne.mpr c31
          obtain rfl := Option.some.inj H
          have p178 : 0 ≤ (x48_4 : Int) := qR
          have q178 : x48_4 < (l0_3.length : Int) := qR
          obtain ⟨ad178, A178_0, c178_0, e178, hx178_0, hx178_1, hx178_2, hx178_3, hx178_4, hl178_0, hi178_0⟩ := Qej R0_3.out x48_4 p178 q178
          cases e178
          replace hx178_0 := cl HB hx178_0
          replace hx178_1 := cl HB hx178_1
          replace hx178_2 := cl HB hx178_2
          replace hx178_3 := cl HB hx178_3
          replace hx178_4 := cl HB hx178_4
          have R178_0 := As0 hi178_0
          have C178_0 := As0 hl178_0
          clear hi178_0 hl178_0
          replace p178 := eq_true p178
          replace q178 := eq_true q178
          go_wp2_with (first | ((with_reducible refine gD 4 ?_); refine bY HB.out ?_; intro gb179 w37 hg hb K179 GW179 HB; have N176_179 := pL hg K176; have N179_176 := pR hg K176; replace K176 := kB K176 hb; clear hb hg; have q39_ := cN5 K179.out; have q40_ := cN4 K176.out) | ((with_reducible refine Qbo (f := 106) rfl ?_); refine gL (some 54) Tryz.func106 #[.agg #[.int .i64 a0_0, .int .i64 a0_1, .int .i64 a0_2, .slice (some ad178) l0_3.length c0_3], .agg #[.slice A178_0 ((Qad l0_3 x48_4).f0).length c178_0, .int .i64 ((Qad l0_3 x48_4).f1.f0), .int .i64 ((Qad l0_3 x48_4).f1.f1), .int .i64 ((Qad l0_3 x48_4).f1.f2), .int .i64 ((Qad l0_3 x48_4).f1.f3)]] ?_; (with_reducible refine (Qa7.calls k4 a0_0 a0_1 a0_2 _ _ l0_3 _ _ ((Qad l0_3 x48_4).f0) ((Qad l0_3 x48_4).f1.f0) ((Qad l0_3 x48_4).f1.f1) ((Qad l0_3 x48_4).f1.f2) ((Qad l0_3 x48_4).f1.f3) t180 _ ?side1 ?side2 ?side3 ?side4 A30.out).mono ?_); (case side1 => exact Kd.C_below R0_3.out (BU HB.out)); (case side2 => exact C0_3.out); (case side3 => exact Kd.C_below R178_0.out (BU HB.out)); (case side4 => exact C178_0.out); rintro e w41 ⟨rfl, hb⟩; refine ⟨_, rfl, ?_⟩; replace K176 := kF K176 hb; replace K179 := kP (.cells #[.slice A178_0 ((Qad l0_3 x48_4).f0).length c178_0, .int .i64 ((Qad l0_3 x48_4).f1.f0), .int .i64 ((Qad l0_3 x48_4).f1.f1), .int .i64 ((Qad l0_3 x48_4).f1.f2), .int .i64 ((Qad l0_3 x48_4).f1.f3)] 57 (0, 0)) K179 hb; replace HB := sB HB hb; (try clear hb)))
          go_ret
          exact ⟨oR, BU HB.out⟩
         rw [if_pos c31] at H
         have c31b0 : (t180 == 0) = true := beq_iff_eq.mpr c31
         have c31b1 : (t180 != 0) = false := bne_eq_false_iff_eq.mpr c31
         clear c31
         have H' := As0 H
         clear H
         have p178 : 0 ≤ (x48_4 : Int) := qR
         have q178 : x48_4 < (l0_3.length : Int) := qR
         obtain ⟨ad178, A178_0, c178_0, e178, hx178_0, hx178_1, hx178_2, hx178_3, hx178_4, hl178_0, hi178_0⟩ := Qej R0_3.out x48_4 p178 q178
         cases e178
         replace hx178_0 := cl HB hx178_0
         replace hx178_1 := cl HB hx178_1
         replace hx178_2 := cl HB hx178_2
         replace hx178_3 := cl HB hx178_3
         replace hx178_4 := cl HB hx178_4
         have R178_0 := As0 hi178_0
         have C178_0 := As0 hl178_0
         clear hi178_0 hl178_0
         replace p178 := eq_true p178
         replace q178 := eq_true q178
         go_wp2_with (first | ((with_reducible refine gD 4 ?_); refine bY HB.out ?_; intro gb179 w32 hg hb K179 GW179 HB; have N176_179 := pL hg K176; have N179_176 := pR hg K176; replace K176 := kB K176 hb; clear hb hg; have q34_ := cN5 K179.out; have q35_ := cN4 K176.out) | ((with_reducible refine Qbo (f := 106) rfl ?_); refine gL (some 54) Tryz.func106 #[.agg #[.int .i64 a0_0, .int .i64 a0_1, .int .i64 a0_2, .slice (some ad178) l0_3.length c0_3], .agg #[.slice A178_0 ((Qad l0_3 x48_4).f0).length c178_0, .int .i64 ((Qad l0_3 x48_4).f1.f0), .int .i64 ((Qad l0_3 x48_4).f1.f1), .int .i64 ((Qad l0_3 x48_4).f1.f2), .int .i64 ((Qad l0_3 x48_4).f1.f3)]] ?_; (with_reducible refine (Qa7.calls k4 a0_0 a0_1 a0_2 _ _ l0_3 _ _ ((Qad l0_3 x48_4).f0) ((Qad l0_3 x48_4).f1.f0) ((Qad l0_3 x48_4).f1.f1) ((Qad l0_3 x48_4).f1.f2) ((Qad l0_3 x48_4).f1.f3) t180 _ ?side1 ?side2 ?side3 ?side4 A30.out).mono ?_); (case side1 => exact Kd.C_below R0_3.out (BU HB.out)); (case side2 => exact C0_3.out); (case side3 => exact Kd.C_below R178_0.out (BU HB.out)); (case side4 => exact C178_0.out); rintro e w36 ⟨rfl, hb⟩; refine ⟨_, rfl, ?_⟩; replace K176 := kF K176 hb; replace K179 := kP (.cells #[.slice A178_0 ((Qad l0_3 x48_4).f0).length c178_0, .int .i64 ((Qad l0_3 x48_4).f1.f0), .int .i64 ((Qad l0_3 x48_4).f1.f1), .int .i64 ((Qad l0_3 x48_4).f1.f2), .int .i64 ((Qad l0_3 x48_4).f1.f3)] 57 (0, 0)) K179 hb; replace HB := sB HB hb; (try clear hb)))
         go_roundg k4
         case measure => have := HJ1.out; have := HJ9.out; have := HJ17.out; have := HK4.out; omega
         case rel => exact ⟨(wrap64 (x48_4 + 1)), eR, H', ⟨by have := HJ1.out; have := HJ9.out; have := HJ17.out; have := HK4.out; omega⟩, ⟨bU K176.out⟩, ⟨BU HB.out⟩⟩
def edge_total.l0 : Nat → Int → List (List (S47)) → Int → Int → Option (Int)
 | 0, _, _, _, _ => none
 | k + 1, x3, x6, x7, x8 => if x8 < x7 then (if 0 ≤ x8 then (if x8 < (x6.length : Int) then (edge_total.l0 k (wrap64 (x3 + ((Qax x6 x8).length : Int))) x6 x7 (wrap64 (x8 + 1))) else (none)) else (none)) else (some x3)
def edge_total.f (k : Nat) (l0 : List (List (S47))) : Option (Int) := edge_total.l0 k 0 l0 (l0.length : Int) 0
theorem edge_total.calls (k : Nat) (A0 : Option Addr) (c0 : Nat) (l0 : List (List (S47))) (r : Int) (w : World) (hr0 : Kd.C (Kd.slice 47 k47) w A0 l0.length l0) (hc0 : l0.length ≤ c0) (h : edge_total.f k l0 = some r) :
 Calls Tryz.prog 107 #[.slice A0 l0.length c0] w fun e w' => e = .returned (.int .i64 r) ∧ Qbz w w' := by
 have R0 := As0 hr0
 have C0 := As0 hc0
 clear hr0 hc0
 have H : (edge_total.l0 k 0 l0 (l0.length : Int) 0) = some r := h
 clear h
 have H' := As0 H
 clear H
 go_enter Tryz.func107, Tryz.ntmps107
 go_wp2
 go_loopg [3, 8] k (fun kq v3 v8 w' => ∃ (x3_1 : Int) (x8_1 : Int), v3 = .int .i64 x3_1 ∧ v8 = .int .i64 x8_1 ∧ Qbk (edge_total.l0 kq x3_1 l0 (l0.length : Int) x8_1 = some r) ∧ Qbk (kq ≤ k) ∧ Qbz w w')
 case atStart => exact ⟨(0), (0), eR, eR, H', ⟨Nat.le_refl _⟩, by repeat (first | exact Qbz.refl _ | apply Qbz.step)⟩
 case round =>
  clear H'
  obtain ⟨x3_1, x8_1, rfl, rfl, HA, HK1, ⟨m1, rfl⟩⟩ := hrel
  cases gk with
  | zero => exact absurd HA.out (by simp [edge_total.l0])
  | succ k1 =>
   have H := HA.out
   clear HA
   simp only [edge_total.l0] at H
   by_cases c2 : x8_1 < (l0.length : Int)
   rotate_left
   ·rw [if_neg c2] at H
    have c2b0 := decide_eq_false c2
    clear c2
    obtain rfl := Option.some.inj H
    go_wp2
    go_ret
    exact dR
   rw [if_pos c2] at H
   have c2b0 := decide_eq_true c2
   clear c2
   by_cases c3 : 0 ≤ x8_1
   rotate_left
   ·rw [if_neg c3] at H
    exact absurd H (by simp)
   rw [if_pos c3] at H
   have c3b0 := decide_eq_true c3
   clear c3
   by_cases c4 : x8_1 < (l0.length : Int)
   rotate_left
   ·rw [if_neg c4] at H
    exact absurd H (by simp)
   rw [if_pos c4] at H
   have c4b0 := decide_eq_true c4
   clear c4
   have H' := As0 H
   clear H
   have p181 : 0 ≤ (x8_1 : Int) := qR
   have q181 : x8_1 < (l0.length : Int) := qR
   obtain ⟨ad181, A181_0, c181_0, e181, hx181_0, hl181_0, hi181_0⟩ := Qek R0.out x8_1 p181 q181
   cases e181
   have R181_0 := As0 hi181_0
   have C181_0 := As0 hl181_0
   clear hi181_0 hl181_0
   replace p181 := eq_true p181
   replace q181 := eq_true q181
   go_wp2
   go_roundg k1
   case measure => have := HK1.out; omega
   case rel => exact ⟨(wrap64 (x3_1 + ((Qax l0 x8_1).length : Int))), (wrap64 (x8_1 + 1)), eR, eR, H', ⟨by have := HK1.out; omega⟩, by repeat (first | exact Qbz.refl _ | apply Qbz.step)⟩
mutual
def Qas.l0 : Nat → List (S47) → Int → Int → Int → List (S47) → Int → Int → Option (Int)
 | 0, _, _, _, _, _, _, _ => none
 | k + 1, x0, x1, x2, x3, x11, x12, x13 => if x13 < x12 then (if 0 ≤ x13 then (if x13 < (x11.length : Int) then (if ((Qaa x11 x13).f0) < 0 then (Qas.j1 k x0 x1 x2 x3 x13 x11 x12 x13 true ((Qaa x11 x13).f0) ((Qaa x11 x13).f1)) else (Qas.j1 k x0 x1 x2 x3 x13 x11 x12 x13 (decide (((Qaa x11 x13).f0) ≥ x1)) ((Qaa x11 x13).f0) ((Qaa x11 x13).f1))) else (none)) else (none)) else (some 0)
def Qas.j1 : Nat → List (S47) → Int → Int → Int → Int → List (S47) → Int → Int → Bool → Int → Int → Option (Int)
 | 0, _, _, _, _, _, _, _, _, _, _, _ => none
 | k + 1, x0, x1, x2, x3, x9, x11, x12, x13, x18, x189000, x189001 => if x18 = true then (some 9) else ((Qa9.f x189001 x2 x3).bind fun t189 => (if t189 = true then (if x9 > 0 then (if 0 ≤ (wrap64 (x9 - 1)) then (if (wrap64 (x9 - 1)) < (x0.length : Int) then ((Qa8.f ((Qaa x0 (wrap64 (x9 - 1))).f0) ((Qaa x0 (wrap64 (x9 - 1))).f1) x189000 x189001).bind fun t191 => (Qas.j2 k x0 x1 x2 x3 x11 x12 x13 (!t191))) else (none)) else (none)) else (Qas.j2 k x0 x1 x2 x3 x11 x12 x13 false)) else (some 10)))
def Qas.j2 : Nat → List (S47) → Int → Int → Int → List (S47) → Int → Int → Bool → Option (Int)
 | 0, _, _, _, _, _, _, _, _ => none
 | k + 1, x0, x1, x2, x3, x11, x12, x13, x35 => if x35 = true then (some 13) else (Qas.l0 k x0 x1 x2 x3 x11 x12 (wrap64 (x13 + 1)))
end
def Qas.f (k : Nat) (l0 : List (S47)) (a1 a2 a3 : Int) : Option (Int) := Qas.l0 k l0 a1 a2 a3 l0 (l0.length : Int) 0
def Qas.T8 : Bool × List (List Nat × List Nat) := (true, [([], []), ([0], [0]), ([1], [1]), ([2], [2]), ([2], [2]), ([4, 2], [2, 4]), ([3, 5, 2], [2, 3, 5]), ([6, 2], [2, 6]), ([2], [2]), ([7, 8, 2, 2], [2, 7, 8]), ([9, 2], [2, 9]), ([2, 10], [2, 10]), ([11, 9], [11])])
def Qas.B8 : List Nat := [0, 1, 3, 7, 7, 23, 63, 127, 7, 511, 1023, 2047, 4095]
theorem Qas.tab8 : rtab .any (opsOf Tryz.f108 8) = Qas.T8 := by kernel_rfl
theorem Qas.bits8 : Qcr Qas.T8.2 Qas.B8 = true := by kernel_rfl
theorem Qas.calls (k : Nat) (A0 : Option Addr) (c0 : Nat) (l0 : List (S47)) (a1 a2 a3 r : Int) (w : World) (hr0 : Kd.C k47 w A0 l0.length l0) (hc0 : l0.length ≤ c0) (h : Qas.f k l0 a1 a2 a3 = some r) :
 Calls Tryz.prog 108 #[.slice A0 l0.length c0, .int .i64 a1, .int .i64 a2, .int .i64 a3] w fun e w' => e = .returned (.int .i64 r) ∧ Below w.heap.size w w' := by
 have hu47 := Tryz.underlying47
 have R0 := As0 hr0
 have C0 := As0 hc0
 clear hr0 hc0
 have HB := As0 (Below.refl w.heap.size w)
 have H : (Qas.l0 k l0 a1 a2 a3 l0 (l0.length : Int) 0) = some r := h
 clear h
 have H' := As0 H
 clear H
 go_enter Tryz.func108, Tryz.ntmps108
 go_wp2
 go_loopg [13] k (fun kq v13 w' => ∃ (x13_1 : Int), v13 = .int .i64 x13_1 ∧ Qbk (Qas.l0 kq l0 a1 a2 a3 l0 (l0.length : Int) x13_1 = some r) ∧ Qbk (kq ≤ k) ∧ Qbk (Below w.heap.size w w'))
 case atStart => exact ⟨(0), eR, H', ⟨Nat.le_refl _⟩, ⟨BU HB.out⟩⟩
 case round =>
  clear H'
  obtain ⟨x13_1, rfl, HA, HK1, HB⟩ := hrel
  cases gk with
  | zero => exact absurd HA.out (by simp [Qas.l0])
  | succ k1 =>
   have H := HA.out
   clear HA
   simp only [Qas.l0] at H
   by_cases c5 : x13_1 < (l0.length : Int)
   rotate_left
   ·rw [if_neg c5] at H
    have c5b0 := decide_eq_false c5
    clear c5
    obtain rfl := Option.some.inj H
    go_wp2
    go_ret
    exact ⟨oR, BU HB.out⟩
   rw [if_pos c5] at H
   have c5b0 := decide_eq_true c5
   clear c5
   by_cases c6 : 0 ≤ x13_1
   rotate_left
   ·rw [if_neg c6] at H
    exact absurd H (by simp)
   rw [if_pos c6] at H
   have c6b0 := decide_eq_true c6
   clear c6
   by_cases c7 : x13_1 < (l0.length : Int)
   rotate_left
   ·rw [if_neg c7] at H
    exact absurd H (by simp)
   rw [if_pos c7] at H
   have c7b0 := decide_eq_true c7
   clear c7
   have C8 := As0 H
   clear H
   have p187 : 0 ≤ (x13_1 : Int) := qR
   have q187 : x13_1 < (l0.length : Int) := qR
   obtain ⟨ad187, e187, hx187_0, hx187_1⟩ := Qcs R0.out x13_1 p187 q187
   cases e187
   replace hx187_0 := cl HB hx187_0
   replace hx187_1 := cl HB hx187_1
   replace p187 := eq_true p187
   replace q187 := eq_true q187
   go_upto_region 4 with (first | ((with_reducible refine gD 10 ?_); refine bY HB.out ?_; intro gb188 w9 hg hb K188 GW188 HB; clear hb hg; have q10_ := cN2 K188.out))
   (try simp only [Act.put, sL1, sL2, sL3])
   go_cut [18] (fun v18 wc => ∃ (kq : Nat) (x18_7 : Bool), v18 = .bool x18_7 ∧ Qbk (Qas.j1 kq l0 a1 a2 a3 x13_1 l0 (l0.length : Int) x13_1 x18_7 ((Qaa l0 x13_1).f0) ((Qaa l0 x13_1).f1) = some r) ∧ Qbk (kq ≤ k1) ∧ Qbk (wc.heap[gb188]? = some (.cells #[.int .i64 ((Qaa l0 x13_1).f0), .int .i64 ((Qaa l0 x13_1).f1)] 47 (0, 0))) ∧ Qbk (Below w.heap.size w wc))
   case first =>
    have H := C8.out
    clear C8
    by_cases c11 : ((Qaa l0 x13_1).f0) < 0
    rotate_left
    ·rw [if_neg c11] at H
     have c11b0 := decide_eq_false c11
     clear c11
     (first | rw [c11b0] | (simp only [Qbu, Qbv]; rw [c11b0]) | skip)
     have H' := As0 H
     clear H
     have q13_ := cN2 K188.out
     go_wp2
     go_meet
     case rel => exact ⟨_, (decide (((Qaa l0 x13_1).f0) ≥ a1)), eR, H', ⟨by have := HK1.out; first | omega | exact Nat.le_refl _⟩, ⟨kV K188⟩, ⟨BU HB.out⟩⟩
    rw [if_pos c11] at H
    have c11b0 := decide_eq_true c11
    clear c11
    (first | rw [c11b0] | (simp only [Qbu, Qbv]; rw [c11b0]) | skip)
    have H' := As0 H
    clear H
    have q12_ := cN2 K188.out
    go_wp2
    go_meet
    case rel => exact ⟨_, (true), eR, H', ⟨by have := HK1.out; first | omega | exact Nat.le_refl _⟩, ⟨kV K188⟩, ⟨BU HB.out⟩⟩
   case rest =>
    clear C8
    obtain ⟨kq, x18_7, rfl, HA, HJ7, K188, HB⟩ := hcut
    cases kq with
    | zero => exact absurd HA.out (by simp [Qas.j1])
    | succ kj7 =>
     have H := HA.out
     clear HA
     simp only [Qas.j1] at H
     by_cases c14 : x18_7 = true
     ·subst c14
      rw [if_pos rfl] at H
      obtain rfl := Option.some.inj H
      go_wp2
      go_ret
      exact ⟨oR, BU HB.out⟩
     replace c14 := Bool.eq_false_iff.mpr c14
     subst c14
     rw [if_neg bF] at H
     replace H := Option.bind_eq_some_iff.mp H
     obtain ⟨t189, A150, H⟩ := H
     have A15 := As0 A150
     clear A150
     by_cases c16 : t189 = true
     rotate_left
     ·replace c16 := Bool.eq_false_iff.mpr c16
      subst c16
      rw [if_neg bF] at H
      obtain rfl := Option.some.inj H
      have q28_ := cN2 K188.out
      go_wp2_with (first | ((with_reducible refine Qbo (f := 138) rfl ?_); refine gL (some 33) Tryz.func138 #[.int .i64 ((Qaa l0 x13_1).f1), .int .i64 a2, .int .i64 a3] ?_; (with_reducible refine (Qa9.calls ((Qaa l0 x13_1).f1) a2 a3 false _ A15.out).mono ?_); rintro e w' ⟨rfl, ⟨nd, rfl⟩⟩; refine ⟨_, rfl, ?_⟩))
      go_ret
      exact ⟨oR, BU HB.out⟩
     subst c16
     rw [if_pos rfl] at H
     have C17 := As0 H
     clear H
     have q18_ := cN2 K188.out
     go_upto_region 8 with (first | ((with_reducible refine Qbo (f := 138) rfl ?_); refine gL (some 33) Tryz.func138 #[.int .i64 ((Qaa l0 x13_1).f1), .int .i64 a2, .int .i64 a3] ?_; (with_reducible refine (Qa9.calls ((Qaa l0 x13_1).f1) a2 a3 true _ A15.out).mono ?_); rintro e w' ⟨rfl, ⟨nd, rfl⟩⟩; refine ⟨_, rfl, ?_⟩))
     (try simp only [Act.put, sL1, sL2, sL3])
     go_cut [35] (fun v35 wc => ∃ (kq : Nat) (x35_16 : Bool), v35 = .bool x35_16 ∧ Qbk (Qas.j2 kq l0 a1 a2 a3 l0 (l0.length : Int) x13_1 x35_16 = some r) ∧ Qbk (kq ≤ kj7) ∧ Qbk (wc.heap[gb188]? = some (.cells #[.int .i64 ((Qaa l0 x13_1).f0), .int .i64 ((Qaa l0 x13_1).f1)] 47 (0, 0))) ∧ Qbk (Below w.heap.size w wc))
     case first =>
      have H := C17.out
      clear C17
      by_cases c19 : x13_1 > 0
      rotate_left
      ·rw [if_neg c19] at H
       have c19b0 := decide_eq_false c19
       clear c19
       (first | rw [c19b0] | (simp only [Qbu, Qbv]; rw [c19b0]) | skip)
       have H' := As0 H
       clear H
       try go_wp2
       have m0_ := As0 (blk_drewN K188.out nd)
       have m1_ := As0 (bdN HB.out nd)
       clear K188 HB
       have K188 := m0_
       have HB := m1_
       clear m0_ m1_
       generalize wc.drewN nd = wd at K188 HB ⊢
       replace K188 := As0 (Qbr K188.out)
       replace HB := As0 (bd1 HB.out)
       refine Qcb (n := 13) (S := fun w' => True) (ds := []) (bb 13 0) (by kernel_rfl) rfl rfl trivial (fun hHeld => ?_); refine Qca Qas.tab8 Qas.bits8 (fun HT_ HW_ => ?_)
       generalize wd.drew = w26 at K188 HB hHeld ⊢
       refine pv HT_.out 0 36 (bb 13 1) ?_
       refine pv HT_.out 1 37 (bb 13 3) ?_
       refine pv HT_.out 2 38 (bb 13 7) ?_
       refine py HT_.out 3 39 (bb 13 15) ?_
       refine py HT_.out 4 40 (bb 13 31) ?_
       refine py HT_.out 5 41 (bb 13 63) ?_
       refine py HT_.out 6 42 (bb 13 127) ?_
       refine py HT_.out 7 43 (bb 13 255) ?_
       refine py HT_.out 8 44 (bb 13 511) ?_
       refine py HT_.out 9 45 (bb 13 1023) ?_
       refine py HT_.out 10 46 (bb 13 2047) ?_
       refine pv HT_.out 11 47 (bb 13 4095) ?_
       refine pv HT_.out 12 35 (bb 13 8191) ?_
       refine Qcy (Qco HT_.out (by kernel_rfl)) ?_
       try go_wp2
       go_meet
       case rel => exact ⟨_, (false), eR, H', ⟨by have := HK1.out; have := HJ7.out; first | omega | exact Nat.le_refl _⟩, ⟨bU K188.out⟩, ⟨BU HB.out⟩⟩
      rw [if_pos c19] at H
      have c19b0 := decide_eq_true c19
      clear c19
      (first | rw [c19b0] | (simp only [Qbu, Qbv]; rw [c19b0]) | skip)
      obtain ⟨ji20, hji20⟩ : ∃ j_ : Int, (wrap64 (x13_1 - 1)) = j_ := ⟨_, rfl⟩
      replace H : (if 0 ≤ (ji20) then (if (ji20) < (l0.length : Int) then ((Qa8.f ((Qaa l0 (ji20)).f0) ((Qaa l0 (ji20)).f1) ((Qaa l0 x13_1).f0) ((Qaa l0 x13_1).f1)).bind fun t191 => (Qas.j2 kj7 l0 a1 a2 a3 l0 (l0.length : Int) x13_1 (!t191))) else (none)) else (none)) = some r := by first | (rw [hji20] at H; exact H) | (simp only [hji20] at H ⊢; exact H)
      have hji20w : (IntKind.i64.wrap (x13_1 - 1)) = ji20 := (Qbu _).trans hji20
      by_cases c21 : 0 ≤ (ji20)
      rotate_left
      ·rw [if_neg c21] at H
       exact absurd H (by simp)
      rw [if_pos c21] at H
      have c21b0 := decide_eq_true c21
      clear c21
      by_cases c22 : (ji20) < (l0.length : Int)
      rotate_left
      ·rw [if_neg c22] at H
       exact absurd H (by simp)
      rw [if_pos c22] at H
      have c22b0 := decide_eq_true c22
      clear c22
      replace H := Option.bind_eq_some_iff.mp H
      obtain ⟨t191, A230, H⟩ := H
      have A23 := As0 A230
      clear A230
      have H' := As0 H
      clear H
      try go_wp2
      have m0_ := As0 (blk_drewN K188.out nd)
      have m1_ := As0 (bdN HB.out nd)
      clear K188 HB
      have K188 := m0_
      have HB := m1_
      clear m0_ m1_
      generalize wc.drewN nd = wd at K188 HB ⊢
      replace K188 := As0 (Qbr K188.out)
      replace HB := As0 (bd1 HB.out)
      have p190 : 0 ≤ ((ji20) : Int) := qR
      have q190 : (ji20) < (l0.length : Int) := qR
      obtain ⟨ad190, e190, hx190_0, hx190_1⟩ := Qcs R0.out (ji20) p190 q190
      have hw190_1 := hx190_1
      have hw190_0 := hx190_0
      obtain rfl : ad187 = ad190 := (by injection e190)
      replace hx190_0 := cl HB hx190_0
      replace hx190_1 := cl HB hx190_1
      replace p190 := eq_true p190
      replace q190 := eq_true q190
      refine Qcb (n := 13) (S := fun w' => w'.cell? ⟨gb188, 0, none⟩ = some (.int .i64 ((Qaa l0 x13_1).f0)) ∧ w'.cell? ⟨gb188, 1, none⟩ = some (.int .i64 ((Qaa l0 x13_1).f1)) ∧ w'.cell? (ad187.add (((ji20)).toNat * 2)) = some (.int .i64 ((Qaa l0 (ji20)).f0)) ∧ w'.cell? ⟨(ad187.add (((ji20)).toNat * 2)).block, (ad187.add (((ji20)).toNat * 2)).off + 1, none⟩ = some (.int .i64 ((Qaa l0 (ji20)).f1))) (ds := []) (bb 13 0) (by kernel_rfl) rfl rfl ⟨bc K188 0, bc K188 1, (cl HB hw190_0), (cl HB hw190_1)⟩ (fun hHeld => ?_); refine Qca Qas.tab8 Qas.bits8 (fun HT_ HW_ => ?_)
      generalize wd.drew = w24 at K188 HB hx190_0 hx190_1 hHeld ⊢
      refine pv HT_.out 0 36 (bb 13 1) ?_
      refine pv HT_.out 1 37 (bb 13 3) ?_
      refine pv HT_.out 2 38 (bb 13 7) ?_
      refine pv HT_.out 3 39 (bb 13 15) ?_
      refine pv HT_.out 4 40 (bb 13 31) ?_
      refine pv HT_.out 5 41 (bb 13 63) ?_
      refine pv HT_.out 6 42 (bb 13 127) ?_
      refine tv hHeld HT_.out HW_.out 7 43 (bb 13 255) ?_
      refine tv hHeld HT_.out HW_.out 8 44 (bb 13 511) ?_
      refine one_ (i := 9) (N := some 45) (bb 13 1023) rfl rfl (Qcd HT_.out (by kernel_rfl)) (by decide) (fun K hK => ?_)
      refine goes_ Tryz.func122 (by kernel_rfl) rfl #[.agg #[.int .i64 ((Qaa l0 (ji20)).f0), .int .i64 ((Qaa l0 (ji20)).f1)], .agg #[.int .i64 ((Qaa l0 x13_1).f0), .int .i64 ((Qaa l0 x13_1).f1)]] (by rfl) rfl rfl (by (try simp only [List.map_toArray, List.map_cons, List.map_nil]); first | done | (simp only [hji20]; rfl) | rfl | (simp only [List.length_drop, List.length_take]; rfl)) ?_
      with_reducible refine (Qa8.calls ((Qaa l0 (ji20)).f0) ((Qaa l0 (ji20)).f1) ((Qaa l0 x13_1).f0) ((Qaa l0 x13_1).f1) t191 _ A23.out).mono ?_
      rintro e w25 ⟨rfl, hb⟩
      refine ⟨_, rfl, ?_⟩
      replace K188 := kB K188 hb
      replace HB := sB HB hb
      (try clear hb)
      (try clear hb2)
      (try clear hk)
      (try clear hi)
      refine hK.out _ _ ⟨bc K188 0, bc K188 1, (cl HB hw190_0), (cl HB hw190_1)⟩ (fun hHeld => ?_)
      clear hK K
      refine Qb1 (a' := ?_) ?_ ?_
      rotate_left
      ·show Act.put _ (some 45) _ = _
       simp only [Act.put, sL1, sL2, sL3, Qbu, Qbv]
       rfl
      refine pv HT_.out 10 46 (bb 13 2047) ?_
      refine pv HT_.out 11 47 (bb 13 4095) ?_
      refine pv HT_.out 12 35 (bb 13 8191) ?_
      refine Qcy (Qco HT_.out (by kernel_rfl)) ?_
      try go_wp2
      go_meet
      case rel => exact ⟨_, (!t191), eR, H', ⟨by have := HK1.out; have := HJ7.out; first | omega | exact Nat.le_refl _⟩, ⟨bU K188.out⟩, ⟨BU HB.out⟩⟩
     case rest =>
      clear C17
      obtain ⟨kq, x35_16, rfl, HA, HJ16, K188, HB⟩ := hcut
      cases kq with
      | zero => exact absurd HA.out (by simp [Qas.j2])
      | succ kj16 =>
       have H := HA.out
       clear HA
       simp only [Qas.j2] at H
       by_cases c27 : x35_16 = true
       ·subst c27
        rw [if_pos rfl] at H
        obtain rfl := Option.some.inj H
        go_wp2
        go_ret
        exact ⟨oR, BU HB.out⟩
       replace c27 := Bool.eq_false_iff.mpr c27
       subst c27
       rw [if_neg bF] at H
       have H' := As0 H
       clear H
       go_wp2
       go_roundg kj16
       case measure => have := HK1.out; have := HJ7.out; have := HJ16.out; omega
       case rel => exact ⟨(wrap64 (x13_1 + 1)), eR, H', ⟨by have := HK1.out; have := HJ7.out; have := HJ16.out; omega⟩, ⟨BU HB.out⟩⟩
def edge_Valid.l0 : Nat → Int → Int → Int → List (List (S47)) → Int → Int → Option (Int)
 | 0, _, _, _, _, _, _ => none
 | k + 1, x2, x3, x4, x23, x24, x25 => if x25 < x24 then (if 0 ≤ x25 then (if x25 < (x23.length : Int) then ((Qas.f k (Qax x23 x25) x2 x3 x4).bind fun t194 => (if t194 = 0 then (edge_Valid.l0 k x2 x3 x4 x23 x24 (wrap64 (x25 + 1))) else (some t194))) else (none)) else (none)) else (some 0)
def edge_Valid.f (k : Nat) (l0 : List (List (S47))) (a1 a2 a3 a4 : Int) : Option (Int) := if (l0.length : Int) = a1 then ((edge_total.f k l0).bind fun t192 => (if t192 > 1048576 then (some 6) else (edge_Valid.l0 k a2 a3 a4 l0 (l0.length : Int) 0))) else (some 14)
theorem edge_Valid.calls (k : Nat) (A0 : Option Addr) (c0 : Nat) (l0 : List (List (S47))) (a1 a2 a3 a4 r : Int) (w : World) (hr0 : Kd.C (Kd.slice 47 k47) w A0 l0.length l0) (hc0 : l0.length ≤ c0) (h : edge_Valid.f k l0 a1 a2 a3 a4 = some r) :
 Calls Tryz.prog 61 #[.slice A0 l0.length c0, .int .i64 a1, .int .i64 a2, .int .i64 a3, .int .i64 a4] w fun e w' => e = .returned (.int .i64 r) ∧ Below w.heap.size w w' := by
 have R0 := As0 hr0
 have C0 := As0 hc0
 clear hr0 hc0
 have HB := As0 (Below.refl w.heap.size w)
 have H : (if (l0.length : Int) = a1 then ((edge_total.f k l0).bind fun t192 => (if t192 > 1048576 then (some 6) else (edge_Valid.l0 k a2 a3 a4 l0 (l0.length : Int) 0))) else (some 14)) = some r := h
 clear h
 by_cases c6 : (l0.length : Int) = a1
 rotate_left
 ·rw [if_neg c6] at H
  have c6b0 : ((l0.length : Int) == a1) = false := beq_eq_false_iff_ne.mpr c6
  have c6b1 : ((l0.length : Int) != a1) = true := bne_iff_ne.mpr c6
  obtain rfl := Option.some.inj H
  go_enter Tryz.func61, Tryz.ntmps61
  go_wp2
  go_ret
  exact ⟨oR, BU HB.out⟩
 rw [if_pos c6] at H
 have c6b0 : ((l0.length : Int) == a1) = true := beq_iff_eq.mpr c6
 have c6b1 : ((l0.length : Int) != a1) = false := bne_eq_false_iff_eq.mpr c6
 clear c6
 replace H := Option.bind_eq_some_iff.mp H
 obtain ⟨t192, A70, H⟩ := H
 have A7 := As0 A70
 clear A70
 by_cases c8 : t192 > 1048576
 ·rw [if_pos c8] at H
  have c8b0 := decide_eq_true c8
  clear c8
  obtain rfl := Option.some.inj H
  go_enter Tryz.func61, Tryz.ntmps61
  go_wp2_with (first | ((with_reducible refine Qbo (f := 107) rfl ?_); refine gL (some 21) Tryz.func107 #[.slice A0 l0.length c0] ?_; (with_reducible refine (edge_total.calls k _ _ l0 t192 _ ?side1 ?side2 A7.out).mono ?_); (case side1 => repeat (first | exact R0.out | (with_reducible refine Kd.C_alloc ?_ _) | (with_reducible refine Kd.C_drewN ?_ _) | (with_reducible refine Kd.C_drew ?_))); (case side2 => exact C0.out); rintro e w' ⟨rfl, ⟨nd, rfl⟩⟩; refine ⟨_, rfl, ?_⟩))
  go_ret
  exact ⟨oR, BU HB.out⟩
 rw [if_neg c8] at H
 have c8b0 := decide_eq_false c8
 clear c8
 have H' := As0 H
 clear H
 go_enter Tryz.func61, Tryz.ntmps61
 go_wp2_with (first | ((with_reducible refine Qbo (f := 107) rfl ?_); refine gL (some 21) Tryz.func107 #[.slice A0 l0.length c0] ?_; (with_reducible refine (edge_total.calls k _ _ l0 t192 _ ?side1 ?side2 A7.out).mono ?_); (case side1 => repeat (first | exact R0.out | (with_reducible refine Kd.C_alloc ?_ _) | (with_reducible refine Kd.C_drewN ?_ _) | (with_reducible refine Kd.C_drew ?_))); (case side2 => exact C0.out); rintro e w' ⟨rfl, ⟨nd, rfl⟩⟩; refine ⟨_, rfl, ?_⟩))
 go_loopg [25] k (fun kq v25 w' => ∃ (x25_1 : Int), v25 = .int .i64 x25_1 ∧ Qbk (edge_Valid.l0 kq a2 a3 a4 l0 (l0.length : Int) x25_1 = some r) ∧ Qbk (kq ≤ k) ∧ Qbk (Below w.heap.size w w'))
 case atStart => exact ⟨(0), eR, H', ⟨Nat.le_refl _⟩, ⟨BU HB.out⟩⟩
 case round =>
  clear H'
  obtain ⟨x25_1, rfl, HA, HK1, HB⟩ := hrel
  cases gk with
  | zero => exact absurd HA.out (by simp [edge_Valid.l0])
  | succ k1 =>
   have H := HA.out
   clear HA
   simp only [edge_Valid.l0] at H
   by_cases c9 : x25_1 < (l0.length : Int)
   rotate_left
   ·rw [if_neg c9] at H
    have c9b0 := decide_eq_false c9
    clear c9
    obtain rfl := Option.some.inj H
    go_wp2
    go_ret
    exact ⟨oR, BU HB.out⟩
   rw [if_pos c9] at H
   have c9b0 := decide_eq_true c9
   clear c9
   by_cases c10 : 0 ≤ x25_1
   rotate_left
   ·rw [if_neg c10] at H
    exact absurd H (by simp)
   rw [if_pos c10] at H
   have c10b0 := decide_eq_true c10
   clear c10
   by_cases c11 : x25_1 < (l0.length : Int)
   rotate_left
   ·rw [if_neg c11] at H
    exact absurd H (by simp)
   rw [if_pos c11] at H
   have c11b0 := decide_eq_true c11
   clear c11
   replace H := Option.bind_eq_some_iff.mp H
   obtain ⟨t194, A120, H⟩ := H
   have A12 := As0 A120
   clear A120
   by_cases c13 : t194 = 0
   rotate_left
   ·rw [if_neg c13] at H
    have c13b0 : (t194 == 0) = false := beq_eq_false_iff_ne.mpr c13
    have c13b1 : (t194 != 0) = true := bne_iff_ne.mpr c13
    obtain rfl := Option.some.inj H
    have p193 : 0 ≤ (x25_1 : Int) := qR
    have q193 : x25_1 < (l0.length : Int) := qR
    obtain ⟨ad193, A193_0, c193_0, e193, hx193_0, hl193_0, hi193_0⟩ := Qek R0.out x25_1 p193 q193
    cases e193
    replace hx193_0 := cl HB hx193_0
    have R193_0 := As0 hi193_0
    have C193_0 := As0 hl193_0
    clear hi193_0 hl193_0
    replace p193 := eq_true p193
    replace q193 := eq_true q193
    go_wp2_with (first | ((with_reducible refine Qbo (f := 108) rfl ?_); refine gL (some 33) Tryz.func108 #[.slice A193_0 (Qax l0 x25_1).length c193_0, .int .i64 a2, .int .i64 a3, .int .i64 a4] ?_; (with_reducible refine (Qas.calls k1 _ _ (Qax l0 x25_1) a2 a3 a4 t194 _ ?side1 ?side2 A12.out).mono ?_); (case side1 => exact CU (Kd.C_below R193_0.out HB.out)); (case side2 => exact C193_0.out); rintro e w15 ⟨rfl, hb⟩; refine ⟨_, rfl, ?_⟩; replace HB := sB HB hb; (try clear hb)))
    go_ret
    exact ⟨oR, BU HB.out⟩
   rw [if_pos c13] at H
   have c13b0 : (t194 == 0) = true := beq_iff_eq.mpr c13
   have c13b1 : (t194 != 0) = false := bne_eq_false_iff_eq.mpr c13
   clear c13
   have H' := As0 H
   clear H
   have p193 : 0 ≤ (x25_1 : Int) := qR
   have q193 : x25_1 < (l0.length : Int) := qR
   obtain ⟨ad193, A193_0, c193_0, e193, hx193_0, hl193_0, hi193_0⟩ := Qek R0.out x25_1 p193 q193
   cases e193
   replace hx193_0 := cl HB hx193_0
   have R193_0 := As0 hi193_0
   have C193_0 := As0 hl193_0
   clear hi193_0 hl193_0
   replace p193 := eq_true p193
   replace q193 := eq_true q193
   go_wp2_with (first | ((with_reducible refine Qbo (f := 108) rfl ?_); refine gL (some 33) Tryz.func108 #[.slice A193_0 (Qax l0 x25_1).length c193_0, .int .i64 a2, .int .i64 a3, .int .i64 a4] ?_; (with_reducible refine (Qas.calls k1 _ _ (Qax l0 x25_1) a2 a3 a4 t194 _ ?side1 ?side2 A12.out).mono ?_); (case side1 => exact CU (Kd.C_below R193_0.out HB.out)); (case side2 => exact C193_0.out); rintro e w14 ⟨rfl, hb⟩; refine ⟨_, rfl, ?_⟩; replace HB := sB HB hb; (try clear hb)))
   go_roundg k1
   case measure => have := HK1.out; omega
   case rel => exact ⟨(wrap64 (x25_1 + 1)), eR, H', ⟨by have := HK1.out; omega⟩, ⟨BU HB.out⟩⟩
def Qbc.j0 : Nat → Bool → Int → Int → List (S39) → Int → Int → Int → List (S57) → List (List (S47)) → Option (Int)
 | 0, _, _, _, _, _, _, _, _, _ => none
 | k + 1, x34, x196000, x196001, x196002, x196003, x196004, x196005, x196006, x196007 => if x34 = true then (some 14) else ((edge_Valid.f k x196007 (x196002.length : Int) x196001 x196004 x196005).bind fun t198 => (some t198))
def Qbc.f (k : Nat) (a0_0 a0_1 : Int) (l0_2 : List (S39)) (a0_3 a0_4 a0_5 : Int) (l0_6 : List (S57)) (l0_7 : List (List (S47))) : Option (Int) := (Qa1.f k a0_0 a0_1 l0_2).bind fun t196 => (if t196 = 0 then ((Qah.f k a0_3 a0_4 a0_5 l0_6).bind fun t197 => (if t197 = 0 then (if (l0_2.length : Int) = (l0_6.length : Int) then (Qbc.j0 k (a0_0 != a0_3) a0_0 a0_1 l0_2 a0_3 a0_4 a0_5 l0_6 l0_7) else (Qbc.j0 k true a0_0 a0_1 l0_2 a0_3 a0_4 a0_5 l0_6 l0_7)) else (some t197))) else (some t196))
theorem Qbc.calls (k : Nat) (a0_0 a0_1 : Int) (A0_2 : Option Addr) (c0_2 : Nat) (l0_2 : List (S39)) (a0_3 a0_4 a0_5 : Int) (A0_6 : Option Addr) (c0_6 : Nat) (l0_6 : List (S57)) (A0_7 : Option Addr) (c0_7 : Nat) (l0_7 : List (List (S47))) (r : Int) (w : World) (hr0_2 : Kd.C k39 w A0_2 l0_2.length l0_2) (hc0_2 : l0_2.length ≤ c0_2) (hr0_6 : Kd.C k57 w A0_6 l0_6.length l0_6) (hc0_6 : l0_6.length ≤ c0_6) (hr0_7 : Kd.C (Kd.slice 47 k47) w A0_7 l0_7.length l0_7) (hc0_7 : l0_7.length ≤ c0_7) (h : Qbc.f k a0_0 a0_1 l0_2 a0_3 a0_4 a0_5 l0_6 l0_7 = some r) :
 Calls Tryz.prog 31 #[.agg #[.int .i64 a0_0, .int .i64 a0_1, .slice A0_2 l0_2.length c0_2, .int .i64 a0_3, .int .i64 a0_4, .int .i64 a0_5, .slice A0_6 l0_6.length c0_6, .slice A0_7 l0_7.length c0_7]] w fun e w' => e = .returned (.int .i64 r) ∧ Below w.heap.size w w' := by
 have hu30 := Tryz.underlying30
 have hu24 := Tryz.underlying24
 have hu27 := Tryz.underlying27
 have R0_2 := As0 hr0_2
 have C0_2 := As0 hc0_2
 clear hr0_2 hc0_2
 have R0_6 := As0 hr0_6
 have C0_6 := As0 hc0_6
 clear hr0_6 hc0_6
 have R0_7 := As0 hr0_7
 have C0_7 := As0 hc0_7
 clear hr0_7 hc0_7
 have HB := As0 (Below.refl w.heap.size w)
 have H : ((Qa1.f k a0_0 a0_1 l0_2).bind fun t196 => (if t196 = 0 then ((Qah.f k a0_3 a0_4 a0_5 l0_6).bind fun t197 => (if t197 = 0 then (if (l0_2.length : Int) = (l0_6.length : Int) then (Qbc.j0 k (a0_0 != a0_3) a0_0 a0_1 l0_2 a0_3 a0_4 a0_5 l0_6 l0_7) else (Qbc.j0 k true a0_0 a0_1 l0_2 a0_3 a0_4 a0_5 l0_6 l0_7)) else (some t197))) else (some t196))) = some r := h
 clear h
 replace H := Option.bind_eq_some_iff.mp H
 obtain ⟨t196, A20, H⟩ := H
 have A2 := As0 A20
 clear A20
 by_cases c3 : t196 = 0
 rotate_left
 ·rw [if_neg c3] at H
  have c3b0 : (t196 == 0) = false := beq_eq_false_iff_ne.mpr c3
  have c3b1 : (t196 != 0) = true := bne_iff_ne.mpr c3
  obtain rfl := Option.some.inj H
  go_enter Tryz.func31, Tryz.ntmps31
  go_wp2_with (first | ((with_reducible refine gD 1 ?_); refine bY HB.out ?_; intro gb195 w24 hg hb K195 GW195 HB; clear hb hg; have q25_ := cN8 K195.out) | ((with_reducible refine Qbo (f := 59) rfl ?_); refine gL (some 7) Tryz.func59 #[.agg #[.int .i64 a0_0, .int .i64 a0_1, .slice A0_2 l0_2.length c0_2]] ?_; (with_reducible refine (Qa1.calls k a0_0 a0_1 _ _ l0_2 t196 _ ?side1 ?side2 A2.out).mono ?_); (case side1 => exact CU (Kd.C_below R0_2.out HB.out)); (case side2 => exact C0_2.out); rintro e w26 ⟨rfl, hb⟩; refine ⟨_, rfl, ?_⟩; replace K195 := kB K195 hb; replace HB := sB HB hb; (try clear hb)))
  go_ret
  exact ⟨oR, BU HB.out⟩
 rw [if_pos c3] at H
 have c3b0 : (t196 == 0) = true := beq_iff_eq.mpr c3
 have c3b1 : (t196 != 0) = false := bne_eq_false_iff_eq.mpr c3
 clear c3
 replace H := Option.bind_eq_some_iff.mp H
 obtain ⟨t197, A40, H⟩ := H
 have A4 := As0 A40
 clear A40
 by_cases c5 : t197 = 0
 rotate_left
 ·rw [if_neg c5] at H
  have c5b0 : (t197 == 0) = false := beq_eq_false_iff_ne.mpr c5
  have c5b1 : (t197 != 0) = true := bne_iff_ne.mpr c5
  obtain rfl := Option.some.inj H
  go_enter Tryz.func31, Tryz.ntmps31
  go_wp2_with (first | ((with_reducible refine gD 1 ?_); refine bY HB.out ?_; intro gb195 w19 hg hb K195 GW195 HB; clear hb hg; have q20_ := cN8 K195.out) | ((with_reducible refine Qbo (f := 59) rfl ?_); refine gL (some 7) Tryz.func59 #[.agg #[.int .i64 a0_0, .int .i64 a0_1, .slice A0_2 l0_2.length c0_2]] ?_; (with_reducible refine (Qa1.calls k a0_0 a0_1 _ _ l0_2 t196 _ ?side1 ?side2 A2.out).mono ?_); (case side1 => exact CU (Kd.C_below R0_2.out HB.out)); (case side2 => exact C0_2.out); rintro e w21 ⟨rfl, hb⟩; refine ⟨_, rfl, ?_⟩; replace K195 := kB K195 hb; replace HB := sB HB hb; (try clear hb); have q22_ := cN8 K195.out) | ((with_reducible refine Qbo (f := 60) rfl ?_); refine gL (some 13) Tryz.func60 #[.agg #[.int .i64 a0_3, .int .i64 a0_4, .int .i64 a0_5, .slice A0_6 l0_6.length c0_6]] ?_; (with_reducible refine (Qah.calls k a0_3 a0_4 a0_5 _ _ l0_6 t197 _ ?side1 ?side2 A4.out).mono ?_); (case side1 => exact CU (Kd.C_below R0_6.out HB.out)); (case side2 => exact C0_6.out); rintro e w23 ⟨rfl, hb⟩; refine ⟨_, rfl, ?_⟩; replace K195 := kB K195 hb; replace HB := sB HB hb; (try clear hb)))
  go_ret
  exact ⟨oR, BU HB.out⟩
 rw [if_pos c5] at H
 have c5b0 : (t197 == 0) = true := beq_iff_eq.mpr c5
 have c5b1 : (t197 != 0) = false := bne_eq_false_iff_eq.mpr c5
 clear c5
 have C6 := As0 H
 clear H
 go_enter Tryz.func31, Tryz.ntmps31
 go_upto_region 7 with (first | ((with_reducible refine gD 1 ?_); refine bY HB.out ?_; intro gb195 w7 hg hb K195 GW195 HB; clear hb hg; have q8_ := cN8 K195.out) | ((with_reducible refine Qbo (f := 59) rfl ?_); refine gL (some 7) Tryz.func59 #[.agg #[.int .i64 a0_0, .int .i64 a0_1, .slice A0_2 l0_2.length c0_2]] ?_; (with_reducible refine (Qa1.calls k a0_0 a0_1 _ _ l0_2 t196 _ ?side1 ?side2 A2.out).mono ?_); (case side1 => exact CU (Kd.C_below R0_2.out HB.out)); (case side2 => exact C0_2.out); rintro e w9 ⟨rfl, hb⟩; refine ⟨_, rfl, ?_⟩; replace K195 := kB K195 hb; replace HB := sB HB hb; (try clear hb); have q10_ := cN8 K195.out) | ((with_reducible refine Qbo (f := 60) rfl ?_); refine gL (some 13) Tryz.func60 #[.agg #[.int .i64 a0_3, .int .i64 a0_4, .int .i64 a0_5, .slice A0_6 l0_6.length c0_6]] ?_; (with_reducible refine (Qah.calls k a0_3 a0_4 a0_5 _ _ l0_6 t197 _ ?side1 ?side2 A4.out).mono ?_); (case side1 => exact CU (Kd.C_below R0_6.out HB.out)); (case side2 => exact C0_6.out); rintro e w11 ⟨rfl, hb⟩; refine ⟨_, rfl, ?_⟩; replace K195 := kB K195 hb; replace HB := sB HB hb; (try clear hb)))
 (try simp only [Act.put, sL1, sL2, sL3])
 go_cut [34] (fun v34 wc => ∃ (kq : Nat) (x34_5 : Bool), v34 = .bool x34_5 ∧ Qbk (Qbc.j0 kq x34_5 a0_0 a0_1 l0_2 a0_3 a0_4 a0_5 l0_6 l0_7 = some r) ∧ Qbk (kq ≤ k) ∧ Qbk (wc.heap[gb195]? = some (.cells #[.int .i64 a0_0, .int .i64 a0_1, (.slice A0_2 l0_2.length c0_2), .int .i64 a0_3, .int .i64 a0_4, .int .i64 a0_5, (.slice A0_6 l0_6.length c0_6), (.slice A0_7 l0_7.length c0_7)] 30 (0, 0))) ∧ Qbk (Below w.heap.size w wc))
 case first =>
  have H := C6.out
  clear C6
  by_cases c12 : (l0_2.length : Int) = (l0_6.length : Int)
  rotate_left
  ·rw [if_neg c12] at H
   have c12b0 : ((l0_2.length : Int) == (l0_6.length : Int)) = false := beq_eq_false_iff_ne.mpr c12
   have c12b1 : ((l0_2.length : Int) != (l0_6.length : Int)) = true := bne_iff_ne.mpr c12
   have c12b2 : (l0_2.length == l0_6.length) = false := by first | simpa using c12 | (simp at c12 ⊢; omega)
   (first | rw [c12b0] | (simp only [Qbu, Qbv]; rw [c12b0]) | skip)
   have H' := As0 H
   clear H
   have q14_ := cN8 K195.out
   go_wp2
   go_meet
   case rel => exact ⟨_, (true), eR, H', ⟨by first | omega | exact Nat.le_refl _⟩, ⟨bU K195.out⟩, ⟨BU HB.out⟩⟩
  rw [if_pos c12] at H
  have c12b0 : ((l0_2.length : Int) == (l0_6.length : Int)) = true := beq_iff_eq.mpr c12
  have c12b1 : ((l0_2.length : Int) != (l0_6.length : Int)) = false := bne_eq_false_iff_eq.mpr c12
  have c12b2 : (l0_2.length == l0_6.length) = true := by first | simpa using c12 | (simp at c12 ⊢; omega)
  clear c12
  (first | rw [c12b0] | (simp only [Qbu, Qbv]; rw [c12b0]) | skip)
  have H' := As0 H
  clear H
  have q13_ := cN8 K195.out
  go_wp2
  go_meet
  case rel => exact ⟨_, ((a0_0 != a0_3)), eR, H', ⟨by first | omega | exact Nat.le_refl _⟩, ⟨bU K195.out⟩, ⟨BU HB.out⟩⟩
 case rest =>
  clear C6
  obtain ⟨kq, x34_5, rfl, HA, HJ5, K195, HB⟩ := hcut
  cases kq with
  | zero => exact absurd HA.out (by simp [Qbc.j0])
  | succ kj5 =>
   have H := HA.out
   clear HA
   simp only [Qbc.j0] at H
   by_cases c15 : x34_5 = true
   ·subst c15
    rw [if_pos rfl] at H
    obtain rfl := Option.some.inj H
    go_wp2
    go_ret
    exact ⟨oR, BU HB.out⟩
   replace c15 := Bool.eq_false_iff.mpr c15
   subst c15
   rw [if_neg bF] at H
   replace H := Option.bind_eq_some_iff.mp H
   obtain ⟨t198, A160, H⟩ := H
   have A16 := As0 A160
   clear A160
   obtain rfl := Option.some.inj H
   have q17_ := cN8 K195.out
   go_wp2_with (first | ((with_reducible refine Qbo (f := 61) rfl ?_); refine gL (some 50) Tryz.func61 #[.slice A0_7 l0_7.length c0_7, .int .i64 (l0_2.length : Int), .int .i64 a0_1, .int .i64 a0_4, .int .i64 a0_5] ?_; (with_reducible refine (edge_Valid.calls kj5 _ _ l0_7 (l0_2.length : Int) a0_1 a0_4 a0_5 t198 _ ?side1 ?side2 A16.out).mono ?_); (case side1 => exact CU (Kd.C_below R0_7.out HB.out)); (case side2 => exact C0_7.out); rintro e w18 ⟨rfl, hb⟩; refine ⟨_, rfl, ?_⟩; replace K195 := kB K195 hb; replace HB := sB HB hb; (try clear hb)))
   go_ret
   exact ⟨oR, BU HB.out⟩
def edge_Initial.f (a0_0 a0_1 a1 : Int) : Option (Bool) := if a0_0 < a1 then ((location_Slot.f a0_0).bind fun t257 => (some (a0_1 == t257))) else ((Qaq.f a0_1).bind fun t258 => (if t258 = true then ((Qbb.f a0_1).bind fun t259 => (some (decide (t259 ≥ a1)))) else (some true)))
theorem edge_Initial.calls (a0_0 a0_1 a1 : Int) (r : Bool) (w : World) (h : edge_Initial.f a0_0 a0_1 a1 = some r) :
 Calls Tryz.prog 109 #[.agg #[.int .i64 a0_0, .int .i64 a0_1], .int .i64 a1] w fun e w' => e = .returned (.bool r) ∧ Below w.heap.size w w' := by
 have hu47 := Tryz.underlying47
 have HB := As0 (Below.refl w.heap.size w)
 have H : (if a0_0 < a1 then ((location_Slot.f a0_0).bind fun t257 => (some (a0_1 == t257))) else ((Qaq.f a0_1).bind fun t258 => (if t258 = true then ((Qbb.f a0_1).bind fun t259 => (some (decide (t259 ≥ a1)))) else (some true)))) = some r := h
 clear h
 by_cases c3 : a0_0 < a1
 ·rw [if_pos c3] at H
  have c3b0 := decide_eq_true c3
  clear c3
  replace H := Option.bind_eq_some_iff.mp H
  obtain ⟨t257, A40, H⟩ := H
  have A4 := As0 A40
  clear A40
  obtain rfl := Option.some.inj H
  go_enter Tryz.func109, Tryz.ntmps109
  go_wp2_with (first | ((with_reducible refine gD 2 ?_); refine bY HB.out ?_; intro gb256 w5 hg hb K256 GW256 HB; clear hb hg; have q6_ := cN2 K256.out) | (go_at_call 151; (with_reducible refine (location_Slot.calls a0_0 t257 _ A4.out).mono ?_); rintro e w' ⟨rfl, ⟨nd, rfl⟩⟩; (try first | exact ⟨rfl, _, World.drewN_drewN _ _ _⟩ | exact ⟨rfl, _, Eq.trans (World.drewN_drewN _ _ _) (congrArg (World.drewN _) (Nat.add_assoc _ _ _))⟩)))
  repeat (go_quiet (first | ((with_reducible refine gD 2 ?_); refine bY HB.out ?_; intro gb256 w5 hg hb K256 GW256 HB; clear hb hg; have q6_ := cN2 K256.out) | (go_at_call 151; (with_reducible refine (location_Slot.calls a0_0 t257 _ A4.out).mono ?_); rintro e w' ⟨rfl, ⟨nd, rfl⟩⟩; (try first | exact ⟨rfl, _, World.drewN_drewN _ _ _⟩ | exact ⟨rfl, _, Eq.trans (World.drewN_drewN _ _ _) (congrArg (World.drewN _) (Nat.add_assoc _ _ _))⟩))); try go_wp2_with (first | ((with_reducible refine gD 2 ?_); refine bY HB.out ?_; intro gb256 w5 hg hb K256 GW256 HB; clear hb hg; have q6_ := cN2 K256.out) | (go_at_call 151; (with_reducible refine (location_Slot.calls a0_0 t257 _ A4.out).mono ?_); rintro e w' ⟨rfl, ⟨nd, rfl⟩⟩; (try first | exact ⟨rfl, _, World.drewN_drewN _ _ _⟩ | exact ⟨rfl, _, Eq.trans (World.drewN_drewN _ _ _) (congrArg (World.drewN _) (Nat.add_assoc _ _ _))⟩))))
  go_ret
  exact ⟨oR, BU HB.out⟩
 rw [if_neg c3] at H
 have c3b0 := decide_eq_false c3
 clear c3
 replace H := Option.bind_eq_some_iff.mp H
 obtain ⟨t258, A70, H⟩ := H
 have A7 := As0 A70
 clear A70
 by_cases c8 : t258 = true
 rotate_left
 ·replace c8 := Bool.eq_false_iff.mpr c8
  subst c8
  rw [if_neg bF] at H
  obtain rfl := Option.some.inj H
  go_enter Tryz.func109, Tryz.ntmps109
  go_wp2_with (first | ((with_reducible refine gD 2 ?_); refine bY HB.out ?_; intro gb256 w12 hg hb K256 GW256 HB; clear hb hg; have q13_ := cN2 K256.out) | (go_at_call 135; (with_reducible refine (Qaq.calls a0_1 false _ A7.out).mono ?_); rintro e w' ⟨rfl, ⟨nd, rfl⟩⟩; (try first | exact ⟨rfl, _, World.drewN_drewN _ _ _⟩ | exact ⟨rfl, _, Eq.trans (World.drewN_drewN _ _ _) (congrArg (World.drewN _) (Nat.add_assoc _ _ _))⟩)))
  repeat (go_quiet (first | ((with_reducible refine gD 2 ?_); refine bY HB.out ?_; intro gb256 w12 hg hb K256 GW256 HB; clear hb hg; have q13_ := cN2 K256.out) | (go_at_call 135; (with_reducible refine (Qaq.calls a0_1 false _ A7.out).mono ?_); rintro e w' ⟨rfl, ⟨nd, rfl⟩⟩; (try first | exact ⟨rfl, _, World.drewN_drewN _ _ _⟩ | exact ⟨rfl, _, Eq.trans (World.drewN_drewN _ _ _) (congrArg (World.drewN _) (Nat.add_assoc _ _ _))⟩))); try go_wp2_with (first | ((with_reducible refine gD 2 ?_); refine bY HB.out ?_; intro gb256 w12 hg hb K256 GW256 HB; clear hb hg; have q13_ := cN2 K256.out) | (go_at_call 135; (with_reducible refine (Qaq.calls a0_1 false _ A7.out).mono ?_); rintro e w' ⟨rfl, ⟨nd, rfl⟩⟩; (try first | exact ⟨rfl, _, World.drewN_drewN _ _ _⟩ | exact ⟨rfl, _, Eq.trans (World.drewN_drewN _ _ _) (congrArg (World.drewN _) (Nat.add_assoc _ _ _))⟩))))
  go_ret
  exact ⟨oR, BU HB.out⟩
 subst c8
 rw [if_pos rfl] at H
 replace H := Option.bind_eq_some_iff.mp H
 obtain ⟨t259, A90, H⟩ := H
 have A9 := As0 A90
 clear A90
 obtain rfl := Option.some.inj H
 go_enter Tryz.func109, Tryz.ntmps109
 go_wp2_with (first | ((with_reducible refine gD 2 ?_); refine bY HB.out ?_; intro gb256 w10 hg hb K256 GW256 HB; clear hb hg; have q11_ := cN2 K256.out) | (go_at_call 135; (with_reducible refine (Qaq.calls a0_1 true _ A7.out).mono ?_); rintro e w' ⟨rfl, ⟨nd, rfl⟩⟩; (try first | exact ⟨rfl, _, World.drewN_drewN _ _ _⟩ | exact ⟨rfl, _, Eq.trans (World.drewN_drewN _ _ _) (congrArg (World.drewN _) (Nat.add_assoc _ _ _))⟩)) | (go_at_call 152; (with_reducible refine (Qbb.calls a0_1 t259 _ A9.out).mono ?_); rintro e w' ⟨rfl, ⟨nd, rfl⟩⟩; (try first | exact ⟨rfl, _, World.drewN_drewN _ _ _⟩ | exact ⟨rfl, _, Eq.trans (World.drewN_drewN _ _ _) (congrArg (World.drewN _) (Nat.add_assoc _ _ _))⟩)))
 repeat (go_quiet (first | ((with_reducible refine gD 2 ?_); refine bY HB.out ?_; intro gb256 w10 hg hb K256 GW256 HB; clear hb hg; have q11_ := cN2 K256.out) | (go_at_call 135; (with_reducible refine (Qaq.calls a0_1 true _ A7.out).mono ?_); rintro e w' ⟨rfl, ⟨nd, rfl⟩⟩; (try first | exact ⟨rfl, _, World.drewN_drewN _ _ _⟩ | exact ⟨rfl, _, Eq.trans (World.drewN_drewN _ _ _) (congrArg (World.drewN _) (Nat.add_assoc _ _ _))⟩)) | (go_at_call 152; (with_reducible refine (Qbb.calls a0_1 t259 _ A9.out).mono ?_); rintro e w' ⟨rfl, ⟨nd, rfl⟩⟩; (try first | exact ⟨rfl, _, World.drewN_drewN _ _ _⟩ | exact ⟨rfl, _, Eq.trans (World.drewN_drewN _ _ _) (congrArg (World.drewN _) (Nat.add_assoc _ _ _))⟩))); try go_wp2_with (first | ((with_reducible refine gD 2 ?_); refine bY HB.out ?_; intro gb256 w10 hg hb K256 GW256 HB; clear hb hg; have q11_ := cN2 K256.out) | (go_at_call 135; (with_reducible refine (Qaq.calls a0_1 true _ A7.out).mono ?_); rintro e w' ⟨rfl, ⟨nd, rfl⟩⟩; (try first | exact ⟨rfl, _, World.drewN_drewN _ _ _⟩ | exact ⟨rfl, _, Eq.trans (World.drewN_drewN _ _ _) (congrArg (World.drewN _) (Nat.add_assoc _ _ _))⟩)) | (go_at_call 152; (with_reducible refine (Qbb.calls a0_1 t259 _ A9.out).mono ?_); rintro e w' ⟨rfl, ⟨nd, rfl⟩⟩; (try first | exact ⟨rfl, _, World.drewN_drewN _ _ _⟩ | exact ⟨rfl, _, Eq.trans (World.drewN_drewN _ _ _) (congrArg (World.drewN _) (Nat.add_assoc _ _ _))⟩))))
 go_ret
 exact ⟨oR, BU HB.out⟩
def edge_Entry.l0 : Nat → Int → List (S47) → Int → Int → Option (Int × Int × Int)
 | 0, _, _, _, _ => none
 | k + 1, x1, x8, x9, x10 => if x10 < x9 then (if 0 ≤ x10 then (if x10 < (x8.length : Int) then ((edge_Initial.f ((Qaa x8 x10).f0) ((Qaa x8 x10).f1) x1).bind fun t263 => (if t263 = true then (edge_Entry.l0 k x1 x8 x9 (wrap64 (x10 + 1))) else (some ((Qaa x8 x10).f0, (Qaa x8 x10).f1, 23)))) else (none)) else (none)) else (some (0, 0, 0))
def edge_Entry.f (k : Nat) (l0 : List (S47)) (a1 : Int) : Option (Int × Int × Int) := edge_Entry.l0 k a1 l0 (l0.length : Int) 0
theorem edge_Entry.calls (k : Nat) (A0 : Option Addr) (c0 : Nat) (l0 : List (S47)) (a1 r1 r2 r3 : Int) (w : World) (hr0 : Kd.C k47 w A0 l0.length l0) (hc0 : l0.length ≤ c0) (h : edge_Entry.f k l0 a1 = some (r1, r2, r3)) :
 Calls Tryz.prog 62 #[.slice A0 l0.length c0, .int .i64 a1] w fun e w' => e = .returned (.tuple #[.agg #[.int .i64 r1, .int .i64 r2], .int .i64 r3]) ∧ Below w.heap.size w w' := by
 have hu47 := Tryz.underlying47
 have R0 := As0 hr0
 have C0 := As0 hc0
 clear hr0 hc0
 have HB := As0 (Below.refl w.heap.size w)
 have H : (edge_Entry.l0 k a1 l0 (l0.length : Int) 0) = some (r1, r2, r3) := h
 clear h
 have H' := As0 H
 clear H
 go_enter Tryz.func62, Tryz.ntmps62
 go_wp2_with (first | ((with_reducible refine gD 4 ?_); refine bY HB.out ?_; intro gb260 w3 hg hb K260 GW260 HB; clear hb hg))
 go_loopg [10] k (fun kq v10 w' => ∃ (x10_1 : Int) (x261000_1 : Int) (x261001_1 : Int), v10 = .int .i64 x10_1 ∧ Qbk (edge_Entry.l0 kq a1 l0 (l0.length : Int) x10_1 = some (r1, r2, r3)) ∧ Qbk (kq ≤ k) ∧ Qbk (w'.heap[gb260]? = some (.cells #[.int .i64 x261000_1, .int .i64 x261001_1] 47 (0, 0))) ∧ Qbk (Below w.heap.size w w'))
 case atStart => exact ⟨(0), (0), (0), eR, H', ⟨Nat.le_refl _⟩, ⟨bU K260.out⟩, ⟨BU HB.out⟩⟩
 case round =>
  clear H'
  obtain ⟨x10_1, x261000_1, x261001_1, rfl, HA, HK1, K260, HB⟩ := hrel
  cases gk with
  | zero => exact absurd HA.out (by simp [edge_Entry.l0])
  | succ k1 =>
   have H := HA.out
   clear HA
   simp only [edge_Entry.l0] at H
   by_cases c4 : x10_1 < (l0.length : Int)
   rotate_left
   ·rw [if_neg c4] at H
    have c4b0 := decide_eq_false c4
    clear c4
    simp only [Option.some.injEq, Prod.mk.injEq] at H
    obtain ⟨rfl, rfl, rfl⟩ := H
    have q19_ := cN2 K260.out
    go_wp2
    refine bodyPost_ret (Qch rfl _ _ gb260 47 #[.int .i64 0, .int .i64 0] (0, 0) _ rfl (kV K260) Tryz.underlying47 rfl (by kernel_rfl)) rfl ?_
    exact ⟨oR, BU HB.out⟩
   rw [if_pos c4] at H
   have c4b0 := decide_eq_true c4
   clear c4
   by_cases c5 : 0 ≤ x10_1
   rotate_left
   ·rw [if_neg c5] at H
    exact absurd H (by simp)
   rw [if_pos c5] at H
   have c5b0 := decide_eq_true c5
   clear c5
   by_cases c6 : x10_1 < (l0.length : Int)
   rotate_left
   ·rw [if_neg c6] at H
    exact absurd H (by simp)
   rw [if_pos c6] at H
   have c6b0 := decide_eq_true c6
   clear c6
   replace H := Option.bind_eq_some_iff.mp H
   obtain ⟨t263, A70, H⟩ := H
   have A7 := As0 A70
   clear A70
   by_cases c8 : t263 = true
   rotate_left
   ·replace c8 := Bool.eq_false_iff.mpr c8
    subst c8
    rw [if_neg bF] at H
    simp only [Option.some.injEq, Prod.mk.injEq] at H
    obtain ⟨rfl, rfl, rfl⟩ := H
    have p261 : 0 ≤ (x10_1 : Int) := qR
    have q261 : x10_1 < (l0.length : Int) := qR
    obtain ⟨ad261, e261, hx261_0, hx261_1⟩ := Qcs R0.out x10_1 p261 q261
    cases e261
    replace hx261_0 := cl HB hx261_0
    replace hx261_1 := cl HB hx261_1
    replace p261 := eq_true p261
    replace q261 := eq_true q261
    go_wp2_with (first | ((with_reducible refine gD 7 ?_); refine bY HB.out ?_; intro gb262 w13 hg hb K262 GW262 HB; have N260_262 := pL hg K260; have N262_260 := pR hg K260; replace K260 := kB K260 hb; clear hb hg; have q15_ := cN2 K262.out) | ((with_reducible refine Qbo (f := 109) rfl ?_); refine gL (some 16) Tryz.func109 #[.agg #[.int .i64 ((Qaa l0 x10_1).f0), .int .i64 ((Qaa l0 x10_1).f1)], .int .i64 a1] ?_; (with_reducible refine (edge_Initial.calls ((Qaa l0 x10_1).f0) ((Qaa l0 x10_1).f1) a1 false _ A7.out).mono ?_); rintro e w16 ⟨rfl, hb⟩; refine ⟨_, rfl, ?_⟩; replace K260 := kF K260 hb; replace K262 := kP (.cells #[.int .i64 ((Qaa l0 x10_1).f0), .int .i64 ((Qaa l0 x10_1).f1)] 47 (0, 0)) K262 hb; replace HB := sB HB hb; (try clear hb); have q17_ := cN2 K262.out; have q18_ := cN2 K260.out))
    refine bodyPost_ret (Qch rfl _ _ gb260 47 #[.int .i64 ((Qaa l0 x10_1).f0), .int .i64 ((Qaa l0 x10_1).f1)] (0, 0) _ rfl (kV K260) Tryz.underlying47 rfl (by kernel_rfl)) rfl ?_
    exact ⟨oR, BU HB.out⟩
   subst c8
   rw [if_pos rfl] at H
   have H' := As0 H
   clear H
   have p261 : 0 ≤ (x10_1 : Int) := qR
   have q261 : x10_1 < (l0.length : Int) := qR
   obtain ⟨ad261, e261, hx261_0, hx261_1⟩ := Qcs R0.out x10_1 p261 q261
   cases e261
   replace hx261_0 := cl HB hx261_0
   replace hx261_1 := cl HB hx261_1
   replace p261 := eq_true p261
   replace q261 := eq_true q261
   go_wp2_with (first | ((with_reducible refine gD 7 ?_); refine bY HB.out ?_; intro gb262 w9 hg hb K262 GW262 HB; have N260_262 := pL hg K260; have N262_260 := pR hg K260; replace K260 := kB K260 hb; clear hb hg; have q11_ := cN2 K262.out) | ((with_reducible refine Qbo (f := 109) rfl ?_); refine gL (some 16) Tryz.func109 #[.agg #[.int .i64 ((Qaa l0 x10_1).f0), .int .i64 ((Qaa l0 x10_1).f1)], .int .i64 a1] ?_; (with_reducible refine (edge_Initial.calls ((Qaa l0 x10_1).f0) ((Qaa l0 x10_1).f1) a1 true _ A7.out).mono ?_); rintro e w12 ⟨rfl, hb⟩; refine ⟨_, rfl, ?_⟩; replace K260 := kF K260 hb; replace K262 := kP (.cells #[.int .i64 ((Qaa l0 x10_1).f0), .int .i64 ((Qaa l0 x10_1).f1)] 47 (0, 0)) K262 hb; replace HB := sB HB hb; (try clear hb)))
   go_roundg k1
   case measure => have := HK1.out; omega
   case rel => exact ⟨(wrap64 (x10_1 + 1)), (x261000_1), (x261001_1), eR, H', ⟨by have := HK1.out; omega⟩, ⟨bU K260.out⟩, ⟨BU HB.out⟩⟩
def Qa3.l0 : Nat → List (List (S47)) → Int → Int → Int → Int → List (S39) → Int → Int → Int → List (S57) → List (List (S47)) → Int → Int → Int → Int → Int → Int → Int → Option (Int × Int × Int × Int × Int × Int × Int)
 | 0, _, _, _, _, _, _, _, _, _, _, _, _, _, _, _, _, _, _ => none
 | k + 1, x14, x15, x16, x265000, x265001, x265002, x265003, x265004, x265005, x265006, x265007, x268000, x268001, x268002, x268003, x268004, x268005, x268006 => if x16 < x15 then (if 0 ≤ x16 then (if x16 < (x14.length : Int) then (Qa3.l0 k x14 x15 (wrap64 (x16 + 1)) x265000 x265001 x265002 x265003 x265004 x265005 x265006 x265007 x268000 x268001 x268002 x268003 x268004 x268005 (mx x268006 ((Qax x14 x16).length : Int))) else (none)) else (none)) else (if 0 < (x265007.length : Int) then ((edge_Entry.f k (Qax x265007 0) x265000).bind fun bt270 => (some (bt270.2.2, x268001, x268002, x268003, x268004, x268005, x268006))) else (none))
def Qa3.f (k : Nat) (a0_0 a0_1 : Int) (l0_2 : List (S39)) (a0_3 a0_4 a0_5 : Int) (l0_6 : List (S57)) (l0_7 : List (List (S47))) : Option (Int × Int × Int × Int × Int × Int × Int) := if 0 < (l0_7.length : Int) then (Qa3.l0 k l0_7 (l0_7.length : Int) 0 a0_0 a0_1 l0_2 a0_3 a0_4 a0_5 l0_6 l0_7 0 0 0 0 0 (wrap64 (1 + ((Qax l0_7 0).length : Int))) 0) else (none)
def Qa3.T7 : Bool × List (List Nat × List Nat) := (true, [([], []), ([0], [0]), ([1], [1]), ([2], [2]), ([], []), ([4], [4]), ([5], [5]), ([3, 6], [3, 6]), ([7], [7]), ([8], [8]), ([8], [8]), ([0, 1, 2, 3, 4, 5, 6, 7, 8, 9, 10], []), ([11, 10, 7, 0, 1, 2, 3, 4, 5, 6, 7, 8, 9, 10], [10, 11])])
def Qa3.B7 : List Nat := [0, 1, 3, 7, 0, 16, 48, 127, 255, 511, 511, 2047, 4095]
theorem Qa3.tab7 : rtab .any (opsOf Tryz.f32 7) = Qa3.T7 := by kernel_rfl
theorem Qa3.bits7 : Qcr Qa3.T7.2 Qa3.B7 = true := by kernel_rfl
theorem Qa3.calls (k : Nat) (a0_0 a0_1 : Int) (A0_2 : Option Addr) (c0_2 : Nat) (l0_2 : List (S39)) (a0_3 a0_4 a0_5 : Int) (A0_6 : Option Addr) (c0_6 : Nat) (l0_6 : List (S57)) (A0_7 : Option Addr) (c0_7 : Nat) (l0_7 : List (List (S47))) (r1 r2 r3 r4 r5 r6 r7 : Int) (w : World) (hr0_2 : Kd.C k39 w A0_2 l0_2.length l0_2) (hc0_2 : l0_2.length ≤ c0_2) (hr0_6 : Kd.C k57 w A0_6 l0_6.length l0_6) (hc0_6 : l0_6.length ≤ c0_6) (hr0_7 : Kd.C (Kd.slice 47 k47) w A0_7 l0_7.length l0_7) (hc0_7 : l0_7.length ≤ c0_7) (h : Qa3.f k a0_0 a0_1 l0_2 a0_3 a0_4 a0_5 l0_6 l0_7 = some (r1, r2, r3, r4, r5, r6, r7)) :
 Calls Tryz.prog 32 #[.agg #[.int .i64 a0_0, .int .i64 a0_1, .slice A0_2 l0_2.length c0_2, .int .i64 a0_3, .int .i64 a0_4, .int .i64 a0_5, .slice A0_6 l0_6.length c0_6, .slice A0_7 l0_7.length c0_7]] w fun e w' => e = .returned (.agg #[.int .i64 r1, .int .i64 r2, .int .i64 r3, .int .i64 r4, .int .i64 r5, .int .i64 r6, .int .i64 r7]) ∧ Below w.heap.size w w' := by
 have hu30 := Tryz.underlying30
 have hu51 := Tryz.underlying51
 have R0_2 := As0 hr0_2
 have C0_2 := As0 hc0_2
 clear hr0_2 hc0_2
 have R0_6 := As0 hr0_6
 have C0_6 := As0 hc0_6
 clear hr0_6 hc0_6
 have R0_7 := As0 hr0_7
 have C0_7 := As0 hc0_7
 clear hr0_7 hc0_7
 have HB := As0 (Below.refl w.heap.size w)
 have H : (if 0 < (l0_7.length : Int) then (Qa3.l0 k l0_7 (l0_7.length : Int) 0 a0_0 a0_1 l0_2 a0_3 a0_4 a0_5 l0_6 l0_7 0 0 0 0 0 (wrap64 (1 + ((Qax l0_7 0).length : Int))) 0) else (none)) = some (r1, r2, r3, r4, r5, r6, r7) := h
 clear h
 by_cases c2 : 0 < (l0_7.length : Int)
 rotate_left
 ·rw [if_neg c2] at H
  exact absurd H (by simp)
 rw [if_pos c2] at H
 have c2b0 := decide_eq_true c2
 have c2b1 : decide (0 < l0_7.length) = true := decide_eq_true (by omega)
 clear c2
 have H' := As0 H
 clear H
 go_enter Tryz.func32, Tryz.ntmps32
 go_wp2_with (first | ((with_reducible refine gD 1 ?_); refine bY HB.out ?_; intro gb264 w3 hg hb K264 GW264 HB; clear hb hg) | ((with_reducible refine gD 2 ?_); refine bY HB.out ?_; intro gb265 w4 hg hb K265 GW265 HB; have N264_265 := pL hg K264; have N265_264 := pR hg K264; replace K264 := kB K264 hb; clear hb hg; have q6_ := cN8 K264.out; have p266 : 0 ≤ (0 : Int) := (by omega); have q266 : 0 < (l0_7.length : Int) := qR; obtain ⟨ad266, A266_0, c266_0, e266, hx266_0, hl266_0, hi266_0⟩ := Qek R0_7.out 0 p266 q266; cases e266; have qi266 : (0 < l0_7.length) = True := eq_true (by omega); (try rw [show ((0 : Int)).toNat = 0 from rfl] at hx266_0); (try rw [Addr.add_zero'] at hx266_0); replace hx266_0 := cl HB hx266_0; have R266_0 := As0 hi266_0; have C266_0 := As0 hl266_0; clear hi266_0 hl266_0; replace p266 := eq_true p266; replace q266 := eq_true q266) | ((with_reducible refine gD 3 ?_); refine bY HB.out ?_; intro gb267 w7 hg hb K267 GW267 HB; have N264_267 := pL hg K264; have N267_264 := pR hg K264; replace K264 := kB K264 hb; have N265_267 := pL hg K265; have N267_265 := pR hg K265; replace K265 := kB K265 hb; clear hb hg; have q10_ := cN7 K267.out; have q11_ := cN8 K264.out))
 go_loopg [16] k (fun kq v16 w' => ∃ (x16_1 : Int) (x268006_1 : Int), v16 = .int .i64 x16_1 ∧ Qbk (Qa3.l0 kq l0_7 (l0_7.length : Int) x16_1 a0_0 a0_1 l0_2 a0_3 a0_4 a0_5 l0_6 l0_7 0 0 0 0 0 (wrap64 (1 + ((Qax l0_7 0).length : Int))) x268006_1 = some (r1, r2, r3, r4, r5, r6, r7)) ∧ Qbk (kq ≤ k) ∧ Qbk (w'.heap[gb264]? = some (.cells #[.int .i64 a0_0, .int .i64 a0_1, (.slice A0_2 l0_2.length c0_2), .int .i64 a0_3, .int .i64 a0_4, .int .i64 a0_5, (.slice A0_6 l0_6.length c0_6), (.slice (some ad266) l0_7.length c0_7)] 30 (0, 0))) ∧ Qbk (w'.heap[gb265]? = some (.cells #[.int .i64 0, .int .i64 0, .int .i64 0, .int .i64 0, .int .i64 0, .int .i64 0, .int .i64 0] 51 (0, 0))) ∧ Qbk (w'.heap[gb267]? = some (.cells #[.int .i64 0, .int .i64 0, .int .i64 0, .int .i64 0, .int .i64 0, .int .i64 (wrap64 (1 + ((Qax l0_7 0).length : Int))), .int .i64 x268006_1] 51 (0, 0))) ∧ Qbk (Below w.heap.size w w'))
 case atStart => exact ⟨(0), (0), eR, H', ⟨Nat.le_refl _⟩, ⟨kV K264⟩, ⟨kV K265⟩, ⟨kV K267⟩, ⟨BU HB.out⟩⟩
 case round =>
  clear H'
  obtain ⟨x16_1, x268006_1, rfl, HA, HK1, K264, K265, K267, HB⟩ := hrel
  cases gk with
  | zero => exact absurd HA.out (by simp [Qa3.l0])
  | succ k1 =>
   have H := HA.out
   clear HA
   simp only [Qa3.l0] at H
   by_cases c12 : x16_1 < (l0_7.length : Int)
   ·rw [if_pos c12] at H
    have c12b0 := decide_eq_true c12
    clear c12
    by_cases c13 : 0 ≤ x16_1
    rotate_left
    ·rw [if_neg c13] at H
     exact absurd H (by simp)
    rw [if_pos c13] at H
    have c13b0 := decide_eq_true c13
    clear c13
    by_cases c14 : x16_1 < (l0_7.length : Int)
    rotate_left
    ·rw [if_neg c14] at H
     exact absurd H (by simp)
    rw [if_pos c14] at H
    have c14b0 := decide_eq_true c14
    clear c14
    obtain ⟨ji15, hji15⟩ : ∃ j_ : Int, (mx x268006_1 ((Qax l0_7 x16_1).length : Int)) = j_ := ⟨_, rfl⟩
    replace H : (Qa3.l0 k1 l0_7 (l0_7.length : Int) (wrap64 (x16_1 + 1)) a0_0 a0_1 l0_2 a0_3 a0_4 a0_5 l0_6 l0_7 0 0 0 0 0 (wrap64 (1 + ((Qax l0_7 0).length : Int))) ji15) = some (r1, r2, r3, r4, r5, r6, r7) := by first | (rw [hji15] at H; exact H) | (simp only [hji15] at H ⊢; exact H)
    have hji15_ : (if x268006_1 < ((Qax l0_7 x16_1).length : Int) then ((Qax l0_7 x16_1).length : Int) else x268006_1) = ji15 := hji15
    have H' := As0 H
    clear H
    have p268 : 0 ≤ (x16_1 : Int) := qR
    have q268 : x16_1 < (l0_7.length : Int) := qR
    obtain ⟨ad268, A268_0, c268_0, e268, hx268_0, hl268_0, hi268_0⟩ := Qek R0_7.out x16_1 p268 q268
    obtain rfl : ad266 = ad268 := (by injection e268)
    replace hx268_0 := cl HB hx268_0
    have R268_0 := As0 hi268_0
    have C268_0 := As0 hl268_0
    clear hi268_0 hl268_0
    replace p268 := eq_true p268
    replace q268 := eq_true q268
    have q18_ := cN7 K267.out
    go_wp2
    go_roundg k1
    case measure => have := HK1.out; omega
    case rel => exact ⟨(wrap64 (x16_1 + 1)), (ji15), eR, H', ⟨by have := HK1.out; omega⟩, ⟨kV K264⟩, ⟨kV K265⟩, ⟨kV K267⟩, ⟨BU HB.out⟩⟩
   rw [if_neg c12] at H
   have c12b0 := decide_eq_false c12
   clear c12
   by_cases c19 : 0 < (l0_7.length : Int)
   rotate_left
   ·rw [if_neg c19] at H
    exact absurd H (by simp)
   rw [if_pos c19] at H
   have c19b0 := decide_eq_true c19
   have c19b1 : decide (0 < l0_7.length) = true := decide_eq_true (by omega)
   clear c19
   replace H := Option.bind_eq_some_iff.mp H
   obtain ⟨⟨t270, t271, t272⟩, A200, H⟩ := H
   have A20 := As0 A200
   clear A200
   simp only [Option.some.injEq, Prod.mk.injEq] at H
   obtain ⟨rfl, rfl, rfl, rfl, rfl, rfl, rfl⟩ := H
   try go_wp2
   replace K264 := As0 (Qbr K264.out)
   replace K265 := As0 (Qbr K265.out)
   replace K267 := As0 (Qbr K267.out)
   replace HB := As0 (bd1 HB.out)
   have p269 : 0 ≤ (0 : Int) := (by omega)
   have q269 : 0 < (l0_7.length : Int) := qR
   obtain ⟨ad269, A269_0, c269_0, e269, hx269_0, hl269_0, hi269_0⟩ := Qek R0_7.out 0 p269 q269
   have hw269_0 := hx269_0
   (try rw [show ((0 : Int)).toNat = 0 from rfl] at hw269_0)
   (try rw [show 0 * 1 = 0 from rfl] at hw269_0)
   (try rw [Addr.add_zero'] at hw269_0)
   obtain rfl : ad266 = ad269 := (by injection e269)
   have qi269 : (0 < l0_7.length) = True := eq_true (by omega)
   (try rw [show ((0 : Int)).toNat = 0 from rfl] at hx269_0)
   (try rw [Addr.add_zero'] at hx269_0)
   replace hx269_0 := cl HB hx269_0
   have R269_0 := As0 hi269_0
   have C269_0 := As0 hl269_0
   clear hi269_0 hl269_0
   replace p269 := eq_true p269
   replace q269 := eq_true q269
   refine Qcb (n := 13) (S := fun w' => w'.cell? ⟨gb264, 0, none⟩ = some (.int .i64 a0_0) ∧ w'.cell? ⟨gb264, 1, none⟩ = some (.int .i64 a0_1) ∧ w'.cell? ⟨gb264, 2, none⟩ = some (.slice A0_2 l0_2.length c0_2) ∧ w'.cell? ⟨gb264, 3, none⟩ = some (.int .i64 a0_3) ∧ w'.cell? ⟨gb264, 4, none⟩ = some (.int .i64 a0_4) ∧ w'.cell? ⟨gb264, 5, none⟩ = some (.int .i64 a0_5) ∧ w'.cell? ⟨gb264, 6, none⟩ = some (.slice A0_6 l0_6.length c0_6) ∧ w'.cell? ⟨gb264, 7, none⟩ = some (.slice (some ad266) l0_7.length c0_7) ∧ w'.cell? ad266 = some (.slice A269_0 (Qax l0_7 0).length c269_0)) (ds := []) (bb 13 0) (by kernel_rfl) rfl rfl ⟨bc K264 0, bc K264 1, bc K264 2, bc K264 3, bc K264 4, bc K264 5, bc K264 6, bc K264 7, (cl HB hw269_0)⟩ (fun hHeld => ?_); refine Qca Qa3.tab7 Qa3.bits7 (fun HT_ HW_ => ?_)
   generalize wr.drew = w21 at K264 K265 K267 HB R269_0 hx269_0 hHeld ⊢
   refine pv HT_.out 0 28 (bb 13 1) ?_
   refine pv HT_.out 4 32 (bb 13 17) ?_
   refine pv HT_.out 5 33 (bb 13 49) ?_
   refine tv hHeld HT_.out HW_.out 1 29 (bb 13 51) ?_
   refine pv HT_.out 2 30 (bb 13 55) ?_
   refine tv hHeld HT_.out HW_.out 3 31 (bb 13 63) ?_
   refine tv hHeld HT_.out HW_.out 6 34 (bb 13 127) ?_
   refine one_ (i := 7) (N := some 35) (bb 13 255) rfl rfl (Qcd HT_.out (by kernel_rfl)) (by decide) (fun K hK => ?_)
   refine gG Tryz.func62 #[.slice A269_0 (Qax l0_7 0).length c269_0, .int .i64 a0_0] ?_
   with_reducible refine (edge_Entry.calls k1 _ _ (Qax l0_7 0) a0_0 t270 t271 t272 _ ?side1 ?side2 A20.out).mono ?_
   (case side1 => exact CU (Kd.C_below R269_0.out HB.out))
   (case side2 => exact C269_0.out)
   rintro e w22 ⟨rfl, hb⟩
   refine ⟨_, rfl, ?_⟩
   replace K264 := kB K264 hb
   replace K265 := kB K265 hb
   replace K267 := kB K267 hb
   replace HB := sB HB hb
   (try clear hb)
   (try clear hb2)
   (try clear hk)
   (try clear hi)
   refine hK.out _ _ ⟨bc K264 0, bc K264 1, bc K264 2, bc K264 3, bc K264 4, bc K264 5, bc K264 6, bc K264 7, (cl HB hw269_0)⟩ (fun hHeld => ?_)
   clear hK K
   refine Qb1 (a' := ?_) ?_ ?_
   rotate_left
   ·show Act.put _ (some 35) _ = _
    simp only [Act.put, sL1, sL2, sL3, Qbu, Qbv]
    rfl
   refine pv HT_.out 8 27 (bb 13 511) ?_
   refine pv HT_.out 9 36 (bb 13 1023) ?_
   refine pv HT_.out 10 37 (bb 13 2047) ?_
   refine pv HT_.out 11 38 (bb 13 4095) ?_
   refine one_ (i := 12) (N := none) (bb 13 8191) rfl rfl (Qcd HT_.out (by kernel_rfl)) (by decide) (fun K hK => ?_)
   have hs23 : w22.cell? ⟨gb267, 0, none⟩ = some (.int .i64 0) := bc K267 0
   have hfs23 := Qbp K267.out 0
   have hns23_0 := N264_267
   have hns23_1 := N265_267
   have hms23_0 := N267_264
   have hms23_1 := N267_265
   refine skip_ (w1 := ?_) (by rfl) rfl ?_ ?_
   rotate_left
   ·go_simp
    rfl
   refine hK.out _ _ ⟨((Qbq (p := ⟨gb267, _, none⟩) N264_267 _).trans (hHeld.1)), ((Qbq (p := ⟨gb267, _, none⟩) N264_267 _).trans (hHeld.2.1)), ((Qbq (p := ⟨gb267, _, none⟩) N264_267 _).trans (hHeld.2.2.1)), ((Qbq (p := ⟨gb267, _, none⟩) N264_267 _).trans (hHeld.2.2.2.1)), ((Qbq (p := ⟨gb267, _, none⟩) N264_267 _).trans (hHeld.2.2.2.2.1)), ((Qbq (p := ⟨gb267, _, none⟩) N264_267 _).trans (hHeld.2.2.2.2.2.1)), ((Qbq (p := ⟨gb267, _, none⟩) N264_267 _).trans (hHeld.2.2.2.2.2.2.1)), ((Qbq (p := ⟨gb267, _, none⟩) N264_267 _).trans (hHeld.2.2.2.2.2.2.2.1)), ((Qbq (p := ⟨gb267, _, none⟩) (by first | exact Nat.ne_of_lt (Nat.lt_of_lt_of_le (by have := World.block_lt_of_cell? _ _ hw269_0; first | rwa [Qdl] at this | exact this) GW267.out) | (rw [Qdl]; exact Nat.ne_of_lt (Nat.lt_of_lt_of_le (by have := World.block_lt_of_cell? _ _ hw269_0; first | rwa [Qdl] at this | exact this) GW267.out)) | (show (Addr.add _ _).block ≠ _; rw [Qdl]; exact Nat.ne_of_lt (Nat.lt_of_lt_of_le (by have := World.block_lt_of_cell? _ _ hw269_0; first | rwa [Qdl] at this | exact this) GW267.out)) | (dsimp only; exact Nat.ne_of_lt (Nat.lt_of_lt_of_le (by have := World.block_lt_of_cell? _ _ hw269_0; first | rwa [Qdl] at this | exact this) GW267.out))) _).trans (hHeld.2.2.2.2.2.2.2.2))⟩ (fun hHeld => ?_)
   clear hK K
   refine Qcy (Qco HT_.out (by kernel_rfl)) ?_
   have q26_ := cN7 K267.out
   have q28_ := cN7 K265.out
   try go_wp2
   refine bodyPost_ret (results_cell_row rfl _ _ gb265 51 #[.int .i64 t272, .int .i64 0, .int .i64 0, .int .i64 0, .int .i64 0, .int .i64 (wrap64 (1 + ((Qax l0_7 0).length : Int))), .int .i64 x268006_1] (0, 0) _ rfl (kV K265) Tryz.underlying51 rfl (by kernel_rfl)) rfl ?_
   exact ⟨oR, BU HB.out⟩
def edge_Implies.f (k : Nat) (l0 : List (S47)) (l1 : List (S47)) : Option (Int × Int × Int) := (Qab.f k l1 l0).bind fun bt409 => (if bt409.2.2 = true then (some (bt409.1, bt409.2.1, 22)) else (some (0, 0, 0)))
theorem edge_Implies.calls (k : Nat) (A0 : Option Addr) (c0 : Nat) (l0 : List (S47)) (A1 : Option Addr) (c1 : Nat) (l1 : List (S47)) (r1 r2 r3 : Int) (w : World) (hr0 : Kd.C k47 w A0 l0.length l0) (hc0 : l0.length ≤ c0) (hr1 : Kd.C k47 w A1 l1.length l1) (hc1 : l1.length ≤ c1) (h : edge_Implies.f k l0 l1 = some (r1, r2, r3)) :
 Calls Tryz.prog 35 #[.slice A0 l0.length c0, .slice A1 l1.length c1] w fun e w' => e = .returned (.tuple #[.agg #[.int .i64 r1, .int .i64 r2], .int .i64 r3]) ∧ Below w.heap.size w w' := by
 have hu47 := Tryz.underlying47
 have R0 := As0 hr0
 have C0 := As0 hc0
 clear hr0 hc0
 have R1 := As0 hr1
 have C1 := As0 hc1
 clear hr1 hc1
 have HB := As0 (Below.refl w.heap.size w)
 have H : ((Qab.f k l1 l0).bind fun bt409 => (if bt409.2.2 = true then (some (bt409.1, bt409.2.1, 22)) else (some (0, 0, 0)))) = some (r1, r2, r3) := h
 clear h
 replace H := Option.bind_eq_some_iff.mp H
 obtain ⟨⟨t409, t410, t411⟩, A30, H⟩ := H
 have A3 := As0 A30
 clear A30
 by_cases c4 : t411 = true
 ·subst c4
  rw [if_pos rfl] at H
  simp only [Option.some.injEq, Prod.mk.injEq] at H
  obtain ⟨rfl, rfl, rfl⟩ := H
  go_enter Tryz.func35, Tryz.ntmps35
  go_wp2_with (first | ((with_reducible refine gD 4 ?_); refine bY HB.out ?_; intro gb408 w5 hg hb K408 GW408 HB; clear hb hg) | ((with_reducible refine Qbo (f := 67) rfl ?_); refine gL (some 11) Tryz.func67 #[.slice A1 l1.length c1, .slice A0 l0.length c0] ?_; (with_reducible refine (Qab.calls k _ _ l1 _ _ l0 t409 t410 true _ ?side1 ?side2 ?side3 ?side4 A3.out).mono ?_); (case side1 => exact CU (Kd.C_below R1.out HB.out)); (case side2 => exact C1.out); (case side3 => exact CU (Kd.C_below R0.out HB.out)); (case side4 => exact C0.out); rintro e w6 ⟨rfl, hb⟩; refine ⟨_, rfl, ?_⟩; replace K408 := kB K408 hb; replace HB := sB HB hb; (try clear hb)) | ((with_reducible refine gD 6 ?_); refine bY HB.out ?_; intro gb412 w7 hg hb K412 GW412 HB; have N408_412 := pL hg K408; have N412_408 := pR hg K408; replace K408 := kB K408 hb; clear hb hg; have q9_ := cN2 K412.out; have q10_ := cN2 K408.out))
  refine bodyPost_ret (Qch rfl _ _ gb408 47 #[.int .i64 t409, .int .i64 t410] (0, 0) _ rfl (kV K408) Tryz.underlying47 rfl (by kernel_rfl)) rfl ?_
  exact ⟨oR, BU HB.out⟩
 replace c4 := Bool.eq_false_iff.mpr c4
 subst c4
 rw [if_neg bF] at H
 simp only [Option.some.injEq, Prod.mk.injEq] at H
 obtain ⟨rfl, rfl, rfl⟩ := H
 go_enter Tryz.func35, Tryz.ntmps35
 go_wp2_with (first | ((with_reducible refine gD 4 ?_); refine bY HB.out ?_; intro gb408 w11 hg hb K408 GW408 HB; clear hb hg) | ((with_reducible refine Qbo (f := 67) rfl ?_); refine gL (some 11) Tryz.func67 #[.slice A1 l1.length c1, .slice A0 l0.length c0] ?_; (with_reducible refine (Qab.calls k _ _ l1 _ _ l0 t409 t410 false _ ?side1 ?side2 ?side3 ?side4 A3.out).mono ?_); (case side1 => exact CU (Kd.C_below R1.out HB.out)); (case side2 => exact C1.out); (case side3 => exact CU (Kd.C_below R0.out HB.out)); (case side4 => exact C0.out); rintro e w12 ⟨rfl, hb⟩; refine ⟨_, rfl, ?_⟩; replace K408 := kB K408 hb; replace HB := sB HB hb; (try clear hb)) | ((with_reducible refine gD 6 ?_); refine bY HB.out ?_; intro gb412 w13 hg hb K412 GW412 HB; have N408_412 := pL hg K408; have N412_408 := pR hg K408; replace K408 := kB K408 hb; clear hb hg; have q15_ := cN2 K412.out; have q16_ := cN2 K408.out))
 refine bodyPost_ret (Qch rfl _ _ gb408 47 #[.int .i64 0, .int .i64 0] (0, 0) _ rfl (kV K408) Tryz.underlying47 rfl (by kernel_rfl)) rfl ?_
 exact ⟨oR, BU HB.out⟩
end Go.Proofs.YtchpkjgibloleaaGreat.Z
