/-
  The walk of begin.
-/
import Derived.Test.YtgkmagfajalnhaaTEMac
namespace Go.Proofs.Ytgkmagfajalnhaa.E
open Go.RowKit Go.Proofs.YtgkmagfajalnhaaW.PrintWords Go.Proofs.YtgkmagfajalnhaaW.PrintLast Go.Proofs.YtgkmagfajalnhaaW.PrintMore
set_option linter.unusedVariables false
set_option linter.unusedSimpArgs false

/-- The first run. -/
def beginP (fr fs : Int) (l : List Int) : PS := { st := 0, blk := 0, at_ := 0, val := 0, regs := List.replicate fr.toNat 0, slots := l.take (min l.length fs.toNat) ++ (List.replicate fs.toNat 0).drop (min l.length fs.toNat), trace := [], steps := 0 }
def zeroP : PS := { st := 0, blk := 0, at_ := 0, val := 0, regs := [], slots := [], trace := [], steps := 0 }

theorem St.new (w0 : World) (o1 : Obj) (fa fr fs : Int) (vB : Value) :
    St w0 ((w0.alloc o1).alloc (.cells (stc 0 0 0 0 (.slice none 0 0) (.slice none 0 0) (.slice none 0 0) 0 fa fr fs vB) 108 (0, 0))) (w0.heap.size + 1) (.slice none 0 0) (.slice none 0 0) zeroP (.slice none 0 0) fa fr fs vB := by
  have hs : (w0.alloc o1).heap.size = w0.heap.size + 1 := by simp
  refine ⟨?_, Kd.R_nil _ _ _ _ _, Kd.R_nil _ _ _ _ _, fun k hk => by simp [Value.ownBlock] at hk, Kd.R_nil _ _ _ _ _, fun k hk => by simp [Value.ownBlock] at hk, fun k hk => by simp [Value.ownBlock] at hk, by omega, below_alloc (below_alloc (Below.refl _ _) _) _⟩
  have := blk_new (w0.alloc o1) (.cells (stc 0 0 0 0 (.slice none 0 0) (.slice none 0 0) (.slice none 0 0) 0 fa fr fs vB) 108 (0, 0))
  rw [hs] at this
  exact this
theorem St.putRow {w0 w : World} {g : Nat} {vR vT : Value} {s : PS} {vS : Value} {fa fr fs : Int} {vB : Value} (h : St w0 w g vR vT s vS fa fr fs vB) (v1 : Value) (ys : List Int)
    (HR : (Kd.int .i64).R 2 w w0.heap.size (fun _ => True) v1 ys) (hT : ∀ k, v1.ownBlock = some k → some k ≠ vT.ownBlock) (hS : ∀ k, v1.ownBlock = some k → some k ≠ vS.ownBlock) : St w0 (w.setCell ⟨g, 4, none⟩ v1) g v1 vT { s with regs := ys } vS fa fr fs vB :=
  ⟨blk_set h.blk 4 v1, Kd.R_set HR h.blk tp108 4 v1, Kd.R_set h.trace h.blk tp108 4 v1, hT, Kd.R_set h.slots h.blk tp108 4 v1, hS, h.apST, h.above, below_set h.below h.above⟩
theorem St.putRowS {w0 w : World} {g : Nat} {vR vT : Value} {s : PS} {vS : Value} {fa fr fs : Int} {vB : Value} (h : St w0 w g vR vT s vS fa fr fs vB) (v1 : Value) (ys : List Int)
    (HR : (Kd.int .i64).R 2 w w0.heap.size (fun _ => True) v1 ys) (hR : ∀ k, vR.ownBlock = some k → some k ≠ v1.ownBlock) (hT : ∀ k, v1.ownBlock = some k → some k ≠ vT.ownBlock) : St w0 (w.setCell ⟨g, 5, none⟩ v1) g vR vT { s with slots := ys } v1 fa fr fs vB :=
  ⟨blk_set h.blk 5 v1, Kd.R_set h.regs h.blk tp108 5 v1, Kd.R_set h.trace h.blk tp108 5 v1, h.apart, Kd.R_set HR h.blk tp108 5 v1, hR, hT, h.above, below_set h.below h.above⟩
theorem St.copiedS {w0 w w1 : World} {g : Nat} {vR vT : Value} {s : PS} {vS : Value} {fa fr fs : Int} {vB : Value} (h : St w0 w g vR vT s vS fa fr fs vB) (ys : List Int)
    (HR : (Kd.int .i64).R 2 w1 w0.heap.size (fun _ => True) vS ys) (HB : Below w0.heap.size w0 w1) (HG : w.grownBy w1 vS.ownBlock) : St w0 w1 g vR vT { s with slots := ys } vS fa fr fs vB := by
  have hE : (Kd.int .i64).E = [] := by simp [Kd.int, Kd.scalar]
  exact ⟨blk_grown h.blk HG (h.not_own h.slots), Kd.R_grown2 h.regs hE HG (fun k hk e => h.apRS k e.symm hk.symm), Kd.R_grown2 h.trace hE HG (fun k hk e => h.apST k hk e), h.apart, HR, h.apRS, h.apST, h.above, HB⟩
theorem own_new {w : World} {b : Nat} {ok : Nat → Prop} {v v1 : Value} {xs : List Int} (h : (Kd.int .i64).R 2 w b ok v xs) (hn : ∃ b, v1.ownBlock = some b ∧ w.heap.size ≤ b) : ∀ k, v.ownBlock = some k → some k ≠ v1.ownBlock := fun k hk e => by
  obtain ⟨q, hq, hle⟩ := hn
  have := Kd.R_lt h k hk
  rw [hq] at e
  injection e with e
  omega

set_option maxRecDepth 100000 in
set_option maxHeartbeats 4000000 in
theorem begin_calls (w0 : World) (fa fr fs : Int) (A A1 : Option Addr) (n cB c1 : Nat) (l1 : List Int) (h0 : 0 ≤ fr) (hl : fr.toNat * 8 ≤ 281474976710656) (h2 : 0 ≤ fs) (hl2 : fs.toNat * 8 ≤ 281474976710656) (hR : (Kd.int .i64).C w0 A1 l1.length l1) (hc1 : l1.length ≤ c1) :
    Calls Try.prog 68 #[.agg #[.int .i64 fa, .int .i64 fr, .int .i64 fs, .slice A n cB], .slice A1 l1.length c1] w0 fun e W' =>
      ∃ g vR vS, e = .returned (.pointer (some ⟨g, 0, none⟩)) ∧ St w0 W' g vR (.slice none 0 0) (beginP fr fs l1) vS fa fr fs (.slice A n cB) := by
  have hu108 := Try.underlying108
  have hu39 := Try.underlying39
  have hu63 := Try.underlying63
  have hu61 := Try.underlying61
  have hu69 := Try.underlying69
  have hu67 := Try.underlying67
  have hu84 := Try.underlying84
  have hu48 := Try.underlying48
  have hu35 := Try.underlying35
  have HR1 := Aside0.mk hR
  clear hR
  have HS := (St.new w0 (.cells #[.int .i64 fa, .int .i64 fr, .int .i64 fs, .slice A n cB] 63 (0, 0)) fa fr fs (.slice A n cB)).drew
  have HX := blk_drew (blk_alloc (blk_new w0 (.cells #[.int .i64 fa, .int .i64 fr, .int .i64 fs, .slice A n cB] 63 (0, 0))) (.cells (stc 0 0 0 0 (.slice none 0 0) (.slice none 0 0) (.slice none 0 0) 0 fa fr fs (.slice A n cB)) 108 (0, 0)))
  have hne : w0.heap.size ≠ w0.heap.size + 1 := by omega
  have x1 := blk_cell HX 1
  have x2 := blk_cell HX 2
  simp only [List.getElem?_toArray, List.getElem?_cons_zero, List.getElem?_cons_succ] at x1 x2
  go_enter Try.func68, Try.ntmps68
  go_wp2
  refine start_ (n := 16) (S := fun w' => w'.cell? ⟨w0.heap.size, 1, none⟩ = some (.int .i64 fr) ∧ w'.cell? ⟨w0.heap.size, 2, none⟩ = some (.int .i64 fs)) (ds := [15]) (bb 16 0) (by kernel_rfl) rfl rfl ⟨x1, x2⟩ (fun hHeld => ?_)
  refine pu 0 9 (bb 16 1) ?_
  refine pu 1 10 (bb 16 3) ?_
  refine pu 2 11 (bb 16 7) ?_
  refine pu 5 14 (bb 16 39) ?_
  refine tu hHeld 3 12 (bb 16 47) ?_
  refine tu hHeld 6 15 (bb 16 111) ?_
  refine join_ (σ := Value × Value) 4 (bb 16 4095) (fun s_ => [(13, s_.1), (16, s_.2), (17, .pointer (some ⟨w0.heap.size + 1, 0, none⟩)), (18, .pointer (some ⟨w0.heap.size + 1, 0, none⟩)), (19, .pointer (some ⟨w0.heap.size + 1, 4, none⟩))]) (fun s_ w' => (w'.cell? ⟨w0.heap.size, 1, none⟩ = some (.int .i64 fr) ∧ w'.cell? ⟨w0.heap.size, 2, none⟩ = some (.int .i64 fs)) ∧ St w0 w' (w0.heap.size + 1) s_.1 (.slice none 0 0) { zeroP with regs := List.replicate fr.toNat 0 } (.slice none 0 0) fa fr fs (.slice A n cB) ∧ (Kd.int .i64).R 2 w' w0.heap.size (fun _ => True) s_.2 (List.replicate fs.toNat 0) ∧ ∀ k, s_.1.ownBlock = some k → some k ≠ s_.2.ownBlock) ?_ ?_
  rotate_left
  · intro hCont
    refine two_ (i := 4) (j := 7) (Ni := some 13) (Nj := some 16) (bb 16 127) (bb 16 239) rfl rfl rfl rfl (by kernel_rfl) (by decide) (by decide) (fun K hK => ?_) (fun K hK => ?_)
    · skip
      refine Kd.R_make_step (Kd.int .i64) _ 2 (by rfl) (N := 13) rfl 35 _ _ rfl fr rfl rfl Try.underlying35 (.int .i64 0) 8 info2 rfl (by decide) (by omega) 0 (ok := fun _ => True) (okp := fun _ => True) rfl (fun _ hk => hk) trivial h0 hl (Below.refl _ _) (Nat.le_refl _) ?_
      intro v4 w4 ho hb hg_ hn
      have HR4 := Kd.R_lower ho HS.below.size
      have HSn := HS.step hb
      have HXn := blk_below HX hb
      clear HS HX
      have HS := HSn
      have HX := HXn
      clear HSn HXn hb ho hg_ hn
      obtain ⟨A4, c4, e4⟩ := Kd.R_slice HR4
      generalize (List.replicate fr.toNat (0 : Int)).length = m4 at e4
      subst e4
      refine hK.out _ _ ⟨(blk_cell HX 1).trans rfl, (blk_cell HX 2).trans rfl⟩ (fun hHeld => ?_)
      clear hK K
      refine norm_ (a' := ?_) ?_ ?_
      rotate_left
      · show Act.put _ (some 13) _ = _
        simp only [Act.put, List.setIfInBounds_toArray, List.set_cons_zero, List.set_cons_succ, i64_w, i32_w]
        rfl
      refine pu 8 17 (bb 16 383) ?_
      refine pu 9 18 (bb 16 895) ?_
      refine pu 10 19 (bb 16 1919) ?_
      refine two_ (i := 7) (j := 11) (Ni := some 16) (Nj := none) (bb 16 2047) (bb 16 3967) rfl rfl rfl rfl (by kernel_rfl) (by decide) (by decide) (fun K hK => ?_) (fun K hK => ?_)
      · skip
        refine Kd.R_make_step (Kd.int .i64) _ 2 (by rfl) (N := 16) rfl 35 _ _ rfl fs rfl rfl Try.underlying35 (.int .i64 0) 8 info2 rfl (by decide) (by omega) 0 (ok := fun _ => True) (okp := fun _ => True) rfl (fun _ hk => hk) trivial h2 hl2 (Below.refl _ _) (Nat.le_refl _) ?_
        intro v7 w7 ho hb hg_ hn
        have HR7 := Kd.R_lower ho HS.below.size
        have hap := own_new HR4 hn
        have HSn := HS.step hb
        have HXn := blk_below HX hb
        clear HS HX
        have HS := HSn
        have HX := HXn
        clear HSn HXn
        have HRn := Kd.R_below HR4 hb
        clear HR4
        have HR4 := HRn
        clear HRn hb ho hg_ hn
        obtain ⟨A7, c7, e7⟩ := Kd.R_slice HR7
        generalize (List.replicate fs.toNat (0 : Int)).length = m7 at e7
        subst e7
        refine hK.out _ _ ⟨(blk_cell HX 1).trans rfl, (blk_cell HX 2).trans rfl⟩ (fun hHeld => ?_)
        clear hK K
        refine norm_ (a' := ?_) ?_ ?_
        rotate_left
        · show Act.put _ (some 16) _ = _
          simp only [Act.put, List.setIfInBounds_toArray, List.set_cons_zero, List.set_cons_succ, i64_w, i32_w]
          rfl
        refine one_ (i := 11) (N := none) (bb 16 4095) rfl rfl (by kernel_rfl) (by decide) (fun K hK => ?_)
        have f4 := HS.frozen 4
        have q4 := HS.cells.2.2.2.2.1
        refine skip_ (w1 := ?_) (by rfl) rfl ?_ ?_
        rotate_left
        · go_simp
          rfl
        have HSn := HS.putRow _ _ HR4 (fun k _ => by simp [Value.ownBlock]) (fun k _ => by simp [Value.ownBlock])
        have HRn := Kd.R_set HR7 HS.blk tp108 4 (.slice A4 m4 c4)
        clear HR7
        have HR7 := HRn
        clear HRn
        have HXn := blk_far (p := ⟨w0.heap.size + 1, 4, none⟩) HX hne (.slice A4 m4 c4)
        clear HS HR4 HX
        have HS := HSn
        have HX := HXn
        clear HSn HXn
        refine hK.out _ _ ⟨(blk_cell HX 1).trans rfl, (blk_cell HX 2).trans rfl⟩ (fun hHeld => ?_)
        clear hK K
        exact norm_ (by simp only [putAll, Act.put, List.setIfInBounds_toArray, List.set_cons_zero, List.set_cons_succ]) (hCont (.slice A4 m4 c4, .slice A7 m7 c7) _ ⟨hHeld, HS, HR7, hap⟩)
      · skip
        have f4 := HS.frozen 4
        have q4 := HS.cells.2.2.2.2.1
        refine skip_ (w1 := ?_) (by rfl) rfl ?_ ?_
        rotate_left
        · go_simp
          rfl
        have HSn := HS.putRow _ _ HR4 (fun k _ => by simp [Value.ownBlock]) (fun k _ => by simp [Value.ownBlock])
        have HXn := blk_far (p := ⟨w0.heap.size + 1, 4, none⟩) HX hne (.slice A4 m4 c4)
        clear HS HR4 HX
        have HS := HSn
        have HX := HXn
        clear HSn HXn
        refine hK.out _ _ ⟨(blk_cell HX 1).trans rfl, (blk_cell HX 2).trans rfl⟩ (fun hHeld => ?_)
        clear hK K
        refine one_ (i := 7) (N := some 16) (bb 16 4095) rfl rfl (by kernel_rfl) (by decide) (fun K hK => ?_)
        refine Kd.R_make_step (Kd.int .i64) _ 2 (by rfl) (N := 16) rfl 35 _ _ rfl fs rfl rfl Try.underlying35 (.int .i64 0) 8 info2 rfl (by decide) (by omega) 0 (ok := fun _ => True) (okp := fun _ => True) rfl (fun _ hk => hk) trivial h2 hl2 (Below.refl _ _) (Nat.le_refl _) ?_
        intro v7 w7 ho hb hg_ hn
        have HR7 := Kd.R_lower ho HS.below.size
        have hap := own_new HS.regs hn
        have HSn := HS.step hb
        have HXn := blk_below HX hb
        clear HS HX
        have HS := HSn
        have HX := HXn
        clear HSn HXn hb ho hg_ hn
        obtain ⟨A7, c7, e7⟩ := Kd.R_slice HR7
        generalize (List.replicate fs.toNat (0 : Int)).length = m7 at e7
        subst e7
        refine hK.out _ _ ⟨(blk_cell HX 1).trans rfl, (blk_cell HX 2).trans rfl⟩ (fun hHeld => ?_)
        clear hK K
        refine norm_ (a' := ?_) ?_ ?_
        rotate_left
        · show Act.put _ (some 16) _ = _
          simp only [Act.put, List.setIfInBounds_toArray, List.set_cons_zero, List.set_cons_succ, i64_w, i32_w]
          rfl
        exact norm_ (by simp only [putAll, Act.put, List.setIfInBounds_toArray, List.set_cons_zero, List.set_cons_succ]) (hCont (.slice A4 m4 c4, .slice A7 m7 c7) _ ⟨hHeld, HS, HR7, hap⟩)
    · skip
      refine Kd.R_make_step (Kd.int .i64) _ 2 (by rfl) (N := 16) rfl 35 _ _ rfl fs rfl rfl Try.underlying35 (.int .i64 0) 8 info2 rfl (by decide) (by omega) 0 (ok := fun _ => True) (okp := fun _ => True) rfl (fun _ hk => hk) trivial h2 hl2 (Below.refl _ _) (Nat.le_refl _) ?_
      intro v7 w7 ho hb hg_ hn
      have HR7 := Kd.R_lower ho HS.below.size
      have HSn := HS.step hb
      have HXn := blk_below HX hb
      clear HS HX
      have HS := HSn
      have HX := HXn
      clear HSn HXn hb ho hg_ hn
      obtain ⟨A7, c7, e7⟩ := Kd.R_slice HR7
      generalize (List.replicate fs.toNat (0 : Int)).length = m7 at e7
      subst e7
      refine hK.out _ _ ⟨(blk_cell HX 1).trans rfl, (blk_cell HX 2).trans rfl⟩ (fun hHeld => ?_)
      clear hK K
      refine norm_ (a' := ?_) ?_ ?_
      rotate_left
      · show Act.put _ (some 16) _ = _
        simp only [Act.put, List.setIfInBounds_toArray, List.set_cons_zero, List.set_cons_succ, i64_w, i32_w]
        rfl
      refine one_ (i := 4) (N := some 13) (bb 16 255) rfl rfl (by kernel_rfl) (by decide) (fun K hK => ?_)
      refine Kd.R_make_step (Kd.int .i64) _ 2 (by rfl) (N := 13) rfl 35 _ _ rfl fr rfl rfl Try.underlying35 (.int .i64 0) 8 info2 rfl (by decide) (by omega) 0 (ok := fun _ => True) (okp := fun _ => True) rfl (fun _ hk => hk) trivial h0 hl (Below.refl _ _) (Nat.le_refl _) ?_
      intro v4 w4 ho hb hg_ hn
      have HR4 := Kd.R_lower ho HS.below.size
      have hap : ∀ k, v4.ownBlock = some k → some k ≠ (Value.slice A7 m7 c7).ownBlock := fun k hk e => own_new HR7 hn k e.symm hk.symm
      have HSn := HS.step hb
      have HXn := blk_below HX hb
      clear HS HX
      have HS := HSn
      have HX := HXn
      clear HSn HXn
      have HRn := Kd.R_below HR7 hb
      clear HR7
      have HR7 := HRn
      clear HRn hb ho hg_ hn
      obtain ⟨A4, c4, e4⟩ := Kd.R_slice HR4
      generalize (List.replicate fr.toNat (0 : Int)).length = m4 at e4
      subst e4
      refine hK.out _ _ ⟨(blk_cell HX 1).trans rfl, (blk_cell HX 2).trans rfl⟩ (fun hHeld => ?_)
      clear hK K
      refine norm_ (a' := ?_) ?_ ?_
      rotate_left
      · show Act.put _ (some 13) _ = _
        simp only [Act.put, List.setIfInBounds_toArray, List.set_cons_zero, List.set_cons_succ, i64_w, i32_w]
        rfl
      refine pu 8 17 (bb 16 511) ?_
      refine pu 9 18 (bb 16 1023) ?_
      refine pu 10 19 (bb 16 2047) ?_
      refine one_ (i := 11) (N := none) (bb 16 4095) rfl rfl (by kernel_rfl) (by decide) (fun K hK => ?_)
      have f4 := HS.frozen 4
      have q4 := HS.cells.2.2.2.2.1
      refine skip_ (w1 := ?_) (by rfl) rfl ?_ ?_
      rotate_left
      · go_simp
        rfl
      have HSn := HS.putRow _ _ HR4 (fun k _ => by simp [Value.ownBlock]) (fun k _ => by simp [Value.ownBlock])
      have HRn := Kd.R_set HR7 HS.blk tp108 4 (.slice A4 m4 c4)
      clear HR7
      have HR7 := HRn
      clear HRn
      have HXn := blk_far (p := ⟨w0.heap.size + 1, 4, none⟩) HX hne (.slice A4 m4 c4)
      clear HS HR4 HX
      have HS := HSn
      have HX := HXn
      clear HSn HXn
      refine hK.out _ _ ⟨(blk_cell HX 1).trans rfl, (blk_cell HX 2).trans rfl⟩ (fun hHeld => ?_)
      clear hK K
      exact norm_ (by simp only [putAll, Act.put, List.setIfInBounds_toArray, List.set_cons_zero, List.set_cons_succ]) (hCont (.slice A4 m4 c4, .slice A7 m7 c7) _ ⟨hHeld, HS, HR7, hap⟩)
  rintro ⟨v4, v7⟩ w7 ⟨hHeld, HS', HR7, hap⟩
  dsimp only at HS' HR7 hap
  have HS := HS'
  clear HS'
  obtain ⟨A7, c7, e7⟩ := Kd.R_slice HR7
  generalize (List.replicate fs.toNat (0 : Int)).length = m7 at e7
  subst e7
  have f5 := HS.frozen 5
  have q5 := HS.cells.2.2.2.2.2.1
  refine norm_ (a' := ?_) ?_ ?_
  rotate_left
  · simp only [putAll, Act.put, List.setIfInBounds_toArray, List.set_cons_zero, List.set_cons_succ]
    rfl
  refine pu 12 20 (bb 16 8191) ?_
  refine pu 13 21 (bb 16 16383) ?_
  refine pu 14 22 (bb 16 32767) ?_
  refine last_ (i := 15) (N := none) (bb 16 65535) rfl rfl (by kernel_rfl) (by decide) (fun K hK => ?_)
  refine skip_ (w1 := ?_) (by rfl) rfl ?_ ?_
  rotate_left
  · go_simp
    rfl
  refine hK.out _ _ ?_
  clear hK K
  refine done_ (by kernel_rfl) ?_
  have HS2 := Aside0.mk (HS.putRowS _ _ HR7 hap (fun k _ => by simp [Value.ownBlock]))
  generalize w7.setCell ⟨w0.heap.size + 1, 5, none⟩ (.slice A7 m7 c7) = w8 at HS2 ⊢
  clear HS HR7 hap f5 q5
  (obtain ⟨q0, q1, q2, q3, q4, q5, q6, q7, q8, q9, q10, q11⟩ := St.cells (Aside0.out HS2); have f0 := St.frozen (Aside0.out HS2) 0; have f1 := St.frozen (Aside0.out HS2) 1; have f2 := St.frozen (Aside0.out HS2) 2; have f3 := St.frozen (Aside0.out HS2) 3; have f4 := St.frozen (Aside0.out HS2) 4; have f5 := St.frozen (Aside0.out HS2) 5; have f6 := St.frozen (Aside0.out HS2) 6; have f7 := St.frozen (Aside0.out HS2) 7; (try dsimp only at q0 q1 q2 q3 q4 q5 q6 q7 q8 q9 q10 q11))
  go_wp2_with ((with_reducible refine gate_builtin (b := .copy) rfl ?_); go_loud (refine Kd.R_copy (d := (0 : Int)) (w0 := w0) w0.heap.size rfl (.tmp 27) (.tmp 28) 35 35 2 rfl Try.underlying35 (by kernel_rfl) _ _ l1 A1 l1.length c1 (fun _ => True) rfl rfl HS2.out.slots (Kd.C_below HR1.out HS2.out.below) HS2.out.below HS2.out.below.size ?_); (clear q0 q1 q2 q3 q4 q5 q6 q7 q8 q9 q10 q11 f0 f1 f2 f3 f4 f5 f6 f7); intro w3 HR3 HB3 HG3; have HS3 := Aside0.mk (HS2.out.copiedS _ HR3 HB3 HG3); clear HR3 HB3 HG3 HS2)
  go_ret
  have hb : ({ zeroP with regs := List.replicate fr.toNat 0, slots := l1.take (min l1.length (List.replicate fs.toNat (0 : Int)).length) ++ (List.replicate fs.toNat (0 : Int)).drop (min l1.length (List.replicate fs.toNat (0 : Int)).length) } : PS) = beginP fr fs l1 := by
    rw [List.length_replicate]
    rfl
  have HS4 := HS3.out
  exact ⟨_, rfl, _, _, hb ▸ HS4⟩
end Go.Proofs.Ytgkmagfajalnhaa.E
