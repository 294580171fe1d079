/-
  The reference's run in memory: eight cells, rows of its own.
-/
import Derived.Test.YtgkmagfajalnhaaTEMac
namespace Go.Proofs.Ytgkmagfajalnhaa.E
open Go.RowKit Go.Proofs.YtgkmagfajalnhaaW.PrintWords Go.Proofs.YtgkmagfajalnhaaW.PrintLast Go.Proofs.YtgkmagfajalnhaaW.PrintMore
set_option linter.unusedVariables false
set_option linter.unusedSimpArgs false

def rtc (st blk at_ val : Int) (vR vS vT : Value) (steps : Int) : Array Value := #[.int .i64 st, .int .i64 blk, .int .i64 at_, .int .i64 val, vR, vS, vT, .int .i64 steps]
structure Rt (w0 w : World) (g : Nat) (vR vS vT : Value) (s : PS) : Prop where
  blk : w.heap[g]? = some (.cells (rtc s.st s.blk s.at_ s.val vR vS vT s.steps) 39 (0, 0))
  regs : (Kd.int .i64).R 2 w w0.heap.size (fun _ => True) vR s.regs
  slots : (Kd.int .i64).R 2 w w0.heap.size (fun _ => True) vS s.slots
  trace : (Kd.int .i64).R 2 w w0.heap.size (fun _ => True) vT s.trace
  apRT : ∀ k, vR.ownBlock = some k → some k ≠ vT.ownBlock
  apRS : ∀ k, vR.ownBlock = some k → some k ≠ vS.ownBlock
  apST : ∀ k, vS.ownBlock = some k → some k ≠ vT.ownBlock
  above : w0.heap.size ≤ g
  below : Below w0.heap.size w0 w
theorem rt_type : ∀ q, q ∈ (2 : Nat) :: (Kd.int .i64).E → q ≠ 39 := by simp [Kd.int, Kd.scalar]
section
variable {w0 w w1 : World} {g : Nat} {vR vS vT : Value} {s : PS}
theorem Rt.put (h : Rt w0 w g vR vS vT s) (i : Nat) (u : Value) (s' : PS) (hr : s'.regs = s.regs) (hl : s'.slots = s.slots) (ht : s'.trace = s.trace)
    (e : (rtc s.st s.blk s.at_ s.val vR vS vT s.steps).setIfInBounds i u = rtc s'.st s'.blk s'.at_ s'.val vR vS vT s'.steps) : Rt w0 (w.setCell ⟨g, i, none⟩ u) g vR vS vT s' :=
  ⟨e ▸ blk_set h.blk i u, hr ▸ Kd.R_set h.regs h.blk rt_type i u, hl ▸ Kd.R_set h.slots h.blk rt_type i u, ht ▸ Kd.R_set h.trace h.blk rt_type i u, h.apRT, h.apRS, h.apST, h.above, below_set h.below h.above⟩
theorem Rt.step (h : Rt w0 w g vR vS vT s) (hb : Below w.heap.size w w1) : Rt w0 w1 g vR vS vT s :=
  ⟨blk_below h.blk hb, Kd.R_below h.regs hb, Kd.R_below h.slots hb, Kd.R_below h.trace hb, h.apRT, h.apRS, h.apST, h.above, below_step h.below hb⟩
theorem Rt.drew (h : Rt w0 w g vR vS vT s) : Rt w0 w.drew g vR vS vT s := ⟨h.blk, h.regs, h.slots, h.trace, h.apRT, h.apRS, h.apST, h.above, below_drew1 h.below⟩
theorem Rt.drewN (h : Rt w0 w g vR vS vT s) (n : Nat) : Rt w0 (w.drewN n) g vR vS vT s := ⟨h.blk, h.regs, h.slots, h.trace, h.apRT, h.apRS, h.apST, h.above, pw_below_drewN h.below n⟩
theorem Rt.not_own (h : Rt w0 w g vR vS vT s) {v : Value} {xs : List Int} (hv : (Kd.int .i64).R 2 w w0.heap.size (fun _ => True) v xs) : some g ≠ v.ownBlock := fun e => by
  obtain ⟨inner, ho⟩ := Kd.R_own hv
  obtain ⟨cells, hc⟩ := own_typed ho g e.symm
  rw [h.blk] at hc
  injection hc with h1
  injection h1 with _ h2
  exact absurd h2 (by decide)
theorem Rt.mid (h : Rt w0 w g vR vS vT s) (HG : w.grownBy w1 vT.ownBlock) : w1.cell? ⟨g, 6, none⟩ = some vT ∧ w1.frozen? ⟨g, 6, none⟩ = false := by
  have hb : w1.heap[g]? = some (.cells (rtc s.st s.blk s.at_ s.val vR vS vT s.steps) 39 (0, 0)) := blk_grown h.blk HG (h.not_own h.trace)
  exact ⟨(blk_cell hb 6).trans rfl, blk_frozen hb 6⟩
theorem Rt.appended (h : Rt w0 w g vR vS vT s) (v1 : Value) (ys : List Int)
    (HR : (Kd.int .i64).R 2 w1 w0.heap.size (fun _ => True) v1 ys) (HB : Below w0.heap.size w0 w1) (HG : w.grownBy w1 vT.ownBlock) (HA : v1.ownBlock = vT.ownBlock ∨ ∃ b, v1.ownBlock = some b ∧ w.heap.size ≤ b) :
    Rt w0 (w1.setCell ⟨g, 6, none⟩ v1) g vR vS v1 { s with trace := ys } := by
  have hE : (Kd.int .i64).E = [] := by simp [Kd.int, Kd.scalar]
  have hb : w1.heap[g]? = some (.cells (rtc s.st s.blk s.at_ s.val vR vS vT s.steps) 39 (0, 0)) := blk_grown h.blk HG (h.not_own h.trace)
  have hr : (Kd.int .i64).R 2 w1 w0.heap.size (fun _ => True) vR s.regs := Kd.R_grown2 h.regs hE HG (fun k hk e => h.apRT k e.symm hk.symm)
  have hs : (Kd.int .i64).R 2 w1 w0.heap.size (fun _ => True) vS s.slots := Kd.R_grown2 h.slots hE HG (fun k hk e => h.apST k e.symm hk.symm)
  have far : ∀ {v : Value} {xs : List Int}, (Kd.int .i64).R 2 w w0.heap.size (fun _ => True) v xs → (∀ k, v.ownBlock = some k → some k ≠ vT.ownBlock) → ∀ k, v.ownBlock = some k → some k ≠ v1.ownBlock := fun hv hap k hk e => by
    rcases HA with ha | ⟨q, ha, hq⟩
    · exact hap k hk (by rw [← ha]; exact e)
    · have := Kd.R_lt hv k hk
      rw [ha] at e
      injection e with e
      omega
  exact ⟨blk_set hb 6 v1, Kd.R_set hr hb rt_type 6 v1, Kd.R_set hs hb rt_type 6 v1, Kd.R_set HR hb rt_type 6 v1, far h.regs h.apRT, h.apRS, far h.slots h.apST, h.above, below_set HB h.above⟩
theorem Rt.putReg {b n c : Nat} (h : Rt w0 w g (.slice (some ⟨b, 0, none⟩) n c) vS vT s) (i x : Int) :
    Rt w0 (w.setCell ⟨b, i.toNat, none⟩ (.int .i64 x)) g (.slice (some ⟨b, 0, none⟩) n c) vS vT { s with regs := s.regs.set i.toNat x } := by
  have hE : (Kd.int .i64).E = [] := by simp [Kd.int, Kd.scalar]
  obtain ⟨hp, hg⟩ := Kd.R_putg h.regs i x
  have hbo : (Value.slice (some ⟨b, 0, none⟩) n c).ownBlock = some b := by simp [Value.ownBlock]
  have hne : g ≠ b := fun e => h.not_own h.regs (by rw [hbo, e])
  have hbase : w0.heap.size ≤ b := by
    rcases Kd.R_base2 h.regs with e | ⟨k, e, hk⟩
    · rw [hbo] at e
      exact absurd e (by simp)
    · rw [hbo] at e
      injection e with e
      omega
  exact ⟨blk_far h.blk (by simpa using hne) _, hp, Kd.R_grown2 h.slots hE hg (fun k hk => by injection hk with hk; subst hk; exact h.apRS _ hbo), Kd.R_grown2 h.trace hE hg (fun k hk => by injection hk with hk; subst hk; exact h.apRT _ hbo), h.apRT, h.apRS, h.apST, h.above, below_set h.below hbase⟩
theorem Rt.putSlot {b n c : Nat} (h : Rt w0 w g vR (.slice (some ⟨b, 0, none⟩) n c) vT s) (i x : Int) :
    Rt w0 (w.setCell ⟨b, i.toNat, none⟩ (.int .i64 x)) g vR (.slice (some ⟨b, 0, none⟩) n c) vT { s with slots := s.slots.set i.toNat x } := by
  have hE : (Kd.int .i64).E = [] := by simp [Kd.int, Kd.scalar]
  obtain ⟨hp, hg⟩ := Kd.R_putg h.slots i x
  have hbo : (Value.slice (some ⟨b, 0, none⟩) n c).ownBlock = some b := by simp [Value.ownBlock]
  have hne : g ≠ b := fun e => h.not_own h.slots (by rw [hbo, e])
  have hbase : w0.heap.size ≤ b := by
    rcases Kd.R_base2 h.slots with e | ⟨k, e, hk⟩
    · rw [hbo] at e
      exact absurd e (by simp)
    · rw [hbo] at e
      injection e with e
      omega
  exact ⟨blk_far h.blk (by simpa using hne) _, Kd.R_grown2 h.regs hE hg (fun k hk => by injection hk with hk; subst hk; exact fun e => h.apRS _ e.symm hbo.symm), hp, Kd.R_grown2 h.trace hE hg (fun k hk => by injection hk with hk; subst hk; exact h.apST _ hbo), h.apRT, h.apRS, h.apST, h.above, below_set h.below hbase⟩
theorem Rt.cells (h : Rt w0 w g vR vS vT s) :
    w.cell? ⟨g, 0, none⟩ = some (.int .i64 s.st) ∧ w.cell? ⟨g, 1, none⟩ = some (.int .i64 s.blk) ∧ w.cell? ⟨g, 2, none⟩ = some (.int .i64 s.at_) ∧ w.cell? ⟨g, 3, none⟩ = some (.int .i64 s.val) ∧
    w.cell? ⟨g, 4, none⟩ = some vR ∧ w.cell? ⟨g, 5, none⟩ = some vS ∧ w.cell? ⟨g, 6, none⟩ = some vT ∧ w.cell? ⟨g, 7, none⟩ = some (.int .i64 s.steps) :=
  ⟨(blk_cell h.blk 0).trans rfl, (blk_cell h.blk 1).trans rfl, (blk_cell h.blk 2).trans rfl, (blk_cell h.blk 3).trans rfl, (blk_cell h.blk 4).trans rfl, (blk_cell h.blk 5).trans rfl, (blk_cell h.blk 6).trans rfl, (blk_cell h.blk 7).trans rfl⟩
theorem Rt.frozen (h : Rt w0 w g vR vS vT s) (i : Nat) : w.frozen? ⟨g, i, none⟩ = false := blk_frozen h.blk i
end
/-- The state that Copy's result makes, stored in a new block. -/
theorem Rt.made {w3 w4 w5 : World} {g : Nat} {vR vS vT : Value} {s : PS} (o : Obj) (h4 : Below w3.heap.size w3 w4)
    (hR : (Kd.int .i64).R 2 w4 w3.heap.size (fun k_ => some k_ ≠ vS.ownBlock ∧ some k_ ≠ vT.ownBlock) vR s.regs) (hS : (Kd.int .i64).R 2 w4 w3.heap.size (fun k_ => some k_ ≠ vR.ownBlock ∧ some k_ ≠ vT.ownBlock) vS s.slots) (hT : (Kd.int .i64).R 2 w4 w3.heap.size (fun k_ => some k_ ≠ vR.ownBlock ∧ some k_ ≠ vS.ownBlock) vT s.trace)
    (hgs : g = w4.heap.size) (hg : w5.heap[g]? = some (.cells (rtc s.st s.blk s.at_ s.val vR vS vT s.steps) 39 (0, 0))) (ho : ∀ i, i ≠ g → w5.heap[i]? = (w4.alloc o).heap[i]?) (hB : ∀ B w0, B ≤ g → Below B w0 (w4.alloc o) → Below B w0 w5) : Rt w3 w5 g vR vS vT s := by
  have hs := h4.size
  have mv : ∀ k, k < w4.heap.size → w5.heap[k]? = w4.heap[k]? := fun k hk => (ho k (by omega)).trans (Below.heap_alloc w4 o k hk)
  exact ⟨hg, Kd.R_mono (Kd.R_step hR (fun k _ hk => mv k hk)) (fun _ _ => trivial), Kd.R_mono (Kd.R_step hS (fun k _ hk => mv k hk)) (fun _ _ => trivial), Kd.R_mono (Kd.R_step hT (fun k _ hk => mv k hk)) (fun _ _ => trivial),
    fun k hk => (hR.1 k hk).2, fun k hk => (hR.1 k hk).1, fun k hk => (hS.1 k hk).2, by omega, hB _ _ (by omega) (below_alloc h4 o)⟩
section
variable {P : Program} {ops : Array Oper} {rest : List Oper} {o : Oper} {a : Act} {Q : Exit → Act → World → Prop}
variable {w0 W : World} {g : Nat} {vR vS vT : Value} {s : PS}
theorem Rt.store (H : Aside0 (Rt w0 W g vR vS vT s)) {gt : Nat} {cs : Array Value} {tx : TypeId} (HX : Aside0 (W.heap[gt]? = some (.cells cs tx (0, 0)))) (hne : Aside0 (g ≠ gt)) (i : Nat) (u : Value) (s' : PS)
    (hr : s'.regs = s.regs) (hl : s'.slots = s.slots) (ht : s'.trace = s.trace) (e : (rtc s.st s.blk s.at_ s.val vR vS vT s.steps).setIfInBounds i u = rtc s'.st s'.blk s'.at_ s'.val vR vS vT s'.steps)
    (hgd : o.guard = none) {t : TypeId} {p : Tmp} {v : Operand} (ho : o.op = .store t (.tmp p) v) (hN : o.dst = none)
    (hrun : (execOp a.eval o).run P W = .ok .skip (W.setCell ⟨g, i, none⟩ u))
    (h : ∀ w', Aside0 (Rt w0 w' g vR vS vT s') → Aside0 (w'.heap[gt]? = some (.cells cs tx (0, 0))) → wpList P ops Q rest a w') : wpList P ops Q (o :: rest) a W :=
  store_event hgd ho hN hrun (fun w' hw => h w' ⟨by rw [hw]; exact H.out.put i u s' hr hl ht e⟩ ⟨by rw [hw]; exact blk_far HX.out (fun e => hne.out e.symm) _⟩)
end
end Go.Proofs.Ytgkmagfajalnhaa.E
