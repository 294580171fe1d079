/-
  A run's state in memory: twelve cells, three rows of its own; what the small steps make of it.
-/
import Derived.Test.YtgkmagfajalnhaaTE0
namespace Go.Proofs.Ytgkmagfajalnhaa.E
open Go.RowKit Go.Proofs.YtgkmagfajalnhaaW.PrintWords Go.Proofs.YtgkmagfajalnhaaW.PrintLast Go.Proofs.YtgkmagfajalnhaaW.PrintMore
set_option linter.unusedVariables false
set_option linter.unusedSimpArgs false

/-- A run, in plain words. -/
structure PS where
  st : Int
  blk : Int
  at_ : Int
  val : Int
  regs : List Int
  slots : List Int
  trace : List Int
  steps : Int

/-- The cells of a state. -/
def stc (st blk at_ val : Int) (vR vS vT : Value) (steps fa fr fs : Int) (vB : Value) : Array Value :=
  #[.int .i64 st, .int .i64 blk, .int .i64 at_, .int .i64 val, vR, vS, vT, .int .i64 steps, .int .i64 fa, .int .i64 fr, .int .i64 fs, vB]

/-- A state that lies in memory beyond the world w0. -/
structure St (w0 w : World) (g : Nat) (vR vT : Value) (s : PS) (vS : Value) (fa fr fs : Int) (vB : Value) : Prop where
  blk : w.heap[g]? = some (.cells (stc s.st s.blk s.at_ s.val vR vS vT s.steps fa fr fs vB) 108 (0, 0))
  regs : (Kd.int .i64).R 2 w w0.heap.size (fun _ => True) vR s.regs
  trace : (Kd.int .i64).R 2 w w0.heap.size (fun _ => True) vT s.trace
  apart : ∀ k, vR.ownBlock = some k → some k ≠ vT.ownBlock
  slots : (Kd.int .i64).R 2 w w0.heap.size (fun _ => True) vS s.slots
  apRS : ∀ k, vR.ownBlock = some k → some k ≠ vS.ownBlock
  apST : ∀ k, vS.ownBlock = some k → some k ≠ vT.ownBlock
  above : w0.heap.size ≤ g
  below : Below w0.heap.size w0 w

def termP (s : PS) (t : S48) : Option PS :=
  if t.f0 = 3 then
    (if 0 ≤ t.f1 ∧ t.f1 < s.regs.length then some { s with st := 1, val := rdOf (0 : Int) s.regs t.f1, steps := wrap64 (s.steps + 1) } else none)
  else if t.f0 = 1 then some { s with blk := t.f2, at_ := 0, steps := wrap64 (s.steps + 1) }
  else if 0 ≤ t.f1 ∧ t.f1 < s.regs.length then
    (if rdOf (0 : Int) s.regs t.f1 = 0 then some { s with blk := t.f3, at_ := 0, steps := wrap64 (s.steps + 1) } else some { s with blk := t.f2, at_ := 0, steps := wrap64 (s.steps + 1) })
  else none

theorem R_open {w : World} {base : Nat} {ok : Nat → Prop} {v : Value} {xs : List Int} (h : (Kd.int .i64).R 2 w base ok v xs) (i : Int) (h0 : 0 ≤ i) (h1 : i < xs.length) :
    ∃ b c, v = .slice (some ⟨b, 0, none⟩) xs.length c ∧ w.cell? ⟨b, i.toNat, none⟩ = some (.int .i64 (rdOf (0 : Int) xs i)) ∧ w.frozen? ⟨b, i.toNat, none⟩ = false := by
  obtain ⟨inner, ho⟩ := Kd.R_own h
  rcases ho.2 with ⟨rfl, hn⟩ | ⟨g, cap, cur, rfl, _⟩
  · omega
  · have := Kd.R_cell (d := (0 : Int)) h i h0 h1
    exact ⟨g, cap, rfl, this⟩

theorem tp108 : ∀ q, q ∈ (2 : Nat) :: (Kd.int .i64).E → q ≠ 108 := by simp [Kd.int, Kd.scalar]
/-- The state behind a store into one of its cells that hold no row. -/
theorem St.put {w0 w : World} {g : Nat} {vR vT : Value} {s : PS} {vS : Value} {fa fr fs : Int} {vB : Value} (h : St w0 w g vR vT s vS fa fr fs vB) (i : Nat) (u : Value) (s' : PS)
    (hr : s'.regs = s.regs) (hl : s'.slots = s.slots) (ht : s'.trace = s.trace)
    (e : (stc s.st s.blk s.at_ s.val vR vS vT s.steps fa fr fs vB).setIfInBounds i u = stc s'.st s'.blk s'.at_ s'.val vR vS vT s'.steps fa fr fs vB) : St w0 (w.setCell ⟨g, i, none⟩ u) g vR vT s' vS fa fr fs vB :=
  ⟨e ▸ blk_set h.blk i u, hr ▸ Kd.R_set h.regs h.blk tp108 i u, ht ▸ Kd.R_set h.trace h.blk tp108 i u, h.apart, hl ▸ Kd.R_set h.slots h.blk tp108 i u, h.apRS, h.apST, h.above, below_set h.below h.above⟩
theorem St.step {w0 w w1 : World} {g : Nat} {vR vT : Value} {s : PS} {vS : Value} {fa fr fs : Int} {vB : Value} (h : St w0 w g vR vT s vS fa fr fs vB) (hb : Below w.heap.size w w1) : St w0 w1 g vR vT s vS fa fr fs vB :=
  ⟨blk_below h.blk hb, Kd.R_below h.regs hb, Kd.R_below h.trace hb, h.apart, Kd.R_below h.slots hb, h.apRS, h.apST, h.above, below_step h.below hb⟩
theorem St.drew {w0 w : World} {g : Nat} {vR vT : Value} {s : PS} {vS : Value} {fa fr fs : Int} {vB : Value} (h : St w0 w g vR vT s vS fa fr fs vB) : St w0 w.drew g vR vT s vS fa fr fs vB :=
  ⟨h.blk, h.regs, h.trace, h.apart, h.slots, h.apRS, h.apST, h.above, below_drew1 h.below⟩
theorem St.drewN {w0 w : World} {g : Nat} {vR vT : Value} {s : PS} {vS : Value} {fa fr fs : Int} {vB : Value} (h : St w0 w g vR vT s vS fa fr fs vB) (n : Nat) : St w0 (w.drewN n) g vR vT s vS fa fr fs vB :=
  ⟨h.blk, h.regs, h.trace, h.apart, h.slots, h.apRS, h.apST, h.above, pw_below_drewN h.below n⟩
theorem St.not_own {w0 w : World} {g : Nat} {vR vT : Value} {s : PS} {vS : Value} {fa fr fs : Int} {vB : Value} (h : St w0 w g vR vT s vS fa fr fs vB) {v : Value} {xs : List Int} (hv : (Kd.int .i64).R 2 w w0.heap.size (fun _ => True) v xs) : some g ≠ v.ownBlock := fun e => by
  obtain ⟨inner, ho⟩ := Kd.R_own hv
  obtain ⟨cells, hc⟩ := own_typed ho g e.symm
  rw [h.blk] at hc
  injection hc with h1
  injection h1 with _ h2
  exact absurd h2 (by decide)
theorem St.mid {w0 w w1 : World} {g : Nat} {vR vT : Value} {s : PS} {vS : Value} {fa fr fs : Int} {vB : Value} (h : St w0 w g vR vT s vS fa fr fs vB) (HG : w.grownBy w1 vT.ownBlock) :
    w1.cell? ⟨g, 6, none⟩ = some vT ∧ w1.frozen? ⟨g, 6, none⟩ = false := by
  have hb : w1.heap[g]? = some (.cells (stc s.st s.blk s.at_ s.val vR vS vT s.steps fa fr fs vB) 108 (0, 0)) := blk_grown h.blk HG (h.not_own h.trace)
  exact ⟨(blk_cell hb 6).trans rfl, blk_frozen hb 6⟩
/-- The state behind an append to its trace (the world ahead of it has the appended row in a new block). -/
theorem St.appended {w0 w w1 : World} {g : Nat} {vR vT : Value} {s : PS} {vS : Value} {fa fr fs : Int} {vB : Value} (h : St w0 w g vR vT s vS fa fr fs vB) (v1 : Value) (ys : List Int)
    (HR : (Kd.int .i64).R 2 w1 w0.heap.size (fun _ => True) v1 ys) (HB : Below w0.heap.size w0 w1) (HG : w.grownBy w1 vT.ownBlock) (HA : v1.ownBlock = vT.ownBlock ∨ ∃ b, v1.ownBlock = some b ∧ w.heap.size ≤ b) :
    St w0 (w1.setCell ⟨g, 6, none⟩ v1) g vR v1 { s with trace := ys } vS fa fr fs vB := by
  have hE : (Kd.int .i64).E = [] := by simp [Kd.int, Kd.scalar]
  have hb : w1.heap[g]? = some (.cells (stc s.st s.blk s.at_ s.val vR vS vT s.steps fa fr fs vB) 108 (0, 0)) := blk_grown h.blk HG (h.not_own h.trace)
  have hr : (Kd.int .i64).R 2 w1 w0.heap.size (fun _ => True) vR s.regs := Kd.R_grown2 h.regs hE HG (fun k hk e => h.apart k e.symm hk.symm)
  have hs : (Kd.int .i64).R 2 w1 w0.heap.size (fun _ => True) vS s.slots := Kd.R_grown2 h.slots hE HG (fun k hk e => h.apST k e.symm hk.symm)
  have far : ∀ {v : Value} {xs : List Int}, (Kd.int .i64).R 2 w w0.heap.size (fun _ => True) v xs → (∀ k, v.ownBlock = some k → some k ≠ vT.ownBlock) → ∀ k, v.ownBlock = some k → some k ≠ v1.ownBlock := fun hv hap k hk e => by
    rcases HA with ha | ⟨q, ha, hq⟩
    · exact hap k hk (by rw [← ha]; exact e)
    · have := Kd.R_lt hv k hk
      rw [ha] at e
      injection e with e
      omega
  exact ⟨blk_set hb 6 v1, Kd.R_set hr hb tp108 6 v1, Kd.R_set HR hb tp108 6 v1, far h.regs h.apart, Kd.R_set hs hb tp108 6 v1, h.apRS, far h.slots h.apST, h.above, below_set HB h.above⟩
/-- The state behind a store into a register. -/
theorem St.putReg {w0 w : World} {g b n c : Nat} {vT : Value} {s : PS} {vS : Value} {fa fr fs : Int} {vB : Value} (h : St w0 w g (.slice (some ⟨b, 0, none⟩) n c) vT s vS fa fr fs vB) (i x : Int) :
    St w0 (w.setCell ⟨b, i.toNat, none⟩ (.int .i64 x)) g (.slice (some ⟨b, 0, none⟩) n c) vT { s with regs := s.regs.set i.toNat x } vS fa fr fs vB := by
  have hE : (Kd.int .i64).E = [] := by simp [Kd.int, Kd.scalar]
  obtain ⟨hp, hg⟩ := Kd.R_putg h.regs i x
  have hbo : (Value.slice (some ⟨b, 0, none⟩) n c).ownBlock = some b := by simp [Value.ownBlock]
  have hne : g ≠ b := fun e => h.not_own h.regs (by rw [hbo, e])
  have hbase : w0.heap.size ≤ b := by
    rcases Kd.R_base2 h.regs with e | ⟨k, e, hk⟩
    · rw [hbo] at e
      exact absurd e (by simp)
    · rw [hbo] at e
      injection e with e
      omega
  exact ⟨blk_far h.blk (by simpa using hne) _, hp, Kd.R_grown2 h.trace hE hg (fun k hk => by injection hk with hk; subst hk; exact h.apart _ hbo), h.apart,
    Kd.R_grown2 h.slots hE hg (fun k hk => by injection hk with hk; subst hk; exact h.apRS _ hbo), h.apRS, h.apST, h.above, below_set h.below hbase⟩
/-- The state behind a store into a slot. -/
theorem St.putSlot {w0 w : World} {g b n c : Nat} {vR vT : Value} {s : PS} {fa fr fs : Int} {vB : Value} (h : St w0 w g vR vT s (.slice (some ⟨b, 0, none⟩) n c) fa fr fs vB) (i x : Int) :
    St w0 (w.setCell ⟨b, i.toNat, none⟩ (.int .i64 x)) g vR vT { s with slots := s.slots.set i.toNat x } (.slice (some ⟨b, 0, none⟩) n c) fa fr fs vB := by
  have hE : (Kd.int .i64).E = [] := by simp [Kd.int, Kd.scalar]
  obtain ⟨hp, hg⟩ := Kd.R_putg h.slots i x
  have hbo : (Value.slice (some ⟨b, 0, none⟩) n c).ownBlock = some b := by simp [Value.ownBlock]
  have hne : g ≠ b := fun e => h.not_own h.slots (by rw [hbo, e])
  have hbase : w0.heap.size ≤ b := by
    rcases Kd.R_base2 h.slots with e | ⟨k, e, hk⟩
    · rw [hbo] at e
      exact absurd e (by simp)
    · rw [hbo] at e
      injection e with e
      omega
  exact ⟨blk_far h.blk (by simpa using hne) _, Kd.R_grown2 h.regs hE hg (fun k hk => by injection hk with hk; subst hk; exact fun e => h.apRS _ e.symm hbo.symm), Kd.R_grown2 h.trace hE hg (fun k hk => by injection hk with hk; subst hk; exact h.apST _ hbo), h.apart,
    hp, h.apRS, h.apST, h.above, below_set h.below hbase⟩
theorem St.cells {w0 w : World} {g : Nat} {vR vT : Value} {s : PS} {vS : Value} {fa fr fs : Int} {vB : Value} (h : St w0 w g vR vT s vS fa fr fs vB) :
    w.cell? ⟨g, 0, none⟩ = some (.int .i64 s.st) ∧ w.cell? ⟨g, 1, none⟩ = some (.int .i64 s.blk) ∧ w.cell? ⟨g, 2, none⟩ = some (.int .i64 s.at_) ∧ w.cell? ⟨g, 3, none⟩ = some (.int .i64 s.val) ∧
    w.cell? ⟨g, 4, none⟩ = some vR ∧ w.cell? ⟨g, 5, none⟩ = some vS ∧ w.cell? ⟨g, 6, none⟩ = some vT ∧ w.cell? ⟨g, 7, none⟩ = some (.int .i64 s.steps) ∧ w.cell? ⟨g, 8, none⟩ = some (.int .i64 fa) ∧
    w.cell? ⟨g, 9, none⟩ = some (.int .i64 fr) ∧ w.cell? ⟨g, 10, none⟩ = some (.int .i64 fs) ∧ w.cell? ⟨g, 11, none⟩ = some vB :=
  ⟨(blk_cell h.blk 0).trans rfl, (blk_cell h.blk 1).trans rfl, (blk_cell h.blk 2).trans rfl, (blk_cell h.blk 3).trans rfl, (blk_cell h.blk 4).trans rfl, (blk_cell h.blk 5).trans rfl,
   (blk_cell h.blk 6).trans rfl, (blk_cell h.blk 7).trans rfl, (blk_cell h.blk 8).trans rfl, (blk_cell h.blk 9).trans rfl, (blk_cell h.blk 10).trans rfl, (blk_cell h.blk 11).trans rfl⟩
theorem St.reg {w0 w : World} {g b n c : Nat} {vT : Value} {s : PS} {vS : Value} {fa fr fs : Int} {vB : Value} (h : St w0 w g (.slice (some ⟨b, 0, none⟩) n c) vT s vS fa fr fs vB) (i : Int) (h0 : 0 ≤ i) (h1 : i < n) :
    w.cell? ⟨b, i.toNat, none⟩ = some (.int .i64 (rdOf (0 : Int) s.regs i)) ∧ w.frozen? ⟨b, i.toNat, none⟩ = false := Kd.R_celln (d := (0 : Int)) h.regs i h0 h1
theorem St.row {w0 w : World} {g : Nat} {vR vT : Value} {s : PS} {vS : Value} {fa fr fs : Int} {vB : Value} (h : St w0 w g vR vT s vS fa fr fs vB) (i : Int) (h0 : 0 ≤ i) (h1 : i < s.regs.length) :
    ∃ b n c, vR = .slice (some ⟨b, 0, none⟩) n c ∧ n = s.regs.length := by
  obtain ⟨b, c, e, _⟩ := R_open h.regs i h0 h1
  exact ⟨b, _, c, e, rfl⟩
theorem St.slot {w0 w : World} {g b n c : Nat} {vR vT : Value} {s : PS} {fa fr fs : Int} {vB : Value} (h : St w0 w g vR vT s (.slice (some ⟨b, 0, none⟩) n c) fa fr fs vB) (i : Int) (h0 : 0 ≤ i) (h1 : i < n) :
    w.cell? ⟨b, i.toNat, none⟩ = some (.int .i64 (rdOf (0 : Int) s.slots i)) ∧ w.frozen? ⟨b, i.toNat, none⟩ = false := Kd.R_celln (d := (0 : Int)) h.slots i h0 h1
theorem St.rowS {w0 w : World} {g : Nat} {vR vT : Value} {s : PS} {vS : Value} {fa fr fs : Int} {vB : Value} (h : St w0 w g vR vT s vS fa fr fs vB) (i : Int) (h0 : 0 ≤ i) (h1 : i < s.slots.length) :
    ∃ b n c, vS = .slice (some ⟨b, 0, none⟩) n c ∧ n = s.slots.length := by
  obtain ⟨b, c, e, _⟩ := R_open h.slots i h0 h1
  exact ⟨b, _, c, e, rfl⟩
theorem St.frozen {w0 w : World} {g : Nat} {vR vT : Value} {s : PS} {vS : Value} {fa fr fs : Int} {vB : Value} (h : St w0 w g vR vT s vS fa fr fs vB) (i : Nat) : w.frozen? ⟨g, i, none⟩ = false := blk_frozen h.blk i
section
variable {P : Program} {ops : Array Oper} {rest : List Oper} {o : Oper} {a : Act} {Q : Exit → Act → World → Prop}
variable {w0 W : World} {g : Nat} {vR vT : Value} {s : PS} {vS : Value} {fa fr fs : Int} {vB : Value}
theorem St.box (H : Aside0 (St w0 W g vR vT s vS fa fr fs vB)) {N : Tmp} (cs : Array Value) (t : TypeId) (hne : (108 : Nat) ≠ t) (hgd : o.guard = none) (_hd : o.dst = some N)
    (hrun : (execOp a.eval o).run P W = .ok (.value (.pointer (some ⟨W.heap.size, 0, none⟩))) (W.alloc (.cells cs t (0, 0))))
    (h : ∀ gt w1, Aside0 (St w0 w1 g vR vT s vS fa fr fs vB) → Aside0 (w1.heap[gt]? = some (.cells cs t (0, 0))) → Aside0 (g ≠ gt ∧ w0.heap.size ≤ gt) → wpList P ops Q rest (a.put o.dst (.pointer (some ⟨gt, 0, none⟩))) w1) : wpList P ops Q (o :: rest) a W :=
  box_event hgd _hd hrun (fun gt hg w1 hb hbl => h gt w1 ⟨H.out.step hbl⟩ ⟨hb⟩ ⟨blk_ne (H.out.step hbl).blk hb hne, by rw [hg]; exact H.out.below.size⟩)
theorem St.store (H : Aside0 (St w0 W g vR vT s vS fa fr fs vB)) {gt : Nat} {cs : Array Value} {tx : TypeId} (HX : Aside0 (W.heap[gt]? = some (.cells cs tx (0, 0)))) (HN : Aside0 (g ≠ gt ∧ w0.heap.size ≤ gt)) (i : Nat) (u : Value) (s' : PS)
    (hr : s'.regs = s.regs) (hl : s'.slots = s.slots) (ht : s'.trace = s.trace)
    (e : (stc s.st s.blk s.at_ s.val vR vS vT s.steps fa fr fs vB).setIfInBounds i u = stc s'.st s'.blk s'.at_ s'.val vR vS vT s'.steps fa fr fs vB)
    (hgd : o.guard = none) {t : TypeId} {p : Tmp} {v : Operand} (ho : o.op = .store t (.tmp p) v) (hN : o.dst = none)
    (hrun : (execOp a.eval o).run P W = .ok .skip (W.setCell ⟨g, i, none⟩ u))
    (h : ∀ w', Aside0 (St w0 w' g vR vT s' vS fa fr fs vB) → Aside0 (w'.heap[gt]? = some (.cells cs tx (0, 0))) → wpList P ops Q rest a w') : wpList P ops Q (o :: rest) a W :=
  store_event hgd ho hN hrun (fun w' hw => h w' ⟨by rw [hw]; exact H.out.put i u s' hr hl ht e⟩ ⟨by rw [hw]; exact blk_far HX.out (fun e => HN.out.1 e.symm) _⟩)
end
end Go.Proofs.Ytgkmagfajalnhaa.E
