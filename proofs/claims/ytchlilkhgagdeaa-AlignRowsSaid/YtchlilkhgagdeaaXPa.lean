/-
  What align.Code computes, in plain lists.
-/
import Derived.Test.YtchlilkhgagdeaaX5
import Derived.Test.YtchlilkhgagdeaaXSpec
namespace Go.Proofs.Ytchlilkhgagdeaa.X
open Go.RowKit Go.Proofs.YtchlilkhgagdeaaW.PrintWords Go.Proofs.Ytchlilkhgagdeaa.Spec
set_option linter.unusedVariables false

def pc (x : S25) : Bool := x.f0 == 2
def pm (x : S28) : Bool := x.f0 == 18
def same (x : S25) (y : S28) : Bool := (x.f0 == y.f0 && x.f4 == y.f4) && (!(x.f0 == 2) && !(x.f0 == 18))
def row45 (r : RowT) : S45 := ⟨r.cf, r.ct, r.mf, r.mt, r.s, r.m⟩

theorem align_same (x : S25) (y : S28) : align_Same.f x.f0 x.f1 x.f2 x.f3 x.f4 y.f0 y.f1 y.f2 y.f3 y.f4 y.f5 y.f6 = some (same x y) := by
  unfold align_Same.f same
  by_cases h1 : x.f0 = y.f0
  · by_cases h2 : x.f4 = y.f4
    · by_cases h3 : x.f0 = 2
      · rw [if_pos h1, if_pos h2, if_pos h3]
        simp [h3]
      · rw [if_pos h1, if_pos h2, if_neg h3]
        simp [h1, h2, bne]
        intro _
        rw [← h1]
        simpa using h3
    · rw [if_pos h1, if_neg h2]
      simp [h2]
  · rw [if_neg h1]
    simp [h1]

theorem rd25 {l : List S25} {i : Nat} {x : S25} (h : l[i]? = some x) : rd_T25 l (i : Int) = x := by
  unfold rd_T25
  rw [List.getD_eq_getElem?_getD, Int.toNat_natCast, h]
  rfl
theorem rd28 {l : List S28} {i : Nat} {x : S28} (h : l[i]? = some x) : rd_T28 l (i : Int) = x := by
  unfold rd_T28
  rw [List.getD_eq_getElem?_getD, Int.toNat_natCast, h]
  rfl

/-- Where the skipping ends. -/
def stop {α : Type} (p : α → Bool) (l : List α) (i : Nat) : Nat :=
  match idx p (l.drop i) i with
  | [] => l.length
  | (a, _) :: _ => a

theorem stop_in {α : Type} {p : α → Bool} {l : List α} {i : Nat} {x : α} (h : l[i]? = some x) : stop p l i = if p x then stop p l (i + 1) else i := by
  have hi := (List.getElem?_eq_some_iff.1 h).1
  have e : l.drop i = x :: l.drop (i + 1) := by
    rw [List.drop_eq_getElem_cons hi]
    congr 1
    exact (List.getElem?_eq_some_iff.1 h).2
  unfold stop
  rw [e]
  simp only [idx]
  cases hp : p x <;> simp

theorem stop_out {α : Type} {p : α → Bool} {l : List α} {i : Nat} (h : l.length ≤ i) : stop p l i = l.length := by
  unfold stop
  rw [List.drop_eq_nil_of_le h]
  rfl

theorem skip_copied (l : List S25) (hl : l.length ≤ 100000) (d : Nat) : ∀ i : Nat, i ≤ l.length → l.length - i = d → Ev (fun k => align_skip_copied.l0 k l i) (stop pc l i : Int) := by
  induction d with
  | zero =>
    intro i h0 h1
    refine Ev.step (fun k => by rw [align_skip_copied.l0]) (Ev.neg (by omega) (Ev.step (fun k => by rw [align_skip_copied.j1]) (Ev.neg (by simp) (Ev.val ?_))))
    rw [stop_out (by omega)]
    omega
  | succ d ih =>
    intro i h0 h1
    have hi : i < l.length := by omega
    have hx := List.getElem?_eq_getElem hi
    refine Ev.step (fun k => by rw [align_skip_copied.l0]) (Ev.pos (by omega) (Ev.pos (by omega) (Ev.bindc (a := pc l[i]) (by rw [rd25 hx]; rfl) (Ev.step (fun k => by rw [align_skip_copied.j1]) ?_))))
    rw [stop_in hx]
    by_cases hp : pc l[i] = true
    · refine Ev.pos hp ?_
      rw [if_pos hp, w64s (by omega) (by omega)]
      exact ih (i + 1) (by omega) (by omega)
    · refine Ev.neg hp ?_
      rw [if_neg hp]
      exact Ev.val rfl

theorem skip_moved (l : List S28) (hl : l.length ≤ 100000) (d : Nat) : ∀ i : Nat, i ≤ l.length → l.length - i = d → Ev (fun k => align_skip_moved.l0 k l i) (stop pm l i : Int) := by
  induction d with
  | zero =>
    intro i h0 h1
    refine Ev.step (fun k => by rw [align_skip_moved.l0]) (Ev.neg (by omega) (Ev.step (fun k => by rw [align_skip_moved.j1]) (Ev.neg (by simp) (Ev.val ?_))))
    rw [stop_out (by omega)]
    omega
  | succ d ih =>
    intro i h0 h1
    have hi : i < l.length := by omega
    have hx := List.getElem?_eq_getElem hi
    refine Ev.step (fun k => by rw [align_skip_moved.l0]) (Ev.pos (by omega) (Ev.pos (by omega) (Ev.bindc (a := pm l[i]) (by rw [rd28 hx]; rfl) (Ev.step (fun k => by rw [align_skip_moved.j1]) ?_))))
    rw [stop_in hx]
    by_cases hp : pm l[i] = true
    · refine Ev.pos hp ?_
      rw [if_pos hp, w64s (by omega) (by omega)]
      exact ih (i + 1) (by omega) (by omega)
    · refine Ev.neg hp ?_
      rw [if_neg hp]
      exact Ev.val rfl

theorem skip_copied_f (l : List S25) (hl : l.length ≤ 100000) (i : Nat) (hi : i ≤ l.length) : Ev (fun k => align_skip_copied.f k l i) (stop pc l i : Int) := skip_copied l hl _ i hi rfl
theorem skip_moved_f (l : List S28) (hl : l.length ≤ 100000) (i : Nat) (hi : i ≤ l.length) : Ev (fun k => align_skip_moved.f k l i) (stop pm l i : Int) := skip_moved l hl _ i hi rfl
theorem stop_nil {α : Type} {p : α → Bool} {l : List α} {i : Nat} (h : idx p (l.drop i) i = []) : stop p l i = l.length := by unfold stop; rw [h]
theorem stop_cons {α : Type} {p : α → Bool} {l : List α} {i a : Nat} {x : α} {t : List (Nat × α)} (h : idx p (l.drop i) i = (a, x) :: t) :
    stop p l i = a ∧ i ≤ a ∧ a < l.length ∧ l[a]? = some x ∧ p x = false ∧ idx p (l.drop (a + 1)) (a + 1) = t := by
  obtain ⟨h1, h2, h3, h4, _, h6⟩ := idx_cons h
  rw [List.length_drop] at h2
  rw [List.getElem?_drop] at h3
  rw [List.drop_drop] at h6
  have e : i + (a - i) = a := by omega
  have e2 : i + (a - i + 1) = a + 1 := by omega
  rw [e] at h3
  rw [e2] at h6
  refine ⟨by unfold stop; rw [h], h1, by omega, h3, h4, h6⟩

theorem code_loop (c : List S25) (m : List S28) (hc : c.length ≤ 100000) (hm : m.length ≤ 100000) (A : List (Nat × S25)) : ∀ (B : List (Nat × S28)) (i k : Nat) (rows : List S45), i ≤ c.length → k ≤ m.length → rows.length ≤ i →
    idx pc (c.drop i) i = A → idx pm (m.drop k) k = B → Ev (fun q => align_Code.l0 q c m rows i k) (fin rows row45 (spec same c.length m.length A B i k)) := by
  induction A with
  | nil =>
    intro B i k rows hi hk hr hA hB
    refine Ev.step (fun k => by rw [align_Code.l0]) ?_
    refine Ev.bind (skip_copied_f c hc i hi) ?_
    refine Ev.bind (skip_moved_f m hm k hk) ?_
    rw [stop_nil hA]
    refine Ev.pos rfl (Ev.step (fun k => by rw [align_Code.j1]) ?_)
    cases B with
    | nil =>
      rw [stop_nil hB]
      refine Ev.pos (by simp) (Ev.pos (by omega) (Ev.val ?_))
      simp [fin, spec, row45]
    | cons y B =>
      obtain ⟨b, y⟩ := y
      obtain ⟨e, h1, h2, _⟩ := stop_cons hB
      rw [e]
      refine Ev.neg (by simp; omega) (Ev.pos rfl (Ev.step (fun k => by rw [align_Code.j2]) (Ev.pos rfl (Ev.val ?_))))
      simp [fin, spec]
  | cons x A ih =>
    intro B i k rows hi hk hr hA hB
    obtain ⟨a, x⟩ := x
    obtain ⟨ea, ha1, ha2, ha3, ha4, ha5⟩ := stop_cons hA
    refine Ev.step (fun k => by rw [align_Code.l0]) ?_
    refine Ev.bind (skip_copied_f c hc i hi) ?_
    refine Ev.bind (skip_moved_f m hm k hk) ?_
    rw [ea]
    refine Ev.neg (by omega) (Ev.step (fun k => by rw [align_Code.j1]) (Ev.neg (by simp) (Ev.neg (by omega) ?_)))
    cases B with
    | nil =>
      rw [stop_nil hB]
      refine Ev.pos rfl (Ev.step (fun k => by rw [align_Code.j2]) (Ev.pos rfl (Ev.val ?_)))
      simp [fin, spec]
    | cons y B =>
      obtain ⟨b, y⟩ := y
      obtain ⟨eb, hb1, hb2, hb3, hb4, hb5⟩ := stop_cons hB
      rw [eb]
      refine Ev.neg (by omega) (Ev.pos (by omega) (Ev.pos (by omega) (Ev.pos (by omega) (Ev.pos (by omega) (Ev.bindc (a := same x y) (by rw [rd25 ha3, rd28 hb3]; exact align_same x y) (Ev.step (fun k => by rw [align_Code.j2]) ?_))))))
      cases hs : same x y
      · refine Ev.pos rfl (Ev.val ?_)
        simp [fin, spec, hs]
      · refine Ev.neg (by simp) (Ev.pos (by omega) ?_)
        rw [w64s (by omega) (by omega), w64s (by omega) (by omega)]
        have := ih B (a + 1) (b + 1) (rows ++ [(⟨i, a, k, b, a, b⟩ : S45)]) (by omega) (by omega) (by simp; omega) ha5 hb5
        have e : fin rows row45 (spec same c.length m.length ((a, x) :: A) ((b, y) :: B) i k) = fin (rows ++ [(⟨i, a, k, b, a, b⟩ : S45)]) row45 (spec same c.length m.length A B (a + 1) (b + 1)) := by
          simp only [fin, spec, hs, if_true]
          by_cases hz : (spec same c.length m.length A B (a + 1) (b + 1)).2.2 = 0
          · simp [hz, row45]
          · simp [hz]
        rw [e]
        exact this

theorem code_is (c : List S25) (m : List S28) (hc : c.length ≤ 100000) (hm : m.length ≤ 100000) : Ev (fun q => align_Code.f q c m) (fin [] row45 (spec same c.length m.length (idx pc c 0) (idx pm m 0) 0 0)) :=
  code_loop c m hc hm _ _ 0 0 [] (Nat.zero_le _) (Nat.zero_le _) (Nat.le_refl _) rfl rfl

end Go.Proofs.Ytchlilkhgagdeaa.X
