/-
  The reference's alignment, in the same plain lists; the fixed examples; the first law in plain lists.
-/
import Derived.Test.YtchlilkhgagdeaaX6
import Derived.Test.YtchlilkhgagdeaaX7
import Derived.Test.YtchlilkhgagdeaaXPa
namespace Go.Proofs.Ytchlilkhgagdeaa.X
open Go.RowKit Go.Proofs.YtchlilkhgagdeaaW.PrintWords Go.Proofs.Ytchlilkhgagdeaa.Spec
set_option linter.unusedVariables false

theorem awake_is : Ev (fun k => regcertlaw13_awake.f k) true := Ev.of (fun k => regcertlaw13_awake.mono k) (k := 40) (by kernel_rfl)

def row58 (r : RowT) : S58 := ⟨r.cf, r.ct, r.mf, r.mt, r.s, r.m⟩

theorem ref_same (x : S25) (y : S28) : regcertref13_Same.f x.f0 x.f1 x.f2 x.f3 x.f4 y.f0 y.f1 y.f2 y.f3 y.f4 y.f5 y.f6 = some (same x y) := by
  unfold regcertref13_Same.f same
  by_cases h1 : x.f0 = 2
  · rw [if_pos h1]
    simp [h1]
  · by_cases h2 : x.f0 = 18
    · rw [if_neg h1, if_pos h2]
      simp [h2]
    · by_cases h3 : x.f0 = y.f0
      · rw [if_neg h1, if_neg h2, if_pos h3]
        have h1' : ¬ y.f0 = 2 := by rw [← h3]; exact h1
        have h2' : ¬ y.f0 = 18 := by rw [← h3]; exact h2
        simp [h3, h1', h2']
      · rw [if_neg h1, if_neg h2, if_neg h3]
        simp [h3]

def numsA {α : Type} (A : List (Nat × α)) : List Int := A.map fun a => (a.1 : Int)

theorem ops_loop (l : List S25) (hl : l.length ≤ 100000) (d : Nat) : ∀ (i : Nat) (acc : List Int), i ≤ l.length → acc.length ≤ i → l.length - i = d → Ev (fun k => regcertref13_Operations.l0 k l acc i) (acc ++ numsA (idx pc (l.drop i) i)) := by
  induction d with
  | zero =>
    intro i acc h0 h2 h1
    refine Ev.step (fun k => by rw [regcertref13_Operations.l0]) (Ev.neg (by omega) (Ev.val ?_))
    rw [List.drop_eq_nil_of_le (by omega)]
    simp [idx, numsA]
  | succ d ih =>
    intro i acc h0 h2 h1
    have hi : i < l.length := by omega
    have hx := List.getElem?_eq_getElem hi
    refine Ev.step (fun k => by rw [regcertref13_Operations.l0]) (Ev.pos (by omega) (Ev.pos (by omega) ?_))
    rw [rd25 hx, w64s (by omega) (by omega), List.drop_eq_getElem_cons hi]
    by_cases hp : l[i].f0 = 2
    · refine Ev.pos hp ?_
      have e : idx pc (l[i] :: l.drop (i + 1)) i = idx pc (l.drop (i + 1)) (i + 1) := by simp [idx, pc, hp]
      rw [e]
      exact ih (i + 1) acc (by omega) (by omega) (by omega)
    · refine Ev.neg hp (Ev.pos (by omega) ?_)
      have e : idx pc (l[i] :: l.drop (i + 1)) i = (i, l[i]) :: idx pc (l.drop (i + 1)) (i + 1) := by simp [idx, pc, hp]
      rw [e]
      have := ih (i + 1) (acc ++ [(i : Int)]) (by omega) (by simp; omega) (by omega)
      simpa [numsA] using this

theorem others_loop (l : List S28) (hl : l.length ≤ 100000) (d : Nat) : ∀ (i : Nat) (acc : List Int), i ≤ l.length → acc.length ≤ i → l.length - i = d → Ev (fun k => regcertref13_Others.l0 k l acc i) (acc ++ numsA (idx pm (l.drop i) i)) := by
  induction d with
  | zero =>
    intro i acc h0 h2 h1
    refine Ev.step (fun k => by rw [regcertref13_Others.l0]) (Ev.neg (by omega) (Ev.val ?_))
    rw [List.drop_eq_nil_of_le (by omega)]
    simp [idx, numsA]
  | succ d ih =>
    intro i acc h0 h2 h1
    have hi : i < l.length := by omega
    have hx := List.getElem?_eq_getElem hi
    refine Ev.step (fun k => by rw [regcertref13_Others.l0]) (Ev.pos (by omega) (Ev.pos (by omega) ?_))
    rw [rd28 hx, w64s (by omega) (by omega), List.drop_eq_getElem_cons hi]
    by_cases hp : l[i].f0 = 18
    · refine Ev.pos hp ?_
      have e : idx pm (l[i] :: l.drop (i + 1)) i = idx pm (l.drop (i + 1)) (i + 1) := by simp [idx, pm, hp]
      rw [e]
      exact ih (i + 1) acc (by omega) (by omega) (by omega)
    · refine Ev.neg hp (Ev.pos (by omega) ?_)
      have e : idx pm (l[i] :: l.drop (i + 1)) i = (i, l[i]) :: idx pm (l.drop (i + 1)) (i + 1) := by simp [idx, pm, hp]
      rw [e]
      have := ih (i + 1) (acc ++ [(i : Int)]) (by omega) (by simp; omega) (by omega)
      simpa [numsA] using this

/-- Each of the list's elements stands at its index. -/
theorem idx_at {α : Type} {p : α → Bool} {l : List α} : ∀ {i j : Nat} {a : Nat × α}, (idx p l i)[j]? = some a → i ≤ a.1 ∧ l[a.1 - i]? = some a.2 := by
  induction l with
  | nil => intro i j a h; simp [idx] at h
  | cons y l ih =>
    intro i j a h
    simp only [idx] at h
    split at h
    · obtain ⟨h1, h2⟩ := ih h
      refine ⟨by omega, ?_⟩
      have e : a.1 - i = (a.1 - (i + 1)) + 1 := by omega
      rw [e]
      simpa using h2
    · cases j with
      | zero =>
        simp at h
        subst h
        simp
      | succ j =>
        simp at h
        obtain ⟨h1, h2⟩ := ih h
        refine ⟨by omega, ?_⟩
        have e : a.1 - i = (a.1 - (i + 1)) + 1 := by omega
        rw [e]
        simpa using h2

theorem idx_length {α : Type} {p : α → Bool} (l : List α) : ∀ i, (idx p l i).length ≤ l.length := by
  induction l with
  | nil => intro i; exact Nat.le_refl _
  | cons y l ih =>
    intro i
    simp only [idx]
    split
    · exact Nat.le_succ_of_le (ih _)
    · simp only [List.length_cons]
      exact Nat.succ_le_succ (ih _)

theorem nums_rd {α : Type} {A : List (Nat × α)} {j : Nat} {a : Nat × α} (h : A[j]? = some a) : rd (numsA A) (j : Int) = (a.1 : Int) := by
  unfold rd numsA
  rw [List.getD_eq_getElem?_getD, Int.toNat_natCast, List.getElem?_map, h]
  rfl
theorem nums_length {α : Type} (A : List (Nat × α)) : (numsA A).length = A.length := by simp [numsA]

theorem ref_loop (c : List S25) (m : List S28) (hc : c.length ≤ 100000) (hm : m.length ≤ 100000) (A : List (Nat × S25)) (B : List (Nat × S28)) (hA : idx pc c 0 = A) (hB : idx pm m 0 = B) (d : Nat) : ∀ (n : Nat) (i k : Nat) (rows : List S58), B.length - n = d → n ≤ B.length → rows.length = n → (n ≤ A.length) → i ≤ c.length → k ≤ m.length →
    Ev (fun q => regcertref13_Code.l0 q c m (numsA A) (numsA B) rows i k n) (fin rows row58 (spec same c.length m.length (A.drop n) (B.drop n) i k)) := by
  have lA : A.length ≤ c.length := by rw [← hA]; exact idx_length c 0
  have lB : B.length ≤ m.length := by rw [← hB]; exact idx_length m 0
  induction d with
  | zero =>
    intro n i k rows hd hn hr hna hi hk
    refine Ev.step (fun k => by rw [regcertref13_Code.l0]) (Ev.neg (by rw [nums_length]; omega) ?_)
    rw [List.drop_eq_nil_of_le (show B.length ≤ n by omega)]
    by_cases h : A.length ≤ n
    · refine Ev.neg (by rw [nums_length, nums_length]; omega) (Ev.pos (by omega) (Ev.val ?_))
      rw [List.drop_eq_nil_of_le h]
      simp [fin, spec, row58]
    · refine Ev.pos (by rw [nums_length, nums_length]; omega) (Ev.val ?_)
      rw [List.drop_eq_getElem_cons (show n < A.length by omega)]
      obtain ⟨a, x⟩ := A[n]
      simp [fin, spec]
  | succ d ih =>
    intro n i k rows hd hn hr hna hi hk
    have hb : n < B.length := by omega
    have hbx := List.getElem?_eq_getElem hb
    obtain ⟨⟨b, y⟩, eb⟩ : ∃ z, B[n] = z := ⟨_, rfl⟩
    rw [eb] at hbx
    have hb2 : m[b]? = some y := by have := (idx_at (p := pm) (l := m) (i := 0) (j := n) (a := (b, y)) (by rw [hB]; exact hbx)).2; simpa using this
    have hbl := (List.getElem?_eq_some_iff.1 hb2).1
    refine Ev.step (fun k => by rw [regcertref13_Code.l0]) (Ev.pos (by rw [nums_length]; omega) ?_)
    rw [List.drop_eq_getElem_cons hb, eb]
    by_cases h : A.length ≤ n
    · refine Ev.pos (by rw [nums_length]; omega) (Ev.step (fun k => by rw [regcertref13_Code.j1]) (Ev.pos rfl (Ev.pos (by omega) (Ev.pos (by rw [nums_length]; omega) (Ev.val ?_)))))
      rw [List.drop_eq_nil_of_le h, nums_rd hbx]
      simp [fin, spec]
    · have ha : n < A.length := by omega
      have hax := List.getElem?_eq_getElem ha
      obtain ⟨⟨a, x⟩, ea⟩ : ∃ z, A[n] = z := ⟨_, rfl⟩
      rw [ea] at hax
      have ha2 : c[a]? = some x := by have := (idx_at (p := pc) (l := c) (i := 0) (j := n) (a := (a, x)) (by rw [hA]; exact hax)).2; simpa using this
      have hal := (List.getElem?_eq_some_iff.1 ha2).1
      rw [List.drop_eq_getElem_cons ha, ea]
      refine Ev.neg (by rw [nums_length]; omega) (Ev.pos (by omega) (Ev.pos (by rw [nums_length]; omega) ?_))
      rw [nums_rd hax, nums_rd hbx]
      refine Ev.pos (by omega) (Ev.pos (by omega) (Ev.pos (by omega) (Ev.pos (by omega) (Ev.bindc (a := same x y) (by rw [rd25 ha2, rd28 hb2]; exact ref_same x y) (Ev.step (fun k => by rw [regcertref13_Code.j1]) ?_)))))
      cases hs : same x y
      · refine Ev.pos rfl (Ev.pos (by omega) (Ev.pos (by rw [nums_length]; omega) (Ev.val ?_)))
        rw [nums_rd hbx]
        simp [fin, spec, hs]
      · refine Ev.neg (by simp) (Ev.pos (by omega) (Ev.pos (by rw [nums_length]; omega) (Ev.pos (by rw [nums_length]; omega) (Ev.pos (by omega) ?_))))
        rw [nums_rd hax, nums_rd hbx, w64s (by omega) (by omega), w64s (by omega) (by omega), w64s (by omega) (by omega)]
        have := ih (n + 1) (a + 1) (b + 1) (rows ++ [(⟨i, a, k, b, a, b⟩ : S58)]) (by omega) (by omega) (by simp; omega) (by omega) (by omega) (by omega)
        have e : fin rows row58 (spec same c.length m.length ((a, x) :: A.drop (n + 1)) ((b, y) :: B.drop (n + 1)) i k) = fin (rows ++ [(⟨i, a, k, b, a, b⟩ : S58)]) row58 (spec same c.length m.length (A.drop (n + 1)) (B.drop (n + 1)) (a + 1) (b + 1)) := by
          simp only [fin, spec, hs, if_true]
          by_cases hz : (spec same c.length m.length (A.drop (n + 1)) (B.drop (n + 1)) (a + 1) (b + 1)).2.2 = 0
          · simp [hz, row58]
          · simp [hz]
        rw [e]
        exact this

theorem ref_is (c : List S25) (m : List S28) (hc : c.length ≤ 100000) (hm : m.length ≤ 100000) : Ev (fun q => regcertref13_Code.f q c m) (fin [] row58 (spec same c.length m.length (idx pc c 0) (idx pm m 0) 0 0)) := by
  unfold regcertref13_Code.f
  refine Ev.bind (a := numsA (idx pc c 0)) ?_ ?_
  · have := ops_loop c hc _ 0 [] (Nat.zero_le _) (Nat.le_refl _) rfl
    simpa [regcertref13_Operations.f] using this
  refine Ev.bind (a := numsA (idx pm m 0)) ?_ ?_
  · have := others_loop m hm _ 0 [] (Nat.zero_le _) (Nat.le_refl _) rfl
    simpa [regcertref13_Others.f] using this
  exact ref_loop c m hc hm _ _ rfl rfl _ 0 0 0 [] rfl (Nat.zero_le _) rfl (Nat.zero_le _) (Nat.zero_le _) (Nat.zero_le _)

theorem rd45 {l : List S45} {i : Nat} {x : S45} (h : l[i]? = some x) : rd_T45 l (i : Int) = x := by
  unfold rd_T45
  rw [List.getD_eq_getElem?_getD, Int.toNat_natCast, h]
  rfl
theorem rd58 {l : List S58} {i : Nat} {x : S58} (h : l[i]? = some x) : rd_T58 l (i : Int) = x := by
  unfold rd_T58
  rw [List.getD_eq_getElem?_getD, Int.toNat_natCast, h]
  rfl
def conv (r : S45) : S58 := ⟨r.f0, r.f1, r.f2, r.f3, r.f4, r.f5⟩

theorem rows_loop (l : List S45) (hl : l.length ≤ 200000) (d : Nat) : ∀ (i : Nat) (acc : List S58), i ≤ l.length → acc.length = i → l.length - i = d → Ev (fun k => regcertlaw13_rows.l0 k l acc i) (acc ++ (l.drop i).map conv) := by
  induction d with
  | zero =>
    intro i acc h0 h2 h1
    refine Ev.step (fun k => by rw [regcertlaw13_rows.l0]) (Ev.neg (by omega) (Ev.val ?_))
    rw [List.drop_eq_nil_of_le (by omega)]
    simp
  | succ d ih =>
    intro i acc h0 h2 h1
    have hi : i < l.length := by omega
    have hx := List.getElem?_eq_getElem hi
    refine Ev.step (fun k => by rw [regcertlaw13_rows.l0]) (Ev.pos (by omega) (Ev.pos (by omega) (Ev.pos (by omega) ?_)))
    rw [rd45 hx, w64s (by omega) (by omega), List.drop_eq_getElem_cons hi]
    have e : acc ++ (l[i] :: l.drop (i + 1)).map conv = (acc ++ [conv l[i]]) ++ (l.drop (i + 1)).map conv := by rw [List.map_cons, List.append_assoc]; rfl
    rw [e]
    exact ih (i + 1) (acc ++ [conv l[i]]) (by omega) (by simp; omega) (by omega)

theorem rows_is (l : List S45) (hl : l.length ≤ 200000) : Ev (fun k => regcertlaw13_rows.f k l) (l.map conv) := by
  have := rows_loop l hl _ 0 [] (Nat.zero_le _) rfl rfl
  simpa [regcertlaw13_rows.f] using this

theorem Rows_loop (l : List S58) (hl : l.length ≤ 200000) (d : Nat) : ∀ (i : Nat), i ≤ l.length → l.length - i = d → Ev (fun k => regcertref13_Rows.l0 k l l i) true := by
  induction d with
  | zero =>
    intro i h0 h1
    exact Ev.step (fun k => by rw [regcertref13_Rows.l0]) (Ev.neg (by omega) (Ev.val rfl))
  | succ d ih =>
    intro i h0 h1
    refine Ev.step (fun k => by rw [regcertref13_Rows.l0]) (Ev.pos (by omega) (Ev.pos (by omega) (Ev.pos (by omega) (Ev.neg (by simp) ?_))))
    rw [w64s (by omega) (by omega)]
    exact ih (i + 1) (by omega) (by omega)

theorem Rows_is (l : List S58) (hl : l.length ≤ 200000) : Ev (fun k => regcertref13_Rows.f k l l) true := by
  unfold regcertref13_Rows.f
  exact Ev.pos rfl (Rows_loop l hl _ 0 (Nat.zero_le _) rfl)

theorem spec_length {α β : Type} (sm : α → β → Bool) (n m : Nat) (A : List (Nat × α)) (B : List (Nat × β)) (i k : Nat) : (spec sm n m A B i k).1.length ≤ B.length + 1 := by
  rw [(spec_ok sm n m A B i k).2.1]
  split <;> omega

theorem fin_conv (r : List RowT × Int × Int) : (fin [] row45 r).1.map conv = (fin [] row58 r).1 ∧ (fin [] row45 r).2 = (fin [] row58 r).2 := by
  unfold fin
  split
  · simp [Function.comp_def, conv, row45, row58]
  · simp

end Go.Proofs.Ytchlilkhgagdeaa.X
