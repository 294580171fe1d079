/-
  Whatever reads as data of a type reads as a Lean value of that type's kind: by kinds, once for all (slices, structs, whole numbers, bools). And what a law's row wants of it.
-/
import Derived.Test.YtgkmagfajalnhaaTW
import Derived.Deep.Slices
import Derived.ProofKit
import Derived.OpenShut
namespace Go.Proofs.Ytgkmagfajalnhaa.Open
open Go.RowKit Go.ChangeShapes Go.WideShapes Go.Proofs.YtgkmagfajalnhaaW.PrintWords
set_option linter.unusedVariables false

/-- Whatever reads as data of type t reads as a value of the kind d, and that value is good. -/
def Opens (P : Program) (t : TypeId) {α : Type} (d : Kd α) (good : α → Prop) : Prop :=
  ∀ {H : Type} (enc : TypeId × Value → H) (w : World) (fuel : Nat) (cs : List Value) (x : DataW H × List MemPlace),
    DataW.trod enc P w 0 (fun _ => true) true fuel t cs = some x → ∃ a : α, d.K w a cs ∧ good a

theorem opens_int {P : Program} {t : TypeId} {k : IntKind} (ht : P.underlying t = some (.int k)) : Opens P t (Kd.int k) (fun n => (Lit.int k n).wf = true) := by
  intro H enc w fuel cs x h
  obtain ⟨n, rfl, _, hw⟩ := DataW.trod_int ht h
  exact ⟨n, rfl, hw⟩

theorem cells_read {w : World} {a : Addr} {n : Nat} {cs : List Value} (h : w.cells? 0 a n = some cs) : cs.length = n ∧ ∀ i u, cs[i]? = some u → w.cell? (a.add i) = some u := by
  obtain ⟨h1, h2, h3⟩ := World.cells?_some h
  refine ⟨h2, fun i u hu => ?_⟩
  have hi : i < cs.length := (List.getElem?_eq_some_iff.1 hu).1
  have := h3 i (by omega)
  rw [hu] at this
  exact this

theorem list_of_index {α : Type} {len : Nat} {p : Nat → α → Prop} (h : ∀ i, i < len → ∃ x, p i x) : ∃ xs : List α, xs.length = len ∧ ∀ i x, xs[i]? = some x → p i x := by
  induction len with
  | zero => exact ⟨[], rfl, fun i p hp => by simp at hp⟩
  | succ q ih =>
    obtain ⟨xs, hxs, hr⟩ := ih (fun i hi => h i (by omega))
    obtain ⟨p, hp⟩ := h q (by omega)
    refine ⟨xs ++ [p], by simp [hxs], fun i p' hi => ?_⟩
    rcases Nat.lt_or_ge i xs.length with hlt | hge
    · rw [List.getElem?_append_left hlt] at hi
      exact hr i p' hi
    · have hiq : i = q := by
        have := (List.getElem?_eq_some_iff.1 hi).1
        simp at this
        omega
      subst hiq
      rw [List.getElem?_append_right hge] at hi
      simp [hxs] at hi
      subst hi
      exact hp

theorem opens_slice {P : Program} {t e : TypeId} {α : Type} {d : Kd α} {good : α → Prop} (ht : P.underlying t = some (.slice e)) (hc : P.cellsOf e = d.sz) (he : Opens P e d good) :
    Opens P t (Kd.slice e d) (fun xs => xs.length ≤ maxLen ∧ ∀ x ∈ xs, good x) := by
  intro H enc w fuel cs x h
  rcases Go.Deep.open_slice ht h with ⟨rfl, _⟩ | ⟨a, len, cap, m, n, D, Pl, rfl, _, hl, hm, hmm, _, hx⟩
  · exact ⟨[], ⟨none, 0, rfl, Nat.le_refl _, rfl, by simp, fun hp => absurd hp (by simp)⟩, by simp⟩
  · have hlm : len ≤ m := by rw [hmm]; simp only [if_true]; exact hl
    have hall : ∀ i, i < len → ∃ p : α, good p ∧ ∃ c, c.length = d.sz ∧ d.K w p c ∧ ∀ j u, c[j]? = some u → w.cell? (a.add (i * d.sz + j)) = some u := by
      intro i hi
      obtain ⟨cs', h1, h2⟩ := hx i (by omega)
      obtain ⟨p, hp, hg⟩ := he enc w n cs' _ h2
      obtain ⟨h3, h4⟩ := cells_read h1
      refine ⟨p, hg, cs', by rw [h3, hc], hp, fun j u hu => ?_⟩
      have := h4 j u hu
      rw [Go.Deep.add_add, hc] at this
      exact this
    have key := list_of_index hall
    obtain ⟨xs, rfl, hr⟩ := key
    refine ⟨xs, ⟨some a, cap, rfl, hl, rfl, by have := hm; unfold maxLen at this; omega, fun _ => ⟨a, rfl, fun j p hj => (hr j p hj).2⟩⟩, by omega, fun x hx => ?_⟩
    obtain ⟨i, hi, rfl⟩ := List.getElem_of_mem hx
    exact (hr i _ (List.getElem?_eq_getElem hi)).1

/-- The same of a struct's fields, from a place on. -/
def OpensFs (P : Program) (fs : List Field) (off : Nat) {α : Type} (d : Kd α) (good : α → Prop) : Prop :=
  ∀ {H : Type} (enc : TypeId × Value → H) (w : World) (fuel : Nat) (cs : List Value) (xs : List (DataW H × List MemPlace)),
    fs.mapM (fun f => DataW.trod enc P w 0 (fun _ => true) true fuel f.type ((cs.drop f.offset).take (P.cellsOf f.type))) = some xs → cs.length = off + d.sz → ∃ a : α, d.K w a (cs.drop off) ∧ good a

theorem opens_last {P : Program} {f : Field} {off : Nat} {α : Type} {d : Kd α} {good : α → Prop} (ho : f.offset = off) (hc : P.cellsOf f.type = d.sz) (h : Opens P f.type d good) : OpensFs P [f] off d good := by
  intro H enc w fuel cs xs hx hl
  simp only [List.mapM_cons, List.mapM_nil, Option.bind_eq_bind, Option.pure_def, Option.bind_eq_some_iff] at hx
  obtain ⟨y, hy, _⟩ := hx
  rw [ho, hc, List.take_of_length_le (by rw [List.length_drop]; omega)] at hy
  exact h enc w fuel _ _ hy

theorem opens_cons {P : Program} {f : Field} {fs : List Field} {off : Nat} {α β : Type} {d : Kd α} {e : Kd β} {good : α → Prop} {goods : β → Prop} (ho : f.offset = off) (hc : P.cellsOf f.type = d.sz) (h : Opens P f.type d good) (hs : OpensFs P fs (off + d.sz) e goods) :
    OpensFs P (f :: fs) off (Kd.pair d e) (fun x => good x.1 ∧ goods x.2) := by
  intro H enc w fuel cs xs hx hl
  simp only [List.mapM_cons, Option.bind_eq_bind, Option.pure_def, Option.bind_eq_some_iff] at hx
  obtain ⟨y, hy, ys, hys, _⟩ := hx
  rw [ho, hc] at hy
  have hl' : cs.length = off + d.sz + e.sz := by rw [hl]; show off + (d.sz + e.sz) = _; omega
  obtain ⟨a, ha, ga⟩ := h enc w fuel _ _ hy
  obtain ⟨b, hb, gb⟩ := hs enc w fuel cs ys hys hl'
  refine ⟨(a, b), ⟨(cs.drop off).take d.sz, cs.drop (off + d.sz), ?_, ha, hb⟩, ga, gb⟩
  rw [← List.drop_drop, List.take_append_drop]

theorem opens_struct {P : Program} {t : TypeId} {fs : Array Field} {α β : Type} {d : Kd α} {good : α → Prop} (ht : P.underlying t = some (.struct fs)) (hc : P.cellsOf t = d.sz) (h : OpensFs P fs.toList 0 d good) (f : β → α) (g : α → β) (hfg : ∀ a, f (g a) = a) :
    Opens P t (Kd.iso d f) (fun x => good (f x)) := by
  intro H enc w fuel cs x hx
  cases fuel with
  | zero => exact absurd hx (by simp [DataW.trod])
  | succ n =>
    rw [DataW.trod_step] at hx
    unfold DataW.trodStep at hx
    simp only [ht] at hx
    split at hx
    · rename_i hl
      obtain ⟨xs, hxs, _⟩ := Option.map_eq_some_iff.1 hx
      obtain ⟨a, ha, ga⟩ := h enc w n cs xs hxs (by rw [hl, hc]; omega)
      refine ⟨g a, ?_, by show good (f (g a)); rw [hfg]; exact ga⟩
      show d.K w (f (g a)) cs
      rw [hfg]
      simpa using ha
    · exact absurd hx (by simp)

/-! What a law's row wants: an argument opened by its type. -/
section
variable {H : Type} {enc : TypeId × Value → H} {P : Program} {W : World} {b0 : Nat}

theorem arg_slice {t e : TypeId} {α : Type} {d : Kd α} {good : List α → Prop} {v : Value} {dd : DataW H} {p : List MemPlace} (ht : P.underlying t = some (.slice e)) (ho : Opens P t (Kd.slice e d) good) (hv : Value.okWide P W .any b0 t v) (h : DataW.Trod enc P W 0 (fun _ => true) true t v dd p) :
    ∃ (A : Option Addr) (c : Nat) (xs : List α), v = .slice A xs.length c ∧ d.C W A xs.length xs ∧ xs.length ≤ c ∧ good xs := by
  obtain ⟨a, len, cap, rfl⟩ := okWide_slice ht hv
  obtain ⟨fuel, hf⟩ := h
  obtain ⟨xs, ⟨A, c, he, hl, hC⟩, hg⟩ := ho enc W fuel _ _ hf
  refine ⟨A, c, xs, ?_, hC, hl, hg⟩
  have he' : ([.slice a len cap] : List Value) = [.slice A xs.length c] := he
  injection he'

theorem arg_struct {t : TypeId} {fs : Array Field} {α : Type} {d : Kd α} {good : α → Prop} {v : Value} {dd : DataW H} {p : List MemPlace} (ht : P.underlying t = some (.struct fs)) (ho : Opens P t d good) (hv : Value.okWide P W .any b0 t v) (h : DataW.Trod enc P W 0 (fun _ => true) true t v dd p) :
    ∃ (cs : List Value) (x : α), v = .agg cs.toArray ∧ d.K W x cs ∧ good x := by
  obtain ⟨cs, rfl, hsz⟩ := okWide_struct ht hv
  obtain ⟨fuel, hf⟩ := h
  obtain ⟨x, hk, hg⟩ := ho enc W fuel _ _ hf
  exact ⟨cs.toList, x, by simp, hk, hg⟩

end
end Go.Proofs.Ytgkmagfajalnhaa.Open
