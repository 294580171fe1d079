/- TE -/
import Derived.Test.YtchpkjgibloleaaGreatTD
import Derived.Test.YtchpkjgibloleaaGreatProg
import Derived.Test.YtchpkjgibloleaaGreatTA
import Derived.Test.YtchpkjgibloleaaGreatTW
import Derived.Deep.Slices
import Derived.ProofKit
import Derived.OpenShut
import Derived.WalkLawsBesides
import Derived.Test.YtchpkjgibloleaaGreatRows
import Derived.WalkKit
import Derived.ShutString
import Derived.ChangeOld
import Derived.Below
import Derived.SizedLaws
import Derived.Carry
import Derived.Test.YtchpkjgibloleaaGreatTC
set_option linter.unusedVariables false
set_option linter.unusedSimpArgs false
namespace Go.Proofs.YtchpkjgibloleaaGreat.V
set_option maxRecDepth 100000
set_option maxHeartbeats 8000000
open Go
def C0.names : C0 → List Nat
 | .p (some (n, _)) => [n]
 | .s (some (n, _)) _ _ _ _ => [n]
 | _ => []
def C1.names : C1 → List Nat
 | .c x => x.names
 | .f _ a b => a.flatMap C0.names ++ b.flatMap C0.names
def T1.names : T1 → List Nat
 | .c x => x.names
 | .g l => l.flatMap C1.names
def AV.names : AV → List Nat
 | .c x => x.names
 | .g l => l.flatMap C1.names
 | .t l => l.flatMap T1.names
noncomputable def dfs (H : Hp) : Nat → List Nat → List Nat → List Nat
 | 0, _, seen => seen
 | _ + 1, [], seen => seen
 | k + 1, n :: rest, seen => if seen.contains n then dfs H k rest seen else match get H n with
  | some e => dfs H k (e.cs.flatMap C1.names ++ rest) (n :: seen)
  | none => dfs H k rest (n :: seen)
def gcK (keep : Nat → Bool) (H0 : Hp) (r : AV) (H : Hp) (dead : List Nat) : Hp × List Nat :=
 if r.names.all keep && ((H.filter fun e => keep e.1).all fun e => (e.2.cs.flatMap C1.names).all keep) && (H0.map (·.1)).all keep then (H.filter fun e => keep e.1, dead.filter keep) else (H, dead)
noncomputable def gc (H0 : Hp) (dead0 : List Nat) (r : AV) (H : Hp) (dead : List Nat) : Hp × List Nat :=
 gcK (fun n => (dfs H 4000 (r.names ++ H0.map (·.1)) []).contains n || dead0.contains n) H0 r H dead
def Ren.only (ρ : Ren) (keep : Nat → Bool) : Ren := fun n => if keep n then ρ n else none
section
variable {ρ : Ren} {keep : Nat → Bool}
theorem C0.only {x : C0} {v : Value} (h : x.R ρ v) (hk : ∀ n ∈ x.names, keep n = true) : x.R (ρ.only keep) v := by
 cases x with
 | p a =>
  cases a with
  | none => exact h
  | some a => obtain ⟨g, z, h1, h2⟩ := h; exact ⟨g, z, by simp [Ren.only, hk a.1 (by simp [C0.names]), h1], h2⟩
 | s a len cap sz full =>
  cases a with
  | none => exact h
  | some a => obtain ⟨g, z, c, h1, h2⟩ := h; exact ⟨g, z, c, by simp [Ren.only, hk a.1 (by simp [C0.names]), h1], h2⟩
 | _ => exact h
theorem All2.only {α : Type} {R R' : α → Value → Prop} {names : α → List Nat} (hR : ∀ x v, R x v → (∀ n ∈ names x, keep n = true) → R' x v) :
    ∀ {l : List α} {m : List Value}, All2 R l m → (∀ n ∈ l.flatMap names, keep n = true) → All2 R' l m
 | [], [], _, _ => trivial
 | a :: l, b :: m, ⟨h1, h2⟩, h => ⟨hR a b h1 fun n hn => h n (by simp [hn]), All2.only hR h2 fun n hn => h n (by simp only [List.flatMap_cons, List.mem_append]; exact .inr hn)⟩
 | [], _ :: _, hh, _ => hh.elim
 | _ :: _, [], hh, _ => hh.elim
theorem C1.only {x : C1} {v : Value} (h : x.R ρ v) (hk : ∀ n ∈ x.names, keep n = true) : x.R (ρ.only keep) v := by
 cases x with
 | c x => exact C0.only h hk
 | f fn a b =>
  obtain ⟨F, C, h1, h2, h3⟩ := h
  exact ⟨F, C, All2.only (names := C0.names) (fun x v => C0.only) h1 fun n hn => hk n (by simp only [C1.names, List.mem_append]; exact .inl hn),
   All2.only (names := C0.names) (fun x v => C0.only) h2 fun n hn => hk n (by simp only [C1.names, List.mem_append]; exact .inr hn), h3⟩
theorem T1.only {x : T1} {v : Value} (h : x.R ρ v) (hk : ∀ n ∈ x.names, keep n = true) : x.R (ρ.only keep) v := by
 cases x with
 | c x => exact C1.only h hk
 | g l => obtain ⟨L, h1, h2⟩ := h; exact ⟨L, All2.only (names := C1.names) (fun x v => C1.only) h1 hk, h2⟩
theorem AV.only {x : AV} {v : Value} (h : x.R ρ v) (hk : ∀ n ∈ x.names, keep n = true) : x.R (ρ.only keep) v := by
 cases x with
 | c x => exact C1.only h hk
 | g l => obtain ⟨L, h1, h2⟩ := h; exact ⟨L, All2.only (names := C1.names) (fun x v => C1.only) h1 hk, h2⟩
 | t l => obtain ⟨L, h1, h2⟩ := h; exact ⟨L, All2.only (names := T1.names) (fun x v => T1.only) h1 hk, h2⟩
theorem Qdq : ∀ (H : Hp) (n : Nat), get (H.filter fun e => keep e.1) n = if keep n then get H n else none
 | [], n => by simp [Qdz]
 | (m, e) :: H, n => by
  have ih := Qdq H n
  rw [List.filter_cons]
  split
  ·rename_i hm
   rw [Qb3, Qb3]
   by_cases h1 : m = n
   ·subst h1; simp only at hm; simp [hm]
   ·simp only [h1, if_false]; exact ih
  ·rename_i hm
   rw [ih, Qb3]
   by_cases h1 : m = n
   ·subst h1; simp only at hm; simp [hm]
   ·simp only [h1, if_false]
theorem Qew : ∀ {H : Hp} {n : Nat} {e : Ent}, get H n = some e → (n, e) ∈ H
 | (m, e') :: H, n, e, h => by
  rw [Qb3] at h
  split at h
  ·rename_i hm; injection h with h; subst h; subst hm; simp
  ·exact List.mem_cons_of_mem _ (Qew h)
theorem get_key : ∀ {H : Hp} {n : Nat}, (get H n).isSome = true → n ∈ H.map (·.1) := by
 intro H n h
 obtain ⟨e, he⟩ := Option.isSome_iff_exists.1 h
 exact List.mem_map.2 ⟨(n, e), Qew he, rfl⟩
end
section
variable {P : Program} {D : Nat → Prop} {w0 : World}
theorem gcK_sound {ρ0 ρ : Ren} {H0 H : Hp} {dead0 dead : List Nat} {wb w : World} {r : AV} {V : Value} {keep : Nat → Bool} (hd0 : ∀ n ∈ dead0, keep n = true) (h0 : RH D w0 ρ0 H0 dead0 wb) (hle : ρ0.le ρ) (h : RH D w0 ρ H dead w) (hr : r.R ρ V) :
    ∃ ρ', ρ0.le ρ' ∧ RH D w0 ρ' (gcK keep H0 r H dead).1 (gcK keep H0 r H dead).2 w ∧ r.R ρ' V := by
 unfold gcK
 split
 ·rename_i hc
  simp only [Bool.and_eq_true, List.all_eq_true] at hc
  obtain ⟨⟨hc1, hc2⟩, hc3⟩ := hc
  have hdom : ∀ n x, ρ0 n = some x → keep n = true := fun n x hx => by
   rcases h0.fr n x hx with h1 | h1
   ·exact hc3 n (get_key h1)
   ·exact hd0 n h1
  refine ⟨ρ.only keep, fun n x hx => by simp [Ren.only, hdom n x hx, hle n x hx], ⟨?_, ?_, ?_, h.out⟩, AV.only hr hc1⟩
  ·intro n e he
   rw [Qdq] at he
   split at he
   ·rename_i hk
    obtain ⟨g, z, c, h1, h2, h3, h4, h5⟩ := h.hp n e he
    refine ⟨g, z, c, by simp [Ren.only, hk, h1], h2, h3, fun i x hx => ?_, h5⟩
    obtain ⟨y, hy, hR⟩ := h4 i x hx
    refine ⟨y, hy, C1.only hR fun m hm => ?_⟩
    refine hc2 (n, e) (List.mem_filter.2 ⟨Qew he, hk⟩) m ?_
    exact List.mem_flatMap.2 ⟨x, List.mem_of_getElem? hx, hm⟩
   ·cases he
  ·intro n m e e' g z z' he he' hg hg'
   rw [Qdq] at he he'
   split at he
   ·split at he'
    ·rename_i k1 k2
     simp only [Ren.only, k1, k2, if_true] at hg hg'
     exact h.inj n m e e' g z z' he he' hg hg'
    ·cases he'
   ·cases he
  ·intro n x hx
   unfold Ren.only at hx
   split at hx
   ·rename_i hk
    rw [Qdq, if_pos hk]
    rcases h.fr n x hx with h1 | h1
    ·exact .inl h1
    ·exact .inr (List.mem_filter.2 ⟨h1, hk⟩)
   ·cases hx
 ·exact ⟨ρ, hle, h, hr⟩
theorem gc_sound {ρ0 ρ : Ren} {H0 H : Hp} {dead0 dead : List Nat} {wb w : World} {r : AV} {V : Value} (h0 : RH D w0 ρ0 H0 dead0 wb) (hle : ρ0.le ρ) (h : RH D w0 ρ H dead w) (hr : r.R ρ V) :
    ∃ ρ', ρ0.le ρ' ∧ RH D w0 ρ' (gc H0 dead0 r H dead).1 (gc H0 dead0 r H dead).2 w ∧ r.R ρ' V :=
 gcK_sound (fun n hn => by simp [hn]) h0 hle h hr
section force
variable {α β : Type}
noncomputable def forceB (b : Bool) (f : Bool → α) : α := @Bool.rec (fun _ => α) (f false) (f true) b
theorem forceB_eq (b : Bool) (f : Bool → α) : forceB b f = f b := by cases b <;> rfl
noncomputable def forceI (n : Int) (f : Int → α) : α := @Int.rec (fun _ => α) (fun m => forceN m fun m => f (.ofNat m)) (fun m => forceN m fun m => f (.negSucc m)) n
theorem forceI_eq (n : Int) (f : Int → α) : forceI n f = f n := by cases n <;> simp [forceI, Qc6]
noncomputable def forceK (k : IntKind) (f : IntKind → α) : α := @IntKind.rec (fun _ => α) (f .i8) (f .i16) (f .i32) (f .i64) (f .u8) (f .u16) (f .u32) (f .u64) k
theorem forceK_eq (k : IntKind) (f : IntKind → α) : forceK k f = f k := by cases k <;> rfl
noncomputable def forceO (g : β → (β → α) → α) (x : Option β) (f : Option β → α) : α := @Option.rec β (fun _ => α) (f none) (fun y => g y fun y => f (some y)) x
theorem forceO_eq {g : β → (β → α) → α} (hg : ∀ y f, g y f = f y) (x : Option β) (f : Option β → α) : forceO g x f = f x := by cases x <;> simp [forceO, hg]
noncomputable def forceL (g : β → (β → α) → α) (l : List β) : (List β → α) → α := @List.rec β (fun _ => (List β → α) → α) (fun f => f []) (fun x _ ih f => g x fun x => ih fun l => f (x :: l)) l
theorem Qcr {g : β → (β → α) → α} (hg : ∀ y f, g y f = f y) : ∀ (l : List β) (f : List β → α), forceL g l f = f l
 | [], f => rfl
 | x :: l, f => by show g x (fun x => forceL g l fun l => f (x :: l)) = _; rw [hg, Qcr hg l]
noncomputable def forceA (a : Nat × Nat) (f : Nat × Nat → α) : α := forceN a.1 fun n => forceN a.2 fun o => f (n, o)
theorem forceA_eq (a : Nat × Nat) (f : Nat × Nat → α) : forceA a f = f a := by simp [forceA, Qc6]
noncomputable def forceC0 (x : C0) (f : C0 → α) : α :=
 match x with
 | .b b => forceB b fun b => f (.b b)
 | .i k n => forceK k fun k => forceI n fun n => f (.i k n)
 | .p a => forceO forceA a fun a => f (.p a)
 | .s a len cap sz full => forceO forceA a fun a => forceN len fun len => forceO forceN cap fun cap => forceN sz fun sz => forceB full fun full => f (.s a len cap sz full)
 | .nilI => f .nilI
 | .nilF => f .nilF
theorem forceC0_eq (x : C0) (f : C0 → α) : forceC0 x f = f x := by
 cases x <;> simp only [forceC0, forceB_eq, forceK_eq, forceI_eq, Qc6, forceO_eq forceA_eq, forceO_eq Qc6]
noncomputable def forceC1 (x : C1) (f : C1 → α) : α :=
 match x with
 | .c x => forceC0 x fun x => f (.c x)
 | .f fn a b => forceN fn fun fn => forceL forceC0 a fun a => forceL forceC0 b fun b => f (.f fn a b)
theorem Qds (x : C1) (f : C1 → α) : forceC1 x f = f x := by
 cases x <;> simp only [forceC1, forceC0_eq, Qc6, Qcr forceC0_eq]
noncomputable def forceT1 (x : T1) (f : T1 → α) : α :=
 match x with
 | .c x => forceC1 x fun x => f (.c x)
 | .g l => forceL forceC1 l fun l => f (.g l)
theorem forceT1_eq (x : T1) (f : T1 → α) : forceT1 x f = f x := by
 cases x <;> simp only [forceT1, Qds, Qcr Qds]
noncomputable def forceV (x : AV) (f : AV → α) : α :=
 match x with
 | .c x => forceC1 x fun x => f (.c x)
 | .g l => forceL forceC1 l fun l => f (.g l)
 | .t l => forceL forceT1 l fun l => f (.t l)
theorem forceV_eq (x : AV) (f : AV → α) : forceV x f = f x := by
 cases x <;> simp only [forceV, Qds, Qcr Qds, Qcr forceT1_eq]
noncomputable def forceE (x : Nat × Ent) (f : Nat × Ent → α) : α := forceN x.1 fun n => forceL forceC1 x.2.cs fun cs => forceN x.2.ty fun ty => forceB x.2.ex fun ex => f (n, ⟨cs, ty, ex⟩)
theorem forceE_eq (x : Nat × Ent) (f : Nat × Ent → α) : forceE x f = f x := by simp only [forceE, Qc6, Qcr Qds, forceB_eq]
end force
def Qb9 (H : Hp) : List Nat := H.map (·.1)
noncomputable def mergeH : Hp → Hp → Option Hp
 | [], X => some X
 | (n, e) :: l, X => match mergeH l X with
  | some Y => match get Y n with
   | none => some (ins n e Y)
   | some _ => none
  | none => none
theorem mergeH_get : ∀ {H X Y : Hp}, mergeH H X = some Y → ∀ m, get Y m = match get H m with | some e => some e | none => get X m
 | [], X, Y, h, m => by simp [mergeH] at h; subst h; simp [Qdz]
 | (n, e) :: l, X, Y, h, m => by
  unfold mergeH at h
  split at h
  ·rename_i Z hZ
   split at h
   ·rename_i hn
    simp at h; subst h
    rw [Qea n e Z hn, Qb3]
    by_cases h1 : m = n
    ·subst h1; simp
    ·have h2 : ¬ n = m := fun h => h1 h.symm
     simp only [h1, h2, if_false]
     exact mergeH_get hZ m
   ·cases h
  ·cases h
noncomputable def framed (call : Qdl) : Qdl := fun k xs nm H dead =>
 let seen := dfs H 4000 (xs.flatMap AV.names) []
 forceL forceE (H.filter fun e => seen.contains e.1) fun Hr => forceL forceV xs fun xs => forceN nm fun nm =>
  if (xs.flatMap AV.names).all (fun n => (Qb9 Hr).contains n) && Hr.all (fun e => (e.2.cs.flatMap C1.names).all fun n => (Qb9 Hr).contains n) then
   match call k xs nm Hr [] with
   | some (r, H1, d1) => forceV r fun r => forceL forceE H1 fun H1 =>
    if r.names.all (fun n => (Qb9 H1).contains n || (Qb9 Hr).contains n) && H1.all (fun e => (e.2.cs.flatMap C1.names).all fun n => (Qb9 H1).contains n || (Qb9 Hr).contains n) &&
        H1.all (fun e => (Qb9 Hr).contains e.1 || ((get H e.1).isNone && !dead.contains e.1)) then
     match mergeH H1 (H.filter fun e => !(Qb9 Hr).contains e.1) with
     | some Y => some (r, Y, (Qb9 Hr).filter (fun n => !(Qb9 H1).contains n) ++ dead)
     | none => none
    else none
   | none => none
  else none
theorem Qc3 {H : Hp} {n : Nat} (h : n ∈ Qb9 H) : (get H n).isSome = true := by
 induction H with
 | nil => simp [Qb9] at h
 | cons x H ih =>
  obtain ⟨m, e⟩ := x
  rw [Qb3]
  split
  ·rfl
  ·rename_i hm
   simp only [Qb9, List.map_cons, List.mem_cons] at h
   rcases h with h | h
   ·exact absurd h.symm hm
   ·exact ih h
theorem get_of_key' {H : Hp} {n : Nat} : n ∈ Qb9 H ↔ (get H n).isSome = true := ⟨Qc3, get_key⟩
theorem Qex (p : Nat → Bool) (H : Hp) (n : Nat) : get (H.filter fun e => p e.1) n = if p n then get H n else none := Qdq H n
theorem framed_sound {call : Qdl} (hc : ∀ D w0, Qef P D w0 call) : Qef P D w0 (framed call) := by
 intro k xs nm H dead r H' dead' ρ vs w h hR hA
 unfold framed at h
 dsimp only at h
 rw [Qcr forceE_eq, Qcr forceV_eq, Qc6] at h
 generalize hseen : dfs H 4000 (xs.flatMap AV.names) [] = seen at h
 generalize hHr : (H.filter fun e => seen.contains e.1) = Hr at h
 have hgr : ∀ n e, get Hr n = some e → get H n = some e := by
  intro n e he
  rw [← hHr, Qex (fun n => seen.contains n)] at he
  split at he
  ·exact he
  ·cases he
 split at h
 ·rename_i hck
  simp only [Bool.and_eq_true, List.all_eq_true, List.contains_iff_mem] at hck
  obtain ⟨hck1, hck2⟩ := hck
  split at h
  ·rename_i r1 H1 d1 hcall
   rw [forceV_eq, Qcr forceE_eq] at h
   split at h
   ·rename_i hck3
    simp only [Bool.and_eq_true, List.all_eq_true, Bool.or_eq_true, List.contains_iff_mem] at hck3
    obtain ⟨⟨hr1, hH1⟩, hnew⟩ := hck3
    split at h
    ·rename_i Y hY
     simp at h; obtain ⟨rfl, rfl, rfl⟩ := h
     let kp : Nat → Bool := fun n => (Qb9 Hr).contains n
     let Dr : Nat → Prop := fun g => ∃ n e z, get Hr n = some e ∧ ρ n = some (g, z)
     have hRr : RH Dr w (ρ.only kp) Hr [] w := by
      refine ⟨fun n e he => ?_, fun n m e e' g z z' he he' hg hg' => ?_, fun n x hx => ?_, ⟨rfl, rfl, rfl, Nat.le_refl _, fun _ _ _ => rfl⟩⟩
      ·obtain ⟨g, z, c, h1, h2, h3, h4, h5, _⟩ := hR.hp n e (hgr n e he)
       have hk : kp n = true := by simp only [kp, List.contains_iff_mem]; exact get_of_key'.2 (by rw [he]; rfl)
       refine ⟨g, z, c, by simp [Ren.only, hk, h1], h2, h3, fun i x hx => ?_, h5, .inl ⟨n, e, z, he, h1⟩⟩
       obtain ⟨y, hy, hr⟩ := h4 i x hx
       refine ⟨y, hy, C1.only hr fun m hm => ?_⟩
       simp only [kp, List.contains_iff_mem]
       exact hck2 (n, e) (Qew he) m (List.mem_flatMap.2 ⟨x, List.mem_of_getElem? hx, hm⟩)
      ·unfold Ren.only at hg hg'
       split at hg
       ·split at hg'
        ·exact hR.inj n m e e' g z z' (hgr _ _ he) (hgr _ _ he') hg hg'
        ·cases hg'
       ·cases hg
      ·unfold Ren.only at hx
       split at hx
       ·rename_i hk
        simp only [kp, List.contains_iff_mem] at hk
        exact .inl (Qc3 hk)
       ·cases hx
     have hAr : All2 (AV.R (ρ.only kp)) xs vs := All2.only (names := AV.names) (fun x v hx hk => AV.only hx hk) hA fun n hn => by
      simp only [kp, List.contains_iff_mem]; exact hck1 n hn
     obtain ⟨hfn, hcl⟩ := hc Dr w k xs nm Hr [] r1 H1 d1 (ρ.only kp) vs w hcall hRr hAr
     refine ⟨hfn, Calls.mono hcl fun e w' hh => ?_⟩
     obtain ⟨ρ1, V, hle, rfl, hV, hR1⟩ := hh
     let ρ' : Ren := fun n => match ρ n with | some x => some x | none => if (Qb9 H1).contains n then ρ1 n else none
     have hρ1 : ρ.le ρ' := fun n x hx => by simp [ρ', hx]
     have hag1 : ∀ n, n ∈ Qb9 Hr → ρ' n = ρ n ∧ ∀ x, ρ n = some x → ρ1 n = some x := by
      intro n hn
      have hs : (ρ n).isSome = true := by
       obtain ⟨e, he⟩ := Option.isSome_iff_exists.1 (Qc3 hn)
       obtain ⟨g, z, c, h1, _⟩ := hR.hp n e (hgr n e he)
       rw [h1]; rfl
      obtain ⟨x, hx⟩ := Option.isSome_iff_exists.1 hs
      refine ⟨by simp [ρ', hx], fun y hy => hle n y (by simp [Ren.only, kp, hn, hy])⟩
     have hag : ∀ n, n ∈ Qb9 H1 → ρ' n = ρ1 n := by
      intro n hn
      obtain ⟨e, he⟩ := Option.isSome_iff_exists.1 (Qc3 hn)
      have hnn := hnew (n, e) (Qew he)
      by_cases hk : n ∈ Qb9 Hr
      ·obtain ⟨h1, h2⟩ := hag1 n hk
       rw [h1]
       cases hh : ρ n with
       | none =>
        obtain ⟨e', he'⟩ := Option.isSome_iff_exists.1 (Qc3 hk)
        obtain ⟨g, z, c, h3, _⟩ := hR.hp n e' (hgr n e' he')
        rw [h3] at hh; cases hh
       | some x => exact (h2 x hh).symm
      ·have h0 : ρ n = none := by
         rcases hnn with hnn | hnn
         ·exact absurd hnn hk
         ·simp only [Bool.and_eq_true, Bool.not_eq_true', Option.isNone_iff_eq_none] at hnn
          exact hR.unused hnn.1 (by simpa using hnn.2)
       simp [ρ', h0, hn]
     have hle' : (ρ1.only fun n => (Qb9 H1).contains n || (Qb9 Hr).contains n).le ρ' := by
      intro n x hx
      unfold Ren.only at hx
      split at hx
      ·rename_i hk
       simp only [Bool.or_eq_true, List.contains_iff_mem] at hk
       rcases hk with hk | hk
       ·rw [hag n hk]; exact hx
       ·obtain ⟨h1, h2⟩ := hag1 n hk
        rw [h1]
        cases hh : ρ n with
        | none =>
         obtain ⟨e', he'⟩ := Option.isSome_iff_exists.1 (Qc3 hk)
         obtain ⟨g, z, c, h3, _⟩ := hR.hp n e' (hgr n e' he')
         rw [h3] at hh; cases hh
        | some y => rw [h2 y hh] at hx; exact hx
      ·cases hx
     have hmem : ∀ n, ((Qb9 H1).contains n || (Qb9 Hr).contains n) = true ↔ n ∈ Qb9 H1 ∨ n ∈ Qb9 Hr := fun n => by
      simp only [Bool.or_eq_true, List.contains_iff_mem]
     have hX : ∀ n e, get (H.filter fun e => !(Qb9 Hr).contains e.1) n = some e → get H n = some e ∧ n ∉ Qb9 Hr := by
      intro n e he
      rw [Qex (fun n => !(Qb9 Hr).contains n)] at he
      split at he
      ·rename_i hk; exact ⟨he, by simpa using hk⟩
      ·cases he
     have hfar : ∀ n e g z, get (H.filter fun e => !(Qb9 Hr).contains e.1) n = some e → ρ n = some (g, z) → ¬ Dr g ∧ g < w.heap.size := by
      intro n e g z he hg
      obtain ⟨h1, h2⟩ := hX n e he
      refine ⟨?_, (hR.hp n e h1).block_lt g z hg⟩
      rintro ⟨m, e', z', hm, hg'⟩
      have := hR.inj n m e e' g z z' h1 (hgr m e' hm) hg hg'
      subst this
      exact h2 (get_of_key'.2 (by rw [hm]; rfl))
     have hDr : ∀ g, Dr g → D g ∨ w0.heap.size ≤ g := by
      rintro g ⟨n, e, z, he, hg⟩
      obtain ⟨g', z', c, h1, _, _, _, _, h6⟩ := hR.hp n e (hgr n e he)
      rw [hg] at h1; injection h1 with h1; injection h1 with h1 _; subst h1; exact h6
     have hget := mergeH_get hY
     have hcases : ∀ n e, get Y n = some e → get H1 n = some e ∨ get H1 n = none ∧ get (H.filter fun e => !(Qb9 Hr).contains e.1) n = some e := by
      intro n e he
      rw [hget n] at he
      cases hh : get H1 n with
      | some e' => rw [hh] at he; exact .inl he
      | none => rw [hh] at he; exact .inr ⟨rfl, he⟩
     have hkey1 : ∀ n e, get H1 n = some e → n ∈ Qb9 H1 := fun n e he => get_of_key'.2 (by rw [he]; rfl)
     refine ⟨ρ', V, hρ1, rfl, AV.mono hle' _ _ (AV.only hV fun n hn => (hmem n).2 (hr1 n hn)), ?_, ?_, ?_, ?_⟩
     ·intro n e he
      rcases hcases n e he with h1 | ⟨_, h1⟩
      ·obtain ⟨g, z, c, q1, q2, q3, q4, q5, q6⟩ := hR1.hp n e h1
       refine ⟨g, z, c, by rw [hag n (hkey1 n e h1)]; exact q1, q2, q3, fun i x hx => ?_, q5, ?_⟩
       ·obtain ⟨y, hy, hr⟩ := q4 i x hx
        exact ⟨y, hy, C1.mono hle' _ _ (C1.only hr fun m hm => (hmem m).2 (hH1 (n, e) (Qew h1) m (List.mem_flatMap.2 ⟨x, List.mem_of_getElem? hx, hm⟩)))⟩
       ·rcases q6 with q6 | q6
        ·exact hDr g q6
        ·right; have := hR.out.size; omega
      ·refine (hR.hp n e (hX n e h1).1).mono hρ1 fun g z hg => ?_
       obtain ⟨p1, p2⟩ := hfar n e g z h1 hg
       exact hR1.out.block g p2 p1
     ·have side : ∀ n e g z, get Y n = some e → ρ' n = some (g, z) → (get H1 n = some e ∧ ρ1 n = some (g, z) ∧ (Dr g ∨ w.heap.size ≤ g)) ∨ (get (H.filter fun e => !(Qb9 Hr).contains e.1) n = some e ∧ ρ n = some (g, z) ∧ ¬ Dr g ∧ g < w.heap.size) := by
        intro n e g z he hg
        rcases hcases n e he with h1 | ⟨_, h1⟩
        ·left
         rw [hag n (hkey1 n e h1)] at hg
         refine ⟨h1, hg, ?_⟩
         obtain ⟨g', z', c, q1, _, _, _, _, q6⟩ := hR1.hp n e h1
         rw [hg] at q1; injection q1 with q1; injection q1 with q1 _; subst q1; exact q6
        ·right
         obtain ⟨g', z', c, q1, _⟩ := hR.hp n e (hX n e h1).1
         have : ρ n = some (g, z) := by rw [← hg]; simp [ρ', q1]
         exact ⟨h1, this, hfar n e g z h1 this⟩
      intro n m e e' g z z' he he' hg hg'
      rcases side n e g z he hg with ⟨a1, a2, a3⟩ | ⟨a1, a2, a3, a4⟩ <;> rcases side m e' g z' he' hg' with ⟨b1, b2, b3⟩ | ⟨b1, b2, b3, b4⟩
      ·exact hR1.inj n m e e' g z z' a1 b1 a2 b2
      ·rcases a3 with a3 | a3
       ·exact absurd a3 b3
       ·omega
      ·rcases b3 with b3 | b3
       ·exact absurd b3 a3
       ·omega
      ·exact hR.inj n m e e' g z z' (hX _ _ a1).1 (hX _ _ b1).1 a2 b2
     ·intro n x hx
      rw [hget n]
      by_cases h1 : n ∈ Qb9 H1
      ·obtain ⟨e, he⟩ := Option.isSome_iff_exists.1 (Qc3 h1)
       left; rw [he]; rfl
      ·have h0 : get H1 n = none := by
         cases hh : get H1 n with
         | none => rfl
         | some e => exact absurd (hkey1 n e hh) h1
       rw [h0]
       simp only
       have hx' : ρ n = some x := by
        cases hh : ρ n with
        | some y => simp only [ρ', hh] at hx; exact hx
        | none => simp [ρ', hh, h1] at hx
       rcases hR.fr n x hx' with h2 | h2
       ·by_cases h3 : n ∈ Qb9 Hr
        ·right; simp [h3, h1]
        ·left
         rw [Qex (fun n => !(Qb9 Hr).contains n)]
         simp [h3]; exact h2
       ·right; simp [h2]
     ·refine ⟨hR1.out.os.trans hR.out.os, hR1.out.tape.trans hR.out.tape, hR1.out.output.trans hR.out.output, Nat.le_trans hR.out.size hR1.out.size, fun k hk hd => ?_⟩
      have h2 : ¬ Dr k := fun hh => by rcases hDr k hh with h3 | h3; exact hd h3; omega
      rw [hR1.out.block k (Nat.lt_of_lt_of_le hk hR.out.size) h2]
      exact hR.out.block k hk hd
    ·cases h
   ·cases h
  ·cases h
 ·cases h
def C0.map (f : Nat → Nat) : C0 → C0
 | .p (some (n, o)) => .p (some (f n, o))
 | .s (some (n, o)) len cap sz full => .s (some (f n, o)) len cap sz full
 | x => x
def C1.map (f : Nat → Nat) : C1 → C1
 | .c x => .c (x.map f)
 | .f fn a b => .f fn (a.map (C0.map f)) (b.map (C0.map f))
def T1.map (f : Nat → Nat) : T1 → T1
 | .c x => .c (x.map f)
 | .g l => .g (l.map (C1.map f))
def AV.map (f : Nat → Nat) : AV → AV
 | .c x => .c (x.map f)
 | .g l => .g (l.map (C1.map f))
 | .t l => .t (l.map (T1.map f))
section
variable {ρ ρ' : Ren} {f : Nat → Nat}
theorem C0.map_R {x : C0} {v : Value} (h : x.R ρ v) (hf : ∀ n ∈ x.names, ∀ y, ρ n = some y → ρ' (f n) = some y) : (x.map f).R ρ' v := by
 cases x with
 | p a =>
  cases a with
  | none => exact h
  | some a => obtain ⟨g, z, h1, h2⟩ := h; exact ⟨g, z, hf a.1 (by simp [C0.names]) _ h1, h2⟩
 | s a len cap sz full =>
  cases a with
  | none => exact h
  | some a => obtain ⟨g, z, c, h1, h2⟩ := h; exact ⟨g, z, c, hf a.1 (by simp [C0.names]) _ h1, h2⟩
 | _ => exact h
theorem All2.mapR {α : Type} {R R' : α → Value → Prop} {names : α → List Nat} {m : α → α} (hR : ∀ x v, R x v → (∀ n ∈ names x, ∀ y, ρ n = some y → ρ' (f n) = some y) → R' (m x) v) :
    ∀ {l : List α} {L : List Value}, All2 R l L → (∀ n ∈ l.flatMap names, ∀ y, ρ n = some y → ρ' (f n) = some y) → All2 R' (l.map m) L
 | [], [], _, _ => trivial
 | a :: l, b :: L, ⟨h1, h2⟩, h => ⟨hR a b h1 fun n hn => h n (by simp [hn]), All2.mapR hR h2 fun n hn => h n (by simp only [List.flatMap_cons, List.mem_append]; exact .inr hn)⟩
 | [], _ :: _, hh, _ => hh.elim
 | _ :: _, [], hh, _ => hh.elim
theorem C1.map_R {x : C1} {v : Value} (h : x.R ρ v) (hf : ∀ n ∈ x.names, ∀ y, ρ n = some y → ρ' (f n) = some y) : (x.map f).R ρ' v := by
 cases x with
 | c x => exact C0.map_R h hf
 | f fn a b =>
  obtain ⟨F, C, h1, h2, h3⟩ := h
  exact ⟨F, C, All2.mapR (ρ := ρ) (ρ' := ρ') (names := C0.names) (fun x v => C0.map_R) h1 fun n hn => hf n (by simp only [C1.names, List.mem_append]; exact .inl hn),
   All2.mapR (ρ := ρ) (ρ' := ρ') (names := C0.names) (fun x v => C0.map_R) h2 fun n hn => hf n (by simp only [C1.names, List.mem_append]; exact .inr hn), h3⟩
theorem T1.map_R {x : T1} {v : Value} (h : x.R ρ v) (hf : ∀ n ∈ x.names, ∀ y, ρ n = some y → ρ' (f n) = some y) : (x.map f).R ρ' v := by
 cases x with
 | c x => exact C1.map_R h hf
 | g l => obtain ⟨L, h1, h2⟩ := h; exact ⟨L, All2.mapR (ρ := ρ) (ρ' := ρ') (names := C1.names) (fun x v => C1.map_R) h1 hf, h2⟩
theorem AV.map_R {x : AV} {v : Value} (h : x.R ρ v) (hf : ∀ n ∈ x.names, ∀ y, ρ n = some y → ρ' (f n) = some y) : (x.map f).R ρ' v := by
 cases x with
 | c x => exact C1.map_R h hf
 | g l => obtain ⟨L, h1, h2⟩ := h; exact ⟨L, All2.mapR (ρ := ρ) (ρ' := ρ') (names := C1.names) (fun x v => C1.map_R) h1 hf, h2⟩
 | t l => obtain ⟨L, h1, h2⟩ := h; exact ⟨L, All2.mapR (ρ := ρ) (ρ' := ρ') (names := T1.names) (fun x v => T1.map_R) h1 hf, h2⟩
end
def Ent.map (f : Nat → Nat) (e : Ent) : Ent := ⟨e.cs.map (C1.map f), e.ty, e.ex⟩
noncomputable def posOf (l : List Nat) (n : Nat) : Nat := @List.rec Nat (fun _ => Nat) 0 (fun x l ih => cond (Nat.beq x n) (l.length + 1) ih) l
noncomputable def atPos (l : List Nat) (c : Nat) : Nat := @List.rec Nat (fun _ => Nat) 0 (fun x l ih => cond (Nat.beq c (l.length + 1)) x ih) l
theorem posOf_spec : ∀ {l : List Nat} {n : Nat}, n ∈ l → 0 < posOf l n ∧ posOf l n ≤ l.length ∧ atPos l (posOf l n) = n
 | x :: l, n, h => by
  have e1 : posOf (x :: l) n = if x = n then l.length + 1 else posOf l n := beq_if _ _ _ _
  have e2 : ∀ c, atPos (x :: l) c = if c = l.length + 1 then x else atPos l c := fun c => beq_if _ _ _ _
  rw [e1]
  split
  ·rename_i hx; subst hx; exact ⟨by omega, by simp, by rw [e2]; simp⟩
  ·rename_i hx
   have hn : n ∈ l := by
    rcases List.mem_cons.1 h with h | h
    ·exact absurd h.symm hx
    ·exact h
   obtain ⟨h1, h2, h3⟩ := posOf_spec hn
   refine ⟨h1, by simp; omega, ?_⟩
   rw [e2, if_neg (by omega)]; exact h3
theorem atPos_mem : ∀ {l : List Nat} {c : Nat}, 0 < c → c ≤ l.length → atPos l c ∈ l
 | [], c, h0, h => by simp at h; omega
 | x :: l, c, h0, h => by
  have e2 : atPos (x :: l) c = if c = l.length + 1 then x else atPos l c := beq_if _ _ _ _
  rw [e2]
  split
  ·simp
  ·exact List.mem_cons_of_mem _ (atPos_mem h0 (by simp at h; omega))
noncomputable def canonH (f : Nat → Nat) (H : Hp) : List Nat → Hp
 | [] => []
 | n :: l => match get H n with
  | some e => (f n, e.map f) :: canonH f H l
  | none => canonH f H l
noncomputable def backN (stepN : Nat) (seen : List Nat) (nm c : Nat) : Nat := cond (Nat.ble c seen.length) (atPos seen c) (nm + c * stepN)
def nodupB : List Nat → Bool
 | [] => true
 | x :: l => !l.contains x && nodupB l
theorem pos_at : ∀ {l : List Nat} {c : Nat}, nodupB l = true → 0 < c → c ≤ l.length → posOf l (atPos l c) = c
 | [], c, _, h0, h => by simp at h; omega
 | x :: l, c, hd, h0, h => by
  simp only [nodupB, Bool.and_eq_true, Bool.not_eq_true'] at hd
  have e1 : ∀ n, posOf (x :: l) n = if x = n then l.length + 1 else posOf l n := fun n => beq_if _ _ _ _
  have e2 : atPos (x :: l) c = if c = l.length + 1 then x else atPos l c := beq_if _ _ _ _
  rw [e2]
  split
  ·rename_i hc; rw [e1, if_pos rfl, hc]
  ·rename_i hc
   have hm := atPos_mem (l := l) h0 (by simp at h; omega)
   have hne : ¬ x = atPos l c := by rintro rfl; simp [hm] at hd
   rw [e1, if_neg hne]
   exact pos_at hd.2 h0 (by simp at h; omega)
noncomputable def ren (stepN : Nat) (call : Qdl) : Qdl := fun k xs nm H dead =>
 let seen := dfs H 4000 (xs.flatMap AV.names) []
 if dead.isEmpty && nodupB seen && (Qb9 H).all (fun n => seen.contains n) && seen.all (fun n => (get H n).isSome) && decide (nm < stepN) &&
     (xs.flatMap AV.names).all (fun n => seen.contains n) && H.all (fun e => (e.2.cs.flatMap C1.names).all fun n => seen.contains n) then
  forceL forceE (canonH (posOf seen) H seen) fun H' => forceL forceV (xs.map (AV.map (posOf seen))) fun xs' =>
   match call k xs' 1 H' [] with
   | some (r, H1, d1) =>
    if H1.all (fun e => e.1 != 0 && (Nat.ble e.1 seen.length || !seen.contains (nm + e.1 * stepN))) && d1.all (fun n => n != 0 && (Nat.ble n seen.length || !seen.contains (nm + n * stepN))) then
     some (r.map (backN stepN seen nm), H1.map (fun e => (backN stepN seen nm e.1, e.2.map (backN stepN seen nm))), d1.map (backN stepN seen nm))
    else none
   | none => none
 else none
theorem Qdv {f : Nat → Nat} {H : Hp} : ∀ {l : List Nat} {c : Nat} {e' : Ent}, get (canonH f H l) c = some e' → ∃ n e, n ∈ l ∧ f n = c ∧ get H n = some e ∧ e' = e.map f
 | [], c, e', h => by simp [canonH, Qdz] at h
 | n :: l, c, e', h => by
  unfold canonH at h
  split at h
  ·rename_i e he
   rw [Qb3] at h
   split at h
   ·rename_i hc; injection h with h; exact ⟨n, e, by simp, hc, he, h.symm⟩
   ·obtain ⟨m, e2, h1, h2⟩ := Qdv h; exact ⟨m, e2, List.mem_cons_of_mem _ h1, h2⟩
  ·obtain ⟨m, e2, h1, h2⟩ := Qdv h; exact ⟨m, e2, List.mem_cons_of_mem _ h1, h2⟩
theorem canonH_some {f : Nat → Nat} {H : Hp} : ∀ {l : List Nat} {n : Nat}, n ∈ l → (get H n).isSome = true → (get (canonH f H l) (f n)).isSome = true
 | m :: l, n, h, hs => by
  unfold canonH
  rcases List.mem_cons.1 h with rfl | h
  ·obtain ⟨e, he⟩ := Option.isSome_iff_exists.1 hs
   rw [he]; simp only; rw [Qb3]; simp
  ·have ih := canonH_some (f := f) h hs
   split
   ·rw [Qb3]; split
    ·rfl
    ·exact ih
   ·exact ih
theorem mapH_get {g : Nat → Nat} : ∀ {H : Hp} {n : Nat} {e' : Ent}, get (H.map fun e => (g e.1, e.2.map g)) n = some e' → ∃ c e, get H c = some e ∧ g c = n ∧ e' = e.map g
 | [], n, e', h => by simp [Qdz] at h
 | (m, e) :: H, n, e', h => by
  rw [List.map_cons, Qb3] at h
  split at h
  ·rename_i hm; injection h with h; exact ⟨m, e, by rw [Qb3]; simp, hm, h.symm⟩
  ·rename_i hm
   obtain ⟨c, e2, h1, h2, h3⟩ := mapH_get h
   refine ⟨c, e2, ?_, h2, h3⟩
   rw [Qb3, if_neg]; exact h1
   rintro rfl; exact hm h2
theorem mapH_some {g : Nat → Nat} : ∀ {H : Hp} {c : Nat}, (get H c).isSome = true → (get (H.map fun e => (g e.1, e.2.map g)) (g c)).isSome = true
 | (m, e) :: H, c, h => by
  rw [List.map_cons, Qb3]
  split
  ·rfl
  ·rename_i hm
   rw [Qb3, if_neg (by rintro rfl; exact hm rfl)] at h
   exact mapH_some h
theorem ren_sound {stepN : Nat} (hsp : 0 < stepN) {call : Qdl} (hc : ∀ D w0, Qef P D w0 call) : Qef P D w0 (ren stepN call) := by
 intro k xs nm H dead r H' dead' ρ vs w h hR hA
 unfold ren at h
 dsimp only at h
 generalize hseen : dfs H 4000 (xs.flatMap AV.names) [] = seen at h
 split at h
 ·rename_i hck
  simp only [Bool.and_eq_true, List.all_eq_true, List.contains_iff_mem, decide_eq_true_eq] at hck
  obtain ⟨⟨⟨⟨⟨⟨hde, hnd⟩, hks⟩, hsk⟩, hnm⟩, hxs⟩, hcs⟩ := hck
  have hdead : dead = [] := by simpa using hde
  subst hdead
  rw [Qcr forceE_eq, Qcr forceV_eq] at h
  split at h
  ·rename_i r0 H1 d1 hcall
   split at h
   ·rename_i hck2
    simp only [Bool.and_eq_true, List.all_eq_true, Bool.or_eq_true, bne_iff_ne, Bool.not_eq_true', Nat.ble_eq] at hck2
    obtain ⟨hn1, hn2⟩ := hck2
    simp at h; obtain ⟨rfl, rfl, rfl⟩ := h
    let ρc : Ren := fun c => if 0 < c ∧ c ≤ seen.length then ρ (atPos seen c) else none
    have hρc : ∀ n ∈ seen, ρc (posOf seen n) = ρ n := by
     intro n hn
     obtain ⟨h1, h2, h3⟩ := posOf_spec hn
     simp [ρc, h1, h2, h3]
    have hdom : ∀ n x, ρ n = some x → n ∈ seen := by
     intro n x hx
     rcases hR.fr n x hx with h1 | h1
     ·exact hks n (get_of_key'.2 h1)
     ·cases h1
    have hRc : RH D w0 ρc (canonH (posOf seen) H seen) [] w := by
     refine ⟨?_, ?_, ?_, hR.out⟩
     ·intro c e' he
      obtain ⟨n, e, hn, rfl, hne, rfl⟩ := Qdv he
      obtain ⟨g, z, cc, h1, h2, h3, h4, h5, h6⟩ := hR.hp n e hne
      refine ⟨g, z, cc, by rw [hρc n hn]; exact h1, h2, h3, fun i x hx => ?_, fun hx => by simpa [Ent.map] using h5 hx, h6⟩
      simp only [Ent.map, List.getElem?_map] at hx
      obtain ⟨x0, hx0, rfl⟩ := Option.map_eq_some_iff.1 hx
      obtain ⟨y, hy, hr⟩ := h4 i x0 hx0
      refine ⟨y, hy, C1.map_R hr fun m hm y hmy => ?_⟩
      rw [hρc m (hdom m y hmy)]; exact hmy
     ·intro c c' e1 e2 g z z' he1 he2 hg1 hg2
      obtain ⟨n, e, hn, rfl, hne, rfl⟩ := Qdv he1
      obtain ⟨n', e', hn', rfl, hne', rfl⟩ := Qdv he2
      rw [hρc n hn] at hg1
      rw [hρc n' hn'] at hg2
      rw [hR.inj n n' e e' g z z' hne hne' hg1 hg2]
     ·intro c x hx
      left
      simp only [ρc] at hx
      split at hx
      ·rename_i hc0
       have hm := atPos_mem hc0.1 hc0.2
       have := canonH_some (f := posOf seen) (l := seen) hm (hsk _ hm)
       rw [pos_at hnd hc0.1 hc0.2] at this
       exact this
      ·cases hx
    have hAc : All2 (AV.R ρc) (xs.map (AV.map (posOf seen))) vs := All2.mapR (ρ := ρ) (ρ' := ρc) (f := posOf seen) (names := AV.names) (fun x v => AV.map_R) hA fun n hn y hy => by
     rw [hρc n (hdom n y hy)]; exact hy
    obtain ⟨hfn, hcl⟩ := hc D w0 k _ 1 _ [] r0 H1 d1 ρc vs w hcall hRc hAc
    refine ⟨hfn, Calls.mono hcl fun e w' hh => ?_⟩
    obtain ⟨ρ1, V, hle, rfl, hV, hR1⟩ := hh
    let ρ2 : Ren := fun n => match ρ n with | some x => some x | none => if (n - nm) % stepN = 0 ∧ nm ≤ n ∧ seen.length < (n - nm) / stepN then ρ1 ((n - nm) / stepN) else none
    have hA : ∀ c y, ρ1 c = some y → ρ2 (backN stepN seen nm c) = some y := by
     intro c y hy
     have hk : c ≠ 0 ∧ (c ≤ seen.length ∨ ¬ nm + c * stepN ∈ seen) := by
      rcases hR1.fr c y hy with h1 | h1
      ·obtain ⟨e, he⟩ := Option.isSome_iff_exists.1 h1
       have := hn1 (c, e) (Qew he)
       exact ⟨this.1, this.2.imp id (fun hh => by simpa using hh)⟩
      ·have := hn2 c h1
       exact ⟨this.1, this.2.imp id (fun hh => by simpa using hh)⟩
     have hb : backN stepN seen nm c = if c ≤ seen.length then atPos seen c else nm + c * stepN := by
      unfold backN
      cases hh : Nat.ble c seen.length with
      | true => simp [Nat.le_of_ble_eq_true hh]
      | false =>
       have : ¬ c ≤ seen.length := fun h => by rw [Nat.ble_eq_true_of_le h] at hh; cases hh
       simp [this]
     rw [hb]
     by_cases hcl : c ≤ seen.length
     ·rw [if_pos hcl]
      have hm := atPos_mem (l := seen) (Nat.pos_of_ne_zero hk.1) hcl
      obtain ⟨e, he⟩ := Option.isSome_iff_exists.1 (hsk _ hm)
      obtain ⟨g, z, cc, h1, _⟩ := hR.hp _ e he
      have h2 := hρc _ hm
      rw [pos_at hnd (Nat.pos_of_ne_zero hk.1) hcl, h1] at h2
      have h3 := hle c _ h2
      rw [hy] at h3
      simp [ρ2, h1, h3]
     ·rw [if_neg hcl]
      have hno : ρ (nm + c * stepN) = none := by
       cases hh : ρ (nm + c * stepN) with
       | none => rfl
       | some x => exact absurd (hdom _ x hh) (hk.2.resolve_left hcl)
      have e1 : nm + c * stepN - nm = c * stepN := by omega
      simp only [ρ2, hno, e1, Nat.mul_mod_left, Nat.mul_div_cancel c hsp]
      rw [if_pos ⟨trivial, by omega, by omega⟩]; exact hy
    refine ⟨ρ2, V, fun n x hx => by simp [ρ2, hx], rfl, AV.map_R hV fun n _ y hy => hA n y hy, ?_, ?_, ?_, hR1.out⟩
    ·intro n e' he
     obtain ⟨c, e, h1, rfl, rfl⟩ := mapH_get he
     obtain ⟨g, z, cc, q1, q2, q3, q4, q5, q6⟩ := hR1.hp c e h1
     refine ⟨g, z, cc, hA c _ q1, q2, q3, fun i x hx => ?_, fun hx => by simpa [Ent.map] using q5 hx, q6⟩
     simp only [Ent.map, List.getElem?_map] at hx
     obtain ⟨x0, hx0, rfl⟩ := Option.map_eq_some_iff.1 hx
     obtain ⟨y, hy, hr⟩ := q4 i x0 hx0
     exact ⟨y, hy, C1.map_R hr fun m _ y hmy => hA m y hmy⟩
    ·intro n n' e1 e2 g z z' he1 he2 hg1 hg2
     obtain ⟨c, e, h1, rfl, rfl⟩ := mapH_get he1
     obtain ⟨c', e', h1', rfl, rfl⟩ := mapH_get he2
     obtain ⟨g1, z1, cc, q1, _⟩ := hR1.hp c e h1
     obtain ⟨g2, z2, cc', q1', _⟩ := hR1.hp c' e' h1'
     rw [hA c _ q1] at hg1
     rw [hA c' _ q1'] at hg2
     injection hg1 with hg1; injection hg1 with hg1 hz1; subst hg1
     injection hg2 with hg2; injection hg2 with hg2 hz2; subst hg2
     rw [hR1.inj c c' e e' _ _ _ h1 h1' q1 q1']
    ·intro n x hx
     have put : ∀ c, ρ1 c = some x → backN stepN seen nm c = n → (get (H1.map fun e => (backN stepN seen nm e.1, e.2.map (backN stepN seen nm))) n).isSome = true ∨ n ∈ d1.map (backN stepN seen nm) := by
      intro c hcx hcn
      subst hcn
      rcases hR1.fr c x hcx with h1 | h1
      ·exact .inl (mapH_some h1)
      ·exact .inr (List.mem_map.2 ⟨c, h1, rfl⟩)
     cases hh : ρ n with
     | some y =>
      have hxy : y = x := by simp only [ρ2, hh] at hx; exact Option.some.inj hx
      subst hxy
      have hn := hdom n y hh
      obtain ⟨h1, h2, h3⟩ := posOf_spec hn
      refine put (posOf seen n) (hle _ _ (by rw [hρc n hn]; exact hh)) ?_
      simp only [backN, Nat.ble_eq_true_of_le h2, cond_true, h3]
     | none =>
      simp only [ρ2, hh] at hx
      split at hx
      ·rename_i hq
       obtain ⟨q1, q2, q3⟩ := hq
       refine put _ hx ?_
       have hb : Nat.ble ((n - nm) / stepN) seen.length = false := by
        cases hb : Nat.ble ((n - nm) / stepN) seen.length with
        | false => rfl
        | true => have := Nat.le_of_ble_eq_true hb; omega
       simp only [backN, hb, cond_false]
       have := Nat.div_add_mod (n - nm) stepN
       rw [q1, Nat.mul_comm] at this
       omega
      ·cases hx
   ·cases h
  ·cases h
 ·cases h
noncomputable def resA (P : Program) (s : St) : List ResultVar → Option (List AV)
 | [] => some []
 | .tmp t :: l => match resA P s l with
  | some vs => some (nthA s.tm t :: vs)
  | none => none
 | .cell t ty :: l => match ptrA (nthA s.tm t), resA P s l with
  | some (n, o), some vs => match loadA P s.H ty n o with
   | some v => some (v :: vs)
   | none => none
  | _, _ => none
def toT : AV → Option T1
 | .c x => some (.c x)
 | .g l => some (.g l)
 | .t _ => none
def toTs : List AV → Option (List T1)
 | [] => some []
 | v :: l => match toT v, toTs l with
  | some x, some xs => some (x :: xs)
  | _, _ => none
def finA : List AV → Option AV
 | [v] => some v
 | l => (toTs l).map .t
theorem toTs_R {ρ : Ren} : ∀ {l : List AV} {xs : List T1} {L : List Value}, toTs l = some xs → All2 (AV.R ρ) l L → All2 (T1.R ρ) xs L
 | [], xs, [], h, _ => by simp [toTs] at h; subst h; trivial
 | v :: l, xs, V :: L, h, ⟨h1, h2⟩ => by
  unfold toTs at h
  split at h
  ·rename_i x xs' hx hxs
   simp at h; subst h
   refine ⟨?_, toTs_R hxs h2⟩
   cases v <;> simp [toT] at hx <;> subst hx <;> exact h1
  ·cases h
 | [], _, _ :: _, _, hh => hh.elim
 | _ :: _, _, [], _, hh => hh.elim
theorem resA_sound {ρ : Ren} {s : St} {a : Act} {w : World} (h : Rel D w0 ρ s a w) : ∀ {l : List ResultVar} {vs : List AV}, resA P s l = some vs →
    ∃ VS, All2 (AV.R ρ) vs VS ∧ (l.mapM fun (x : ResultVar) => (match x with | .tmp t => pure (a.tmps.getD t undef) | .cell t ty => do loadVar ty (← asAddr (a.tmps.getD t undef)) : Sem Value)).run P w = .ok VS w
 | [], vs, he => by simp [resA] at he; subst he; exact ⟨[], trivial, by simp⟩
 | .tmp t :: l, vs, he => by
  unfold resA at he
  split at he
  ·rename_i vs' hv
   simp at he; subst he
   obtain ⟨VS, h1, h2⟩ := resA_sound h hv
   exact ⟨a.tmps.getD t undef :: VS, ⟨Qdn h.tm t, h1⟩, by simp only [List.mapM_cons, Sem.run_bind, Sem.run_pure, h2, Result.andThen_ok]⟩
  ·cases he
 | .cell t ty :: l, vs, he => by
  unfold resA at he
  split at he
  ·rename_i n o vs' hp hv
   split at he
   ·rename_i v hl
    simp at he; subst he
    obtain ⟨VS, h1, h2⟩ := resA_sound h hv
    obtain ⟨g, z, hg, hV⟩ := ptrA_R hp (Qdn h.tm t)
    obtain ⟨V, hr, hrun⟩ := loadA_sound (P := P) h.rh hg hl
    simp only [Instr.loadAt, Instr.sureAddr, Sem.run_bind, Sem.run_pure, Result.andThen_ok] at hrun
    exact ⟨V :: VS, ⟨hr, h1⟩, by
     have ha : (asAddr (a.tmps.getD t undef)).run P w = .ok ⟨g, o, none⟩ w := by rw [hV]; rfl
     simp only [List.mapM_cons, Sem.run_bind, Sem.run_pure, h2, ha, hrun, Result.andThen_ok]⟩
   ·cases he
  ·cases he
theorem results_sound {ρ : Ren} {s : St} {a : Act} {w : World} (h : Rel D w0 ρ s a w) {fn : Func} {vs : List AV} {r : AV} (he : resA P s fn.results.toList = some vs) (hf : finA vs = some r) :
    ∃ V, r.R ρ V ∧ (results fn a.tmps).run P w = .ok V w := by
 obtain ⟨VS, h1, h2⟩ := resA_sound h he
 have hrun : ∀ (f : ResultVar → Sem Value), (fn.results.toList.mapM f).run P w = .ok VS w → (do let vs ← fn.results.mapM f; pure (if h : vs.size = 1 then vs[0] else Value.tuple vs) : Sem Value).run P w = .ok (if h : VS.toArray.size = 1 then VS.toArray[0] else .tuple VS.toArray) w := by
  intro f hf
  rw [Array.mapM_eq_mapM_toList]
  simp [hf]
 refine ⟨if h : VS.toArray.size = 1 then VS.toArray[0] else .tuple VS.toArray, ?_, hrun _ h2⟩
 have hl := h1.len
 unfold finA at hf
 split at hf
 ·rename_i v
  simp at hf; subst hf
  cases VS with
  | nil => simp at hl
  | cons V VS =>
   cases VS with
   | nil => exact h1.1
   | cons _ _ => simp at hl
 ·rename_i hn
  obtain ⟨xs, hx, rfl⟩ := Option.map_eq_some_iff.1 hf
  have : ¬ VS.toArray.size = 1 := by
   intro hs
   have hs2 : vs.length = 1 := by simp at hs; omega
   cases vs with
   | nil => simp at hs2
   | cons v vs =>
    cases vs with
    | nil => exact hn v rfl
    | cons _ _ => simp at hs2
  rw [dif_neg this]
  exact ⟨VS, toTs_R hx h1, rfl⟩
noncomputable def evFn (P : Program) (tbl : FuncId → Option Func) (noop : FuncId → Bool) (rk : FuncId → Nat) (N : Nat) : Nat → Qdl
 | 0 => fun _ _ _ _ _ => none
 | d + 1 => fun k xs nm H dead => bif Nat.ble (rk k) d then evFn P tbl noop rk N d k xs nm H dead else match tbl k with
  | none => none
  | some fn => match fn.body with
   | none => none
   | some c => match evCode P (framed (ren 4294967296 (evFn P tbl noop rk N d))) nm N c { tm := xs ++ List.replicate (fn.ntmps - xs.length) Qd0, H := H, dead := dead, df := [], r := 0 } with
    | some (.x _, _) => none
    | none => none
    | some (_, s) => if s.df.all (fun x => noop x.1 && Nat.beq x.2.length 2) then match resA P s fn.results.toList with
        | some vs => match finA vs with
         | some r => if s.H.length ≤ H.length then some (r, s.H, s.dead) else some (r, gc H dead r s.H s.dead)
         | none => none
        | none => none
     else none
def NoopOK (P : Program) (noop : FuncId → Bool) : Prop :=
 ∀ f, noop f = true → (∃ fn, P.funcs[f]? = some fn ∧ (fn.name == "runtime.NumGoroutine") = false ∧ fn.body.isNone = false) ∧
  ∀ p q w, CallsD P f #[p, q] .returning w fun e u w' => (∃ v, e = .returned v) ∧ u = .returning ∧ w' = w
theorem leaves_noop {noop : FuncId → Bool} (hn : NoopOK P noop) {ρ : Ren} {fn : Func} {tmps : Array Value} {R : Ending → World → Prop} {w : World} {V : Value} (hres : (results fn tmps).run P w = .ok V w) (hR : R (.returned V) w) :
    ∀ {l : List (FuncId × List C0)} {m : List Deferred}, All2 (fun (x : FuncId × List C0) (d : Deferred) => ∃ C, All2 (C0.R ρ) x.2 C ∧ d = { target := .fn (.func x.1) C.toArray, args := #[] }) l m →
     l.all (fun x => noop x.1 && Nat.beq x.2.length 2) = true → Leaves P fn tmps R m .returning w
 | [], [], _, _ => ⟨V, hres, hR⟩
 | x :: l, d :: m, ⟨⟨C, h1, h2⟩, h3⟩, h => by
  simp only [List.all_cons, Bool.and_eq_true] at h
  subst h2
  obtain ⟨⟨f, hf1, hf2, hf3⟩, hcall⟩ := hn x.1 h.1.1
  have hl := h1.len
  rw [Nat.eq_of_beq_eq_true h.1.2] at hl
  obtain ⟨p, q, rfl⟩ : ∃ p q, C = [p, q] := by
   cases C with
   | nil => simp at hl
   | cons p C => cases C with
    | nil => simp at hl
    | cons q C => cases C with
     | nil => exact ⟨p, q, rfl⟩
     | cons _ _ => simp at hl
  refine leaves_cons (f := x.1) (args := #[p, q]) (by simp) ?_ ?_
  ·simp only [invoke, callFunc, Sem.run_bind]
   have hp : (program : Sem Program).run P w = .ok P w := rfl
   rw [hp]
   simp only [Result.andThen_ok, hf1, hf2, hf3, if_false, Bool.false_eq_true, Sem.run_pure]
   simp
  ·refine (hcall p q w).mono fun e u w' hh => ?_
   obtain ⟨⟨v, rfl⟩, rfl, rfl⟩ := hh
   exact leaves_noop hn hres hR h3 h.2
 | [], _ :: _, hh, _ => hh.elim
 | _ :: _, [], hh, _ => hh.elim
def TblOK (P : Program) (tbl : FuncId → Option Func) : Prop := ∀ k fn, tbl k = some fn → P.funcs[k]? = some fn ∧ (fn.name == "runtime.NumGoroutine") = false
theorem evFn_sound (hm : P.follows .mixedOrders = true) {tbl : FuncId → Option Func} (ht : TblOK P tbl) {noop : FuncId → Bool} (hn : NoopOK P noop) (rk : FuncId → Nat) (N : Nat) : ∀ d D w0, Qef P D w0 (evFn P tbl noop rk N d) := by
 intro d
 induction d with
 | zero => intro D w0 k xs nm H dead r H' dead' ρ vs w h; simp [evFn] at h
 | succ d ih =>
  intro D w0 k xs nm H dead r H' dead' ρ vs w h hR hA
  simp only [evFn] at h
  cases hrk : Nat.ble (rk k) d with
  | true => rw [hrk] at h; exact ih D w0 k xs nm H dead r H' dead' ρ vs w h hR hA
  | false =>
  rw [hrk] at h
  simp only [cond_false] at h
  split at h
  ·cases h
  ·rename_i fn hfn
   obtain ⟨hP, hnm⟩ := ht k fn hfn
   split at h
   ·cases h
   ·rename_i c hb
    refine ⟨⟨fn, hP, hnm, by simp [hb]⟩, ?_⟩
    have hl := hA.len
    have hrel : Rel D w0 ρ { tm := xs ++ List.replicate (fn.ntmps - xs.length) Qd0, H := H, dead := dead, df := [], r := 0 } { tmps := vs.toArray ++ Array.replicate (fn.ntmps - vs.toArray.size) undef, defers := [] } w := by
     refine ⟨?_, trivial, hR⟩
     show All2 _ _ (vs.toArray ++ Array.replicate (fn.ntmps - vs.toArray.size) undef).toList
     rw [Array.toList_append, Array.toList_replicate]
     have e1 : vs.toArray.size = xs.length := by simp [hl]
     rw [e1]
     exact hA.app (All2.rep (undef_R ρ) _)
    refine calls_of_wp_defers hP hb ?_
    split at h
    ·cases h
    ·cases h
    ·rename_i e s he hne
     split at h
     ·rename_i hdf
      split at h
      ·rename_i vs' hres
       split at h
       ·rename_i r' hfin
        refine evCode_sound (Q := bodyPostD P fn _) hm (framed_sound fun D w0 => ren_sound (by decide) ih) c hne hrel fun ρ' a' w' hle h' => ?_
        have key : Leaves P fn a'.tmps (fun e w' => ∃ ρ' V, ρ.le ρ' ∧ e = .returned V ∧ r.R ρ' V ∧ RH D w0 ρ' H' dead' w') a'.defers .returning w' := by
         obtain ⟨V, hr, hrun⟩ := results_sound (P := P) h' hres hfin
         refine leaves_noop hn hrun ?_ h'.df hdf
         split at h
         ·simp at h; obtain ⟨rfl, rfl, rfl⟩ := h
          exact ⟨ρ', V, hle, rfl, hr, h'.rh⟩
         ·simp at h; obtain ⟨rfl, hgc⟩ := h
          obtain ⟨ρ2, h1, h2, h3⟩ := gc_sound hR hle h'.rh hr
          rw [hgc] at h2
          exact ⟨ρ2, V, h1, rfl, h3, h2⟩
        cases e with
        | n => exact key
        | r => exact key
        | x id => exact (he id rfl).elim
       ·cases h
      ·cases h
     ·cases h
end
end Go.Proofs.YtchpkjgibloleaaGreat.V
namespace Go.Proofs.YtchpkjgibloleaaGreat.V
set_option maxRecDepth 100000
set_option maxHeartbeats 8000000
open Go Go.RowKit
noncomputable def tbl : FuncId → Option Func
 | 7 => some Tryz.f7
 | 14 => some Tryz.f14
 | 17 => some Tryz.f17
 | 18 => some Tryz.f18
 | 19 => some Tryz.f19
 | 20 => some Tryz.f20
 | 21 => some Tryz.f21
 | 31 => some Tryz.f31
 | 32 => some Tryz.f32
 | 33 => some Tryz.f33
 | 34 => some Tryz.f34
 | 35 => some Tryz.f35
 | 36 => some Tryz.f36
 | 37 => some Tryz.f37
 | 38 => some Tryz.f38
 | 39 => some Tryz.f39
 | 40 => some Tryz.f40
 | 41 => some Tryz.f41
 | 42 => some Tryz.f42
 | 43 => some Tryz.f43
 | 44 => some Tryz.f44
 | 45 => some Tryz.f45
 | 46 => some Tryz.f46
 | 47 => some Tryz.f47
 | 48 => some Tryz.f48
 | 49 => some Tryz.f49
 | 50 => some Tryz.f50
 | 51 => some Tryz.f51
 | 59 => some Tryz.f59
 | 60 => some Tryz.f60
 | 61 => some Tryz.f61
 | 62 => some Tryz.f62
 | 63 => some Tryz.f63
 | 64 => some Tryz.f64
 | 65 => some Tryz.f65
 | 66 => some Tryz.f66
 | 67 => some Tryz.f67
 | 68 => some Tryz.f68
 | 69 => some Tryz.f69
 | 70 => some Tryz.f70
 | 71 => some Tryz.f71
 | 72 => some Tryz.f72
 | 73 => some Tryz.f73
 | 74 => some Tryz.f74
 | 75 => some Tryz.f75
 | 76 => some Tryz.f76
 | 77 => some Tryz.f77
 | 79 => some Tryz.f79
 | 80 => some Tryz.f80
 | 81 => some Tryz.f81
 | 83 => some Tryz.f83
 | 84 => some Tryz.f84
 | 85 => some Tryz.f85
 | 86 => some Tryz.f86
 | 87 => some Tryz.f87
 | 88 => some Tryz.f88
 | 89 => some Tryz.f89
 | 90 => some Tryz.f90
 | 91 => some Tryz.f91
 | 92 => some Tryz.f92
 | 93 => some Tryz.f93
 | 94 => some Tryz.f94
 | 95 => some Tryz.f95
 | 96 => some Tryz.f96
 | 97 => some Tryz.f97
 | 98 => some Tryz.f98
 | 103 => some Tryz.f103
 | 104 => some Tryz.f104
 | 105 => some Tryz.f105
 | 106 => some Tryz.f106
 | 107 => some Tryz.f107
 | 108 => some Tryz.f108
 | 109 => some Tryz.f109
 | 110 => some Tryz.f110
 | 111 => some Tryz.f111
 | 112 => some Tryz.f112
 | 113 => some Tryz.f113
 | 114 => some Tryz.f114
 | 115 => some Tryz.f115
 | 116 => some Tryz.f116
 | 117 => some Tryz.f117
 | 118 => some Tryz.f118
 | 119 => some Tryz.f119
 | 120 => some Tryz.f120
 | 121 => some Tryz.f121
 | 122 => some Tryz.f122
 | 123 => some Tryz.f123
 | 124 => some Tryz.f124
 | 125 => some Tryz.f125
 | 126 => some Tryz.f126
 | 127 => some Tryz.f127
 | 130 => some Tryz.f130
 | 131 => some Tryz.f131
 | 132 => some Tryz.f132
 | 135 => some Tryz.f135
 | 136 => some Tryz.f136
 | 137 => some Tryz.f137
 | 138 => some Tryz.f138
 | 139 => some Tryz.f139
 | 141 => some Tryz.f141
 | 143 => some Tryz.f143
 | 145 => some Tryz.f145
 | 147 => some Tryz.f147
 | 148 => some Tryz.f148
 | 149 => some Tryz.f149
 | 150 => some Tryz.f150
 | 151 => some Tryz.f151
 | 152 => some Tryz.f152
 | 153 => some Tryz.f153
 | 154 => some Tryz.f154
 | 155 => some Tryz.f155
 | 156 => some Tryz.f156
 | 160 => some Tryz.f160
 | 161 => some Tryz.f161
 | 163 => some Tryz.f163
 | 164 => some Tryz.f164
 | 170 => some Tryz.f170
 | 171 => some Tryz.f171
 | 172 => some Tryz.f172
 | 173 => some Tryz.f173
 | 174 => some Tryz.f174
 | 183 => some Tryz.f183
 | 190 => some Tryz.f190
 | 191 => some Tryz.f191
 | 195 => some Tryz.f195
 | 197 => some Tryz.f197
 | _ => none
def rk : FuncId → Nat
 | 7 => 16
 | 14 => 13
 | 17 => 12
 | 18 => 11
 | 19 => 15
 | 20 => 1
 | 21 => 14
 | 31 => 9
 | 32 => 4
 | 33 => 12
 | 34 => 1
 | 35 => 3
 | 36 => 1
 | 37 => 2
 | 38 => 5
 | 39 => 1
 | 40 => 1
 | 41 => 11
 | 42 => 10
 | 43 => 9
 | 44 => 10
 | 45 => 9
 | 46 => 8
 | 47 => 7
 | 48 => 10
 | 49 => 7
 | 50 => 8
 | 51 => 3
 | 59 => 5
 | 60 => 8
 | 61 => 4
 | 62 => 3
 | 63 => 3
 | 64 => 1
 | 65 => 7
 | 66 => 11
 | 67 => 2
 | 68 => 1
 | 69 => 4
 | 70 => 1
 | 71 => 1
 | 72 => 4
 | 73 => 1
 | 74 => 4
 | 75 => 2
 | 76 => 5
 | 77 => 7
 | 79 => 8
 | 80 => 1
 | 81 => 7
 | 83 => 8
 | 84 => 1
 | 85 => 4
 | 86 => 6
 | 87 => 8
 | 88 => 8
 | 89 => 5
 | 90 => 5
 | 91 => 1
 | 92 => 1
 | 93 => 1
 | 94 => 6
 | 95 => 1
 | 96 => 7
 | 97 => 1
 | 98 => 2
 | 103 => 1
 | 104 => 4
 | 105 => 1
 | 106 => 7
 | 107 => 1
 | 108 => 3
 | 109 => 2
 | 110 => 2
 | 111 => 1
 | 112 => 2
 | 113 => 1
 | 114 => 1
 | 115 => 1
 | 116 => 6
 | 117 => 2
 | 118 => 1
 | 119 => 1
 | 120 => 10
 | 121 => 4
 | 122 => 1
 | 123 => 3
 | 124 => 1
 | 125 => 2
 | 126 => 1
 | 127 => 1
 | 130 => 5
 | 131 => 5
 | 132 => 6
 | 135 => 1
 | 136 => 2
 | 137 => 5
 | 138 => 2
 | 139 => 4
 | 141 => 5
 | 143 => 2
 | 145 => 1
 | 147 => 1
 | 148 => 3
 | 149 => 2
 | 150 => 6
 | 151 => 1
 | 152 => 1
 | 153 => 5
 | 154 => 2
 | 155 => 1
 | 156 => 1
 | 160 => 3
 | 161 => 1
 | 163 => 1
 | 164 => 3
 | 170 => 1
 | 171 => 1
 | 172 => 5
 | 173 => 4
 | 174 => 3
 | 183 => 1
 | 190 => 2
 | 191 => 2
 | 195 => 4
 | 197 => 3
 | _ => 0
def noop : FuncId → Bool
 | 36 | 119 => true
 | _ => false
theorem tbl_ok : TblOK Tryz.prog tbl := by
 intro k fn h
 unfold tbl at h
 split at h
 ·injection h with h; subst h; exact ⟨Tryz.func7, by kernel_rfl⟩
 ·injection h with h; subst h; exact ⟨Tryz.func14, by kernel_rfl⟩
 ·injection h with h; subst h; exact ⟨Tryz.func17, by kernel_rfl⟩
 ·injection h with h; subst h; exact ⟨Tryz.func18, by kernel_rfl⟩
 ·injection h with h; subst h; exact ⟨Tryz.func19, by kernel_rfl⟩
 ·injection h with h; subst h; exact ⟨Tryz.func20, by kernel_rfl⟩
 ·injection h with h; subst h; exact ⟨Tryz.func21, by kernel_rfl⟩
 ·injection h with h; subst h; exact ⟨Tryz.func31, by kernel_rfl⟩
 ·injection h with h; subst h; exact ⟨Tryz.func32, by kernel_rfl⟩
 ·injection h with h; subst h; exact ⟨Tryz.func33, by kernel_rfl⟩
 ·injection h with h; subst h; exact ⟨Tryz.func34, by kernel_rfl⟩
 ·injection h with h; subst h; exact ⟨Tryz.func35, by kernel_rfl⟩
 ·injection h with h; subst h; exact ⟨Tryz.func36, by kernel_rfl⟩
 ·injection h with h; subst h; exact ⟨Tryz.func37, by kernel_rfl⟩
 ·injection h with h; subst h; exact ⟨Tryz.func38, by kernel_rfl⟩
 ·injection h with h; subst h; exact ⟨Tryz.func39, by kernel_rfl⟩
 ·injection h with h; subst h; exact ⟨Tryz.func40, by kernel_rfl⟩
 ·injection h with h; subst h; exact ⟨Tryz.func41, by kernel_rfl⟩
 ·injection h with h; subst h; exact ⟨Tryz.func42, by kernel_rfl⟩
 ·injection h with h; subst h; exact ⟨Tryz.func43, by kernel_rfl⟩
 ·injection h with h; subst h; exact ⟨Tryz.func44, by kernel_rfl⟩
 ·injection h with h; subst h; exact ⟨Tryz.func45, by kernel_rfl⟩
 ·injection h with h; subst h; exact ⟨Tryz.func46, by kernel_rfl⟩
 ·injection h with h; subst h; exact ⟨Tryz.func47, by kernel_rfl⟩
 ·injection h with h; subst h; exact ⟨Tryz.func48, by kernel_rfl⟩
 ·injection h with h; subst h; exact ⟨Tryz.func49, by kernel_rfl⟩
 ·injection h with h; subst h; exact ⟨Tryz.func50, by kernel_rfl⟩
 ·injection h with h; subst h; exact ⟨Tryz.func51, by kernel_rfl⟩
 ·injection h with h; subst h; exact ⟨Tryz.func59, by kernel_rfl⟩
 ·injection h with h; subst h; exact ⟨Tryz.func60, by kernel_rfl⟩
 ·injection h with h; subst h; exact ⟨Tryz.func61, by kernel_rfl⟩
 ·injection h with h; subst h; exact ⟨Tryz.func62, by kernel_rfl⟩
 ·injection h with h; subst h; exact ⟨Tryz.func63, by kernel_rfl⟩
 ·injection h with h; subst h; exact ⟨Tryz.func64, by kernel_rfl⟩
 ·injection h with h; subst h; exact ⟨Tryz.func65, by kernel_rfl⟩
 ·injection h with h; subst h; exact ⟨Tryz.func66, by kernel_rfl⟩
 ·injection h with h; subst h; exact ⟨Tryz.func67, by kernel_rfl⟩
 ·injection h with h; subst h; exact ⟨Tryz.func68, by kernel_rfl⟩
 ·injection h with h; subst h; exact ⟨Tryz.func69, by kernel_rfl⟩
 ·injection h with h; subst h; exact ⟨Tryz.func70, by kernel_rfl⟩
 ·injection h with h; subst h; exact ⟨Tryz.func71, by kernel_rfl⟩
 ·injection h with h; subst h; exact ⟨Tryz.func72, by kernel_rfl⟩
 ·injection h with h; subst h; exact ⟨Tryz.func73, by kernel_rfl⟩
 ·injection h with h; subst h; exact ⟨Tryz.func74, by kernel_rfl⟩
 ·injection h with h; subst h; exact ⟨Tryz.func75, by kernel_rfl⟩
 ·injection h with h; subst h; exact ⟨Tryz.func76, by kernel_rfl⟩
 ·injection h with h; subst h; exact ⟨Tryz.func77, by kernel_rfl⟩
 ·injection h with h; subst h; exact ⟨Tryz.func79, by kernel_rfl⟩
 ·injection h with h; subst h; exact ⟨Tryz.func80, by kernel_rfl⟩
 ·injection h with h; subst h; exact ⟨Tryz.func81, by kernel_rfl⟩
 ·injection h with h; subst h; exact ⟨Tryz.func83, by kernel_rfl⟩
 ·injection h with h; subst h; exact ⟨Tryz.func84, by kernel_rfl⟩
 ·injection h with h; subst h; exact ⟨Tryz.func85, by kernel_rfl⟩
 ·injection h with h; subst h; exact ⟨Tryz.func86, by kernel_rfl⟩
 ·injection h with h; subst h; exact ⟨Tryz.func87, by kernel_rfl⟩
 ·injection h with h; subst h; exact ⟨Tryz.func88, by kernel_rfl⟩
 ·injection h with h; subst h; exact ⟨Tryz.func89, by kernel_rfl⟩
 ·injection h with h; subst h; exact ⟨Tryz.func90, by kernel_rfl⟩
 ·injection h with h; subst h; exact ⟨Tryz.func91, by kernel_rfl⟩
 ·injection h with h; subst h; exact ⟨Tryz.func92, by kernel_rfl⟩
 ·injection h with h; subst h; exact ⟨Tryz.func93, by kernel_rfl⟩
 ·injection h with h; subst h; exact ⟨Tryz.func94, by kernel_rfl⟩
 ·injection h with h; subst h; exact ⟨Tryz.func95, by kernel_rfl⟩
 ·injection h with h; subst h; exact ⟨Tryz.func96, by kernel_rfl⟩
 ·injection h with h; subst h; exact ⟨Tryz.func97, by kernel_rfl⟩
 ·injection h with h; subst h; exact ⟨Tryz.func98, by kernel_rfl⟩
 ·injection h with h; subst h; exact ⟨Tryz.func103, by kernel_rfl⟩
 ·injection h with h; subst h; exact ⟨Tryz.func104, by kernel_rfl⟩
 ·injection h with h; subst h; exact ⟨Tryz.func105, by kernel_rfl⟩
 ·injection h with h; subst h; exact ⟨Tryz.func106, by kernel_rfl⟩
 ·injection h with h; subst h; exact ⟨Tryz.func107, by kernel_rfl⟩
 ·injection h with h; subst h; exact ⟨Tryz.func108, by kernel_rfl⟩
 ·injection h with h; subst h; exact ⟨Tryz.func109, by kernel_rfl⟩
 ·injection h with h; subst h; exact ⟨Tryz.func110, by kernel_rfl⟩
 ·injection h with h; subst h; exact ⟨Tryz.func111, by kernel_rfl⟩
 ·injection h with h; subst h; exact ⟨Tryz.func112, by kernel_rfl⟩
 ·injection h with h; subst h; exact ⟨Tryz.func113, by kernel_rfl⟩
 ·injection h with h; subst h; exact ⟨Tryz.func114, by kernel_rfl⟩
 ·injection h with h; subst h; exact ⟨Tryz.func115, by kernel_rfl⟩
 ·injection h with h; subst h; exact ⟨Tryz.func116, by kernel_rfl⟩
 ·injection h with h; subst h; exact ⟨Tryz.func117, by kernel_rfl⟩
 ·injection h with h; subst h; exact ⟨Tryz.func118, by kernel_rfl⟩
 ·injection h with h; subst h; exact ⟨Tryz.func119, by kernel_rfl⟩
 ·injection h with h; subst h; exact ⟨Tryz.func120, by kernel_rfl⟩
 ·injection h with h; subst h; exact ⟨Tryz.func121, by kernel_rfl⟩
 ·injection h with h; subst h; exact ⟨Tryz.func122, by kernel_rfl⟩
 ·injection h with h; subst h; exact ⟨Tryz.func123, by kernel_rfl⟩
 ·injection h with h; subst h; exact ⟨Tryz.func124, by kernel_rfl⟩
 ·injection h with h; subst h; exact ⟨Tryz.func125, by kernel_rfl⟩
 ·injection h with h; subst h; exact ⟨Tryz.func126, by kernel_rfl⟩
 ·injection h with h; subst h; exact ⟨Tryz.func127, by kernel_rfl⟩
 ·injection h with h; subst h; exact ⟨Tryz.func130, by kernel_rfl⟩
 ·injection h with h; subst h; exact ⟨Tryz.func131, by kernel_rfl⟩
 ·injection h with h; subst h; exact ⟨Tryz.func132, by kernel_rfl⟩
 ·injection h with h; subst h; exact ⟨Tryz.func135, by kernel_rfl⟩
 ·injection h with h; subst h; exact ⟨Tryz.func136, by kernel_rfl⟩
 ·injection h with h; subst h; exact ⟨Tryz.func137, by kernel_rfl⟩
 ·injection h with h; subst h; exact ⟨Tryz.func138, by kernel_rfl⟩
 ·injection h with h; subst h; exact ⟨Tryz.func139, by kernel_rfl⟩
 ·injection h with h; subst h; exact ⟨Tryz.func141, by kernel_rfl⟩
 ·injection h with h; subst h; exact ⟨Tryz.func143, by kernel_rfl⟩
 ·injection h with h; subst h; exact ⟨Tryz.func145, by kernel_rfl⟩
 ·injection h with h; subst h; exact ⟨Tryz.func147, by kernel_rfl⟩
 ·injection h with h; subst h; exact ⟨Tryz.func148, by kernel_rfl⟩
 ·injection h with h; subst h; exact ⟨Tryz.func149, by kernel_rfl⟩
 ·injection h with h; subst h; exact ⟨Tryz.func150, by kernel_rfl⟩
 ·injection h with h; subst h; exact ⟨Tryz.func151, by kernel_rfl⟩
 ·injection h with h; subst h; exact ⟨Tryz.func152, by kernel_rfl⟩
 ·injection h with h; subst h; exact ⟨Tryz.func153, by kernel_rfl⟩
 ·injection h with h; subst h; exact ⟨Tryz.func154, by kernel_rfl⟩
 ·injection h with h; subst h; exact ⟨Tryz.func155, by kernel_rfl⟩
 ·injection h with h; subst h; exact ⟨Tryz.func156, by kernel_rfl⟩
 ·injection h with h; subst h; exact ⟨Tryz.func160, by kernel_rfl⟩
 ·injection h with h; subst h; exact ⟨Tryz.func161, by kernel_rfl⟩
 ·injection h with h; subst h; exact ⟨Tryz.func163, by kernel_rfl⟩
 ·injection h with h; subst h; exact ⟨Tryz.func164, by kernel_rfl⟩
 ·injection h with h; subst h; exact ⟨Tryz.func170, by kernel_rfl⟩
 ·injection h with h; subst h; exact ⟨Tryz.func171, by kernel_rfl⟩
 ·injection h with h; subst h; exact ⟨Tryz.func172, by kernel_rfl⟩
 ·injection h with h; subst h; exact ⟨Tryz.func173, by kernel_rfl⟩
 ·injection h with h; subst h; exact ⟨Tryz.func174, by kernel_rfl⟩
 ·injection h with h; subst h; exact ⟨Tryz.func183, by kernel_rfl⟩
 ·injection h with h; subst h; exact ⟨Tryz.func190, by kernel_rfl⟩
 ·injection h with h; subst h; exact ⟨Tryz.func191, by kernel_rfl⟩
 ·injection h with h; subst h; exact ⟨Tryz.func195, by kernel_rfl⟩
 ·injection h with h; subst h; exact ⟨Tryz.func197, by kernel_rfl⟩
 ·cases h
theorem noop_ok : NoopOK Tryz.prog noop := by
 intro f hf
 have hu20 := Tryz.underlying20
 unfold noop at hf
 split at hf
 ·refine ⟨⟨Tryz.f36, Tryz.func36, by kernel_rfl, by kernel_rfl⟩, fun p q w => ?_⟩
  refine callsD_of_wpS Tryz.func36 rfl fun c₀ cs hu => ?_
  apply wpS_seq
  apply wpS_region
  simp [wpOpsS, go_sem, recoverD, hu, Tryz.ntmps36, Exit.thenS]
  apply wpS_seq
  apply wpS_region
  simp [wpOpsS, go_sem, Exit.thenS]
  refine wpS_cond (t := false) (by simp [Act.eval, Array.replicate]) ?_
  simp only [Bool.false_eq_true, if_false]
  refine wpS_of_wp (wp_skip ?_)
  cases c₀
  simp_all [bodyPostS, results, Tryz.results36, Exit.thenS]
 ·refine ⟨⟨Tryz.f119, Tryz.func119, by kernel_rfl, by kernel_rfl⟩, fun p q w => ?_⟩
  refine callsD_of_wpS Tryz.func119 rfl fun c₀ cs hu => ?_
  apply wpS_seq
  apply wpS_region
  simp [wpOpsS, go_sem, recoverD, hu, Tryz.ntmps119, Exit.thenS]
  apply wpS_seq
  apply wpS_region
  simp [wpOpsS, go_sem, Exit.thenS]
  refine wpS_cond (t := false) (by simp [Act.eval, Array.replicate]) ?_
  simp only [Bool.false_eq_true, if_false]
  refine wpS_of_wp (wp_skip ?_)
  cases c₀
  simp_all [bodyPostS, results, Tryz.results119, Exit.thenS]
 ·cases hf
noncomputable def isYes (x : Option Mem) : Bool :=
 match x with
 | some (.c (.c (.b true)), _, _) => true
 | _ => false
theorem awake_reckoned : isYes (evFn Tryz.prog tbl noop rk 100 40 7 [] 1 [] []) = true := by kernel_rfl
theorem awake_calls (w : World) : Calls Tryz.prog 7 #[] w fun e w' => e = .returned (.bool true) ∧ Below w.heap.size w w' := by
 have h := awake_reckoned
 unfold isYes at h
 split at h
 ·rename_i H d he
  have hc := evFn_sound (P := Tryz.prog) (by kernel_rfl) tbl_ok noop_ok rk 100 40 (fun _ => False) w
  have hR : RH (fun _ => False) w (fun _ => none) [] [] w :=
   ⟨fun n e h => by simp [Qdz] at h, fun n m e e' g z z' h => by simp [Qdz] at h, fun n x h => (by cases h), ⟨rfl, rfl, rfl, Nat.le_refl _, fun _ _ _ => rfl⟩⟩
  refine Calls.mono (hc 7 [] 1 [] [] _ _ _ _ [] w he hR trivial).2 fun e w' hh => ?_
  obtain ⟨ρ', V, _, rfl, hV, hR'⟩ := hh
  have hV : V = .bool true := hV
  subst hV
  exact ⟨rfl, hR'.out.os, hR'.out.tape, hR'.out.output, hR'.out.size, fun k hk => hR'.out.block k hk (fun h => h)⟩
 ·cases h
end Go.Proofs.YtchpkjgibloleaaGreat.V
namespace Go.Proofs.YtchpkjgibloleaaGreat.Z
set_option maxRecDepth 100000
set_option maxHeartbeats 8000000
open Go.RowKit Go.Proofs.YtchpkjgibloleaaGreatW.PrintWords Go.Proofs.YtchpkjgibloleaaGreatW.PrintLast Go.Proofs.YtchpkjgibloleaaGreatW.PrintMore
attribute [local go_sem] Qbt Qb0
def regcerttop_awake.f (k : Nat) : Option Bool := some true
theorem regcerttop_awake.calls (k : Nat) (r : Bool) (w : World) (h : regcerttop_awake.f k = some r) : Calls Tryz.prog 7 #[] w fun e w' => e = .returned (.bool r) ∧ Below w.heap.size w w' := by
 obtain rfl := Option.some.inj h
 exact V.awake_calls w
attribute [local go_sem high] eqA47
def regcertref11_Less.f (a0_0 a0_1 a1_0 a1_1 : Int) : Option (Bool) := if a0_0 = a1_0 then (some (decide (a0_1 < a1_1))) else (some (decide (a0_0 < a1_0)))
theorem regcertref11_Less.calls (a0_0 a0_1 a1_0 a1_1 : Int) (r : Bool) (w : World) (h : regcertref11_Less.f a0_0 a0_1 a1_0 a1_1 = some r) :
 Calls Tryz.prog 58 #[.agg #[.int .i64 a0_0, .int .i64 a0_1], .agg #[.int .i64 a1_0, .int .i64 a1_1]] w fun e w' => e = .returned (.bool r) ∧ Below w.heap.size w w' := by
 refine less_calls a0_0 a0_1 a1_0 a1_1 r _ rfl ?_ w
 unfold regcertref11_Less.f at h
 by_cases c : a0_0 = a1_0
 rotate_left
 ·rw [if_neg c] at h; rw [bne_iff_ne.2 c]; exact Option.some.inj h
 rw [if_pos c] at h; rw [bne_eq_false_iff_eq.2 c]; exact Option.some.inj h
mutual
def Qad.l0 : Nat → List (S47) → List (S47) → Bool → Int → Int → Int → Option ((List (S47)))
 | 0, _, _, _, _, _, _ => none
 | k + 1, x0, x5, x6, x7, dZ, dY => if x7 < (x0.length : Int) then (if x6 = true then (Qad.j1 k x0 x5 x6 x7 false dZ dY) else (if 0 ≤ x7 then ((regcertref11_Less.f ((Qaa x0 x7).f0) ((Qaa x0 x7).f1) dZ dY).bind fun t594 => (Qad.j1 k x0 x5 x6 x7 (!t594) dZ dY)) else (none))) else (if x6 = true then (some x5) else (if x5.length < 8796093022208 then (some (x5 ++ [(⟨dZ, dY⟩ : S47)])) else (none)))
def Qad.j1 : Nat → List (S47) → List (S47) → Bool → Int → Bool → Int → Int → Option ((List (S47)))
 | 0, _, _, _, _, _, _, _ => none
 | k + 1, x0, x5, x6, x7, x24, dZ, dY => if x24 = true then (if x5.length < 8796093022208 then (Qad.j2 k x0 (x5 ++ [(⟨dZ, dY⟩ : S47)]) true x7 dZ dY) else (none)) else (Qad.j2 k x0 x5 x6 x7 dZ dY)
def Qad.j2 : Nat → List (S47) → List (S47) → Bool → Int → Int → Int → Option ((List (S47)))
 | 0, _, _, _, _, _, _ => none
 | k + 1, x0, x5, x6, x7, dZ, dY => if 0 ≤ x7 then (if x7 < (x0.length : Int) then (if (!(((Qaa x0 x7).f0) == dZ) || (!(((Qaa x0 x7).f1) == dY))) = true then (if x5.length < 8796093022208 then (Qad.l0 k x0 (x5 ++ [(⟨(Qaa x0 x7).f0, (Qaa x0 x7).f1⟩ : S47)]) x6 (wrap64 (x7 + 1)) dZ dY) else (none)) else (Qad.l0 k x0 x5 x6 (wrap64 (x7 + 1)) dZ dY)) else (none)) else (none)
end
def Qad.f (k : Nat) (l0 : List (S47)) (a1_0 a1_1 : Int) : Option ((List (S47))) := Qad.l0 k l0 ([] : List (S47)) false 0 a1_0 a1_1
def Qad.T6 : Bool × List (List Nat × List Nat) := (true, [([], []), ([0], [0]), ([1], [1]), ([2], [2]), ([2], [2]), ([3, 4, 2], [2, 3, 4]), ([5, 2], [2, 5]), ([2], [2]), ([6, 7, 2, 2], [2, 6, 7]), ([8, 2], [2, 8]), ([2, 9], [2, 9])])
def Qad.B6 : List Nat := [0, 1, 3, 7, 7, 31, 63, 7, 255, 511, 1023]
theorem Qad.tab6 : rtab .any (opsOf Tryz.f30 6) = Qad.T6 := by kernel_rfl
theorem Qad.bits6 : Qco Qad.T6.2 Qad.B6 = true := by kernel_rfl
theorem Qad.calls (k : Nat) (A0 : Option Addr) (c0 : Nat) (l0 : List (S47)) (a1_0 a1_1 : Int) (r : List (S47)) (w : World) (hr0 : Kd.C k47 w A0 l0.length l0) (hc0 : l0.length ≤ c0) (h : Qad.f k l0 a1_0 a1_1 = some r) :
 Calls Tryz.prog 30 #[.slice A0 l0.length c0, .agg #[.int .i64 a1_0, .int .i64 a1_1]] w fun e w' => ∃ v0_ : Value, e = .returned (v0_) ∧ Kd.R k47 47 w' w.heap.size (fun _ => True) v0_ r ∧ Below w.heap.size w w' := by
 have hu47 := Tryz.underlying47
 have R0 := As0 hr0
 have C0 := As0 hc0
 clear hr0 hc0
 have HB := As0 (Below.refl w.heap.size w)
 have H : (Qad.l0 k l0 ([] : List (S47)) false 0 a1_0 a1_1) = some r := h
 clear h
 have H' := As0 H
 clear H
 go_enter Tryz.func30, Tryz.ntmps30
 go_wp2_with (first | ((with_reducible refine gD 3 ?_); refine bY HB.out ?_; intro fJ w3 hg hb dC GW592 HB; clear hb hg))
 go_loopg [5, 6, 7] k (fun kq v5 v6 v7 w' => ∃ (dB : List (S47)) (eF : Bool) (aZ : Int), v6 = .bool eF ∧ v7 = .int .i64 aZ ∧ Qbf (Qad.l0 kq l0 dB eF aZ a1_0 a1_1 = some r) ∧ Qbf (kq ≤ k) ∧ Qbf (Kd.R k47 47 w' w.heap.size (fun k_ => k_ ≠ fJ) v5 dB) ∧ Qbf (w'.heap[fJ]? = some (.cells #[.int .i64 a1_0, .int .i64 a1_1] 47 (0, 0))) ∧ Qbf (Below w.heap.size w w'))
 case atStart => exact ⟨(([] : List (S47))), (false), (0), eR, eR, H', ⟨Nat.le_refl _⟩, ⟨by first | exact Kd.R_nil _ _ _ _ _ | exact Kd.N_nil _ _ _ _ _ | exact Kd.V_nil _ _ _ _ _ | exact Kd.Q_nil _ _ _ _ _ | exact Kd.S_nil _ _ _ _ _⟩, ⟨bU dC.out⟩, ⟨BU HB.out⟩⟩
 case round =>
  clear H'
  obtain ⟨dB, eF, aZ, rfl, rfl, HA, HK1, cE, dC, HB⟩ := hrel
  cases gk with
  | zero => exact absurd HA.out (by simp [Qad.l0])
  | succ k1 =>
   have H := HA.out
   clear HA
   simp only [Qad.l0] at H
   by_cases c4 : aZ < (l0.length : Int)
   rotate_left
   ·rw [if_neg c4] at H
    have c4b0 := decide_eq_false c4
    clear c4
    by_cases c24 : eF = true
    ·subst c24
     rw [if_pos rfl] at H
     obtain rfl := Option.some.inj H
     go_wp2
     go_ret
     exact ⟨_, by first | rfl | (simp [Qa9, Qa8] <;> rfl) | (simp [*, Qa9, Qa8] <;> rfl), RU (Kd.R_mono cE.out (fun _ hk => trivial)), BU HB.out⟩
    replace c24 := Bool.eq_false_iff.mpr c24
    subst c24
    rw [if_neg bF] at H
    by_cases c25 : dB.length < 8796093022208
    rotate_left
    ·rw [if_neg c25] at H
     exact absurd H (by simp)
    rw [if_pos c25] at H
    have LMc25 := As0 c25
    clear c25
    obtain ⟨y603, hy603⟩ : ∃ y_ : List (S47), y_ = (dB ++ [(⟨a1_0, a1_1⟩ : S47)]) := ⟨_, rfl⟩
    replace H : (some y603) = some r := by first | (rw [hy603]; exact H) | exact H
    have Ny603 := As0 hy603
    clear hy603
    obtain rfl := Option.some.inj H
    have q26_ := cN2 dC.out
    go_wp2_with (first | ((with_reducible refine Qb6 (b := .append) (xs := #[.tmp 44, .tmp 46]) rfl ?_); at_builtin; refine Kd.R_append k47 (w0 := w) w.heap.size rfl (.tmp 44) (.tmp 46) 44 47 (.agg #[(.int .i64 0), (.int .i64 0)]) 16 rfl Tryz.underlying44 Qcq rfl (by decide) (by omega) u5 dB (⟨a1_0, a1_1⟩ : S47) [.int .i64 a1_0, .int .i64 a1_1] (fun k_ => k_ ≠ fJ) (fun _ => False) rfl rfl ?aP (fun _ hk => hk.elim) ?aF ?aO ?aB ?aS ?aL ?_; (case aP => exact Qc8 _ _ _ (⟨a1_0, a1_1⟩ : S47)); (case aB => exact (BU HB.out)); (case aF => exact (fun k_ hk => Kd.freshB (bU dC.out) k_ hk)); (case aO => exact (RU cE.out)); (case aS => exact (Qbi (BU HB.out))); (case aL => have := LMc25.out; omega); intro v604 w27 ho hb hg hat; rw [← Ny603.out] at ho; replace dC := As0 (Qbu (bU dC.out) hg (Kd.R_away cE.out (fun _ hk => hk))); replace HB := As0 (hb); have O605 := As0 (ho); clear cE ho hb hg hat))
    go_ret
    exact ⟨_, by first | rfl | (simp [Qa9, Qa8] <;> rfl) | (simp [*, Qa9, Qa8] <;> rfl), RU (Kd.R_mono O605.out (fun _ hk => trivial)), BU HB.out⟩
   rw [if_pos c4] at H
   have c4b0 := decide_eq_true c4
   clear c4
   have C5 := As0 H
   clear H
   go_upto_region 6 with (fail)
   go_cut [24] (fun v24 wc => ∃ (kq : Nat) (x24_4 : Bool), v24 = .bool x24_4 ∧ Qbf (Qad.j1 kq l0 dB eF aZ x24_4 a1_0 a1_1 = some r) ∧ Qbf (kq ≤ k1) ∧ Qbf (Kd.R k47 47 wc w.heap.size (fun k_ => k_ ≠ fJ) u5 dB) ∧ Qbf (wc.heap[fJ]? = some (.cells #[.int .i64 a1_0, .int .i64 a1_1] 47 (0, 0))) ∧ Qbf (Below w.heap.size w wc))
   case first =>
    have H := C5.out
    clear C5
    by_cases c6 : eF = true
    ·subst c6
     rw [if_pos rfl] at H
     have H' := As0 H
     clear H
     try go_wp2
     replace cE := As0 (Kd.R_drew cE.out)
     replace dC := As0 (Qbm dC.out)
     replace HB := As0 (bd1 HB.out)
     refine Qb1 (n := 11) (S := fun w' => True) (ds := []) (bb 11 0) (by kernel_rfl) rfl rfl trivial (fun aA => ?_); refine Qb8 Qad.tab6 Qad.bits6 (fun HT_ HW_ => ?_)
     generalize wr.drew = w7 at cE dC HB aA ⊢
     refine pv HT_.out 0 14 (bb 11 1) ?_
     refine pv HT_.out 1 15 (bb 11 3) ?_
     refine pv HT_.out 2 16 (bb 11 7) ?_
     refine py HT_.out 3 17 (bb 11 15) ?_
     refine py HT_.out 4 18 (bb 11 31) ?_
     refine py HT_.out 5 19 (bb 11 63) ?_
     refine py HT_.out 6 20 (bb 11 127) ?_
     refine py HT_.out 7 21 (bb 11 255) ?_
     refine py HT_.out 8 22 (bb 11 511) ?_
     refine py HT_.out 9 23 (bb 11 1023) ?_
     refine pv HT_.out 10 24 (bb 11 2047) ?_
     refine Qch (Qcm HT_.out (by kernel_rfl)) ?_
     try go_wp2
     go_meet
     case rel => exact ⟨_, (false), eR, H', ⟨by have := HK1.out; first | omega | exact Nat.le_refl _⟩, ⟨RU cE.out⟩, ⟨bU dC.out⟩, ⟨BU HB.out⟩⟩
    replace c6 := Bool.eq_false_iff.mpr c6
    subst c6
    rw [if_neg bF] at H
    by_cases c8 : 0 ≤ aZ
    rotate_left
    ·rw [if_neg c8] at H
     exact absurd H (by simp)
    rw [if_pos c8] at H
    have c8b0 := decide_eq_true c8
    clear c8
    (first | rw [c8b0] | (simp only [Qbo, Qbp]; rw [c8b0]) | skip)
    replace H := Option.bind_eq_some_iff.mp H
    obtain ⟨t594, A90, H⟩ := H
    have A9 := As0 A90
    clear A90
    have H' := As0 H
    clear H
    try go_wp2
    replace cE := As0 (Kd.R_drew cE.out)
    replace dC := As0 (Qbm dC.out)
    replace HB := As0 (bd1 HB.out)
    have p593 : 0 ≤ (aZ : Int) := qR
    have q593 : aZ < (l0.length : Int) := qR
    obtain ⟨ad593, e593, hx593_0, hx593_1⟩ := Qcc R0.out aZ p593 q593
    have hw593_1 := hx593_1
    have hw593_0 := hx593_0
    cases e593
    replace hx593_0 := cl HB hx593_0
    replace hx593_1 := cl HB hx593_1
    replace p593 := eq_true p593
    replace q593 := eq_true q593
    refine Qb1 (n := 11) (S := fun w' => w'.cell? ⟨fJ, 0, none⟩ = some (.int .i64 a1_0) ∧ w'.cell? ⟨fJ, 1, none⟩ = some (.int .i64 a1_1) ∧ w'.cell? (ad593.add ((aZ).toNat * 2)) = some (.int .i64 ((Qaa l0 aZ).f0)) ∧ w'.cell? ⟨(ad593.add ((aZ).toNat * 2)).block, (ad593.add ((aZ).toNat * 2)).off + 1, none⟩ = some (.int .i64 ((Qaa l0 aZ).f1))) (ds := []) (bb 11 0) (by kernel_rfl) rfl rfl ⟨bc dC 0, bc dC 1, (cl HB hw593_0), (cl HB hw593_1)⟩ (fun aA => ?_); refine Qb8 Qad.tab6 Qad.bits6 (fun HT_ HW_ => ?_)
    generalize wr.drew = w10 at cE dC HB hx593_0 hx593_1 aA ⊢
    refine pv HT_.out 0 14 (bb 11 1) ?_
    refine pv HT_.out 1 15 (bb 11 3) ?_
    refine pv HT_.out 2 16 (bb 11 7) ?_
    refine pv HT_.out 3 17 (bb 11 15) ?_
    refine pv HT_.out 4 18 (bb 11 31) ?_
    refine pv HT_.out 5 19 (bb 11 63) ?_
    refine tv aA HT_.out HW_.out 6 20 (bb 11 127) ?_
    refine tv aA HT_.out HW_.out 7 21 (bb 11 255) ?_
    refine one_ (i := 8) (N := some 22) (bb 11 511) rfl rfl (Qcf HT_.out (by kernel_rfl)) (by decide) (fun K hK => ?_)
    refine gG Tryz.func58 #[.agg #[.int .i64 ((Qaa l0 aZ).f0), .int .i64 ((Qaa l0 aZ).f1)], .agg #[.int .i64 a1_0, .int .i64 a1_1]] ?_
    with_reducible refine (regcertref11_Less.calls ((Qaa l0 aZ).f0) ((Qaa l0 aZ).f1) a1_0 a1_1 t594 _ A9.out).mono ?_
    rintro e w11 ⟨rfl, hb⟩
    refine ⟨_, rfl, ?_⟩
    replace cE := As0 (Kd.R_below (RU cE.out) hb)
    replace dC := kB dC hb
    replace HB := sB HB hb
    (try clear hb)
    (try clear hb2)
    (try clear hk)
    (try clear hi)
    refine hK.out _ _ ⟨bc dC 0, bc dC 1, (cl HB hw593_0), (cl HB hw593_1)⟩ (fun aA => ?_)
    clear hK K
    refine Qbz (a' := ?_) ?_ ?_
    rotate_left
    ·show Act.put _ (some 22) _ = _
     simp only [Act.put, sL1, sL2, sL3, Qbo, Qbp]
     rfl
    refine pv HT_.out 9 23 (bb 11 1023) ?_
    refine pv HT_.out 10 24 (bb 11 2047) ?_
    refine Qch (Qcm HT_.out (by kernel_rfl)) ?_
    try go_wp2
    go_meet
    case rel => exact ⟨_, (!t594), eR, H', ⟨by have := HK1.out; first | omega | exact Nat.le_refl _⟩, ⟨RU cE.out⟩, ⟨bU dC.out⟩, ⟨BU HB.out⟩⟩
   case rest =>
    clear C5
    obtain ⟨kq, x24_4, rfl, HA, HJ4, cE, dC, HB⟩ := hcut
    cases kq with
    | zero => exact absurd HA.out (by simp [Qad.j1])
    | succ kj4 =>
     have H := HA.out
     clear HA
     simp only [Qad.j1] at H
     have C12 := As0 H
     clear H
     go_upto_if 24 with (fail)
     go_cut [5, 6] (fun v5 v6 wc => ∃ (kq : Nat) (fX : List (S47)) (x6_11 : Bool), v6 = .bool x6_11 ∧ Qbf (Qad.j2 kq l0 fX x6_11 aZ a1_0 a1_1 = some r) ∧ Qbf (kq ≤ kj4) ∧ Qbf (Kd.R k47 47 wc w.heap.size (fun k_ => k_ ≠ fJ) v5 fX) ∧ Qbf (wc.heap[fJ]? = some (.cells #[.int .i64 a1_0, .int .i64 a1_1] 47 (0, 0))) ∧ Qbf (Below w.heap.size w wc))
     case first =>
      have H := C12.out
      clear C12
      by_cases c13 : x24_4 = true
      rotate_left
      ·replace c13 := Bool.eq_false_iff.mpr c13
       subst c13
       rw [if_neg bF] at H
       have H' := As0 H
       clear H
       go_wp2
       go_meet
       case rel => exact ⟨_, (dB), (eF), eR, H', ⟨by have := HK1.out; have := HJ4.out; first | omega | exact Nat.le_refl _⟩, ⟨RU cE.out⟩, ⟨bU dC.out⟩, ⟨BU HB.out⟩⟩
      subst c13
      rw [if_pos rfl] at H
      by_cases c14 : dB.length < 8796093022208
      rotate_left
      ·rw [if_neg c14] at H
       exact absurd H (by simp)
      rw [if_pos c14] at H
      have LMc14 := As0 c14
      clear c14
      obtain ⟨y595, hy595⟩ : ∃ y_ : List (S47), y_ = (dB ++ [(⟨a1_0, a1_1⟩ : S47)]) := ⟨_, rfl⟩
      replace H : (Qad.j2 kj4 l0 y595 true aZ a1_0 a1_1) = some r := by first | (rw [hy595]; exact H) | exact H
      have Ny595 := As0 hy595
      clear hy595
      have H' := As0 H
      clear H
      have q15_ := cN2 dC.out
      go_wp2_with (first | ((with_reducible refine Qb6 (b := .append) (xs := #[.tmp 25, .tmp 27]) rfl ?_); at_builtin; refine Kd.R_append k47 (w0 := w) w.heap.size rfl (.tmp 25) (.tmp 27) 44 47 (.agg #[(.int .i64 0), (.int .i64 0)]) 16 rfl Tryz.underlying44 Qcq rfl (by decide) (by omega) u5 dB (⟨a1_0, a1_1⟩ : S47) [.int .i64 a1_0, .int .i64 a1_1] (fun k_ => k_ ≠ fJ) (fun _ => False) rfl rfl ?aP (fun _ hk => hk.elim) ?aF ?aO ?aB ?aS ?aL ?_; (case aP => exact Qc8 _ _ _ (⟨a1_0, a1_1⟩ : S47)); (case aB => exact (BU HB.out)); (case aF => exact (fun k_ hk => Kd.freshB (bU dC.out) k_ hk)); (case aO => exact (RU cE.out)); (case aS => exact (Qbi (BU HB.out))); (case aL => have := LMc14.out; omega); intro v596 w16 ho hb hg hat; rw [← Ny595.out] at ho; replace dC := As0 (Qbu (bU dC.out) hg (Kd.R_away cE.out (fun _ hk => hk))); replace HB := As0 (hb); have O597 := As0 (ho); clear cE ho hb hg hat))
      go_meet
      case rel => exact ⟨_, (y595), (true), eR, H', ⟨by have := HK1.out; have := HJ4.out; first | omega | exact Nat.le_refl _⟩, ⟨RU O597.out⟩, ⟨bU dC.out⟩, ⟨BU HB.out⟩⟩
     case rest =>
      clear C12
      obtain ⟨kq, fX, x6_11, rfl, HA, HJ11, cE, dC, HB⟩ := hcut
      cases kq with
      | zero => exact absurd HA.out (by simp [Qad.j2])
      | succ kj11 =>
       have H := HA.out
       clear HA
       simp only [Qad.j2] at H
       by_cases c17 : 0 ≤ aZ
       rotate_left
       ·rw [if_neg c17] at H
        exact absurd H (by simp)
       rw [if_pos c17] at H
       have c17b0 := decide_eq_true c17
       clear c17
       by_cases c18 : aZ < (l0.length : Int)
       rotate_left
       ·rw [if_neg c18] at H
        exact absurd H (by simp)
       rw [if_pos c18] at H
       have c18b0 := decide_eq_true c18
       clear c18
       by_cases c19 : (!(((Qaa l0 aZ).f0) == a1_0) || (!(((Qaa l0 aZ).f1) == a1_1))) = true
       rotate_left
       ·rw [if_neg c19] at H
        have c19b0 : (!(((Qaa l0 aZ).f0) == a1_0) || (!(((Qaa l0 aZ).f1) == a1_1))) = false := by simpa using c19
        clear c19
        have H' := As0 H
        clear H
        try go_wp2
        replace cE := As0 (Kd.R_drew cE.out)
        replace dC := As0 (Qbm dC.out)
        replace HB := As0 (bd1 HB.out)
        have p598 : 0 ≤ (aZ : Int) := qR
        have q598 : aZ < (l0.length : Int) := qR
        obtain ⟨ad598, e598, fE, fD⟩ := Qcc R0.out aZ p598 q598
        have hw598_1 := fD
        have hw598_0 := fE
        cases e598
        replace fE := cl HB fE
        replace fD := cl HB fD
        replace p598 := eq_true p598
        replace q598 := eq_true q598
        refine Qb1 (n := 6) (S := fun w' => w'.cell? ⟨fJ, 0, none⟩ = some (.int .i64 a1_0) ∧ w'.cell? ⟨fJ, 1, none⟩ = some (.int .i64 a1_1) ∧ w'.cell? (ad598.add ((aZ).toNat * 2)) = some (.int .i64 ((Qaa l0 aZ).f0)) ∧ w'.cell? ⟨(ad598.add ((aZ).toNat * 2)).block, (ad598.add ((aZ).toNat * 2)).off + 1, none⟩ = some (.int .i64 ((Qaa l0 aZ).f1))) (ds := []) (bb 6 0) (by kernel_rfl) rfl rfl ⟨bc dC 0, bc dC 1, (cl HB hw598_0), (cl HB hw598_1)⟩ (fun aA => ?_)
        generalize wc.drew = w23 at cE dC HB fE fD aA ⊢
        refine pu 0 29 (bb 6 1) ?_
        refine pu 1 30 (bb 6 3) ?_
        refine pu 2 31 (bb 6 7) ?_
        refine tu aA 3 32 (bb 6 15) ?_
        refine tu aA 4 33 (bb 6 31) ?_
        refine pu 5 34 (bb 6 63) ?_
        refine Qch (by kernel_rfl) ?_
        try go_wp2
        go_roundg kj11
        case measure => have := HK1.out; have := HJ4.out; have := HJ11.out; omega
        case rel => exact ⟨(fX), (x6_11), (wrap64 (aZ + 1)), eR, eR, H', ⟨by have := HK1.out; have := HJ4.out; have := HJ11.out; omega⟩, ⟨RU cE.out⟩, ⟨bU dC.out⟩, ⟨BU HB.out⟩⟩
       rw [if_pos c19] at H
       have c19b0 : (!(((Qaa l0 aZ).f0) == a1_0) || (!(((Qaa l0 aZ).f1) == a1_1))) = true := c19
       clear c19
       by_cases c20 : fX.length < 8796093022208
       rotate_left
       ·rw [if_neg c20] at H
        exact absurd H (by simp)
       rw [if_pos c20] at H
       have LMc20 := As0 c20
       clear c20
       obtain ⟨y600, hy600⟩ : ∃ y_ : List (S47), y_ = (fX ++ [(⟨(Qaa l0 aZ).f0, (Qaa l0 aZ).f1⟩ : S47)]) := ⟨_, rfl⟩
       replace H : (Qad.l0 kj11 l0 y600 x6_11 (wrap64 (aZ + 1)) a1_0 a1_1) = some r := by first | (rw [hy600]; exact H) | exact H
       have Ny600 := As0 hy600
       clear hy600
       have H' := As0 H
       clear H
       try go_wp2
       replace cE := As0 (Kd.R_drew cE.out)
       replace dC := As0 (Qbm dC.out)
       replace HB := As0 (bd1 HB.out)
       have p598 : 0 ≤ (aZ : Int) := qR
       have q598 : aZ < (l0.length : Int) := qR
       obtain ⟨ad598, e598, fE, fD⟩ := Qcc R0.out aZ p598 q598
       have hw598_1 := fD
       have hw598_0 := fE
       cases e598
       replace fE := cl HB fE
       replace fD := cl HB fD
       replace p598 := eq_true p598
       replace q598 := eq_true q598
       refine Qb1 (n := 6) (S := fun w' => w'.cell? ⟨fJ, 0, none⟩ = some (.int .i64 a1_0) ∧ w'.cell? ⟨fJ, 1, none⟩ = some (.int .i64 a1_1) ∧ w'.cell? (ad598.add ((aZ).toNat * 2)) = some (.int .i64 ((Qaa l0 aZ).f0)) ∧ w'.cell? ⟨(ad598.add ((aZ).toNat * 2)).block, (ad598.add ((aZ).toNat * 2)).off + 1, none⟩ = some (.int .i64 ((Qaa l0 aZ).f1))) (ds := []) (bb 6 0) (by kernel_rfl) rfl rfl ⟨bc dC 0, bc dC 1, (cl HB hw598_0), (cl HB hw598_1)⟩ (fun aA => ?_)
       generalize wc.drew = w21 at cE dC HB fE fD aA ⊢
       refine pu 0 29 (bb 6 1) ?_
       refine pu 1 30 (bb 6 3) ?_
       refine pu 2 31 (bb 6 7) ?_
       refine tu aA 3 32 (bb 6 15) ?_
       refine tu aA 4 33 (bb 6 31) ?_
       refine pu 5 34 (bb 6 63) ?_
       refine Qch (by kernel_rfl) ?_
       have p599 : 0 ≤ (aZ : Int) := qR
       have q599 : aZ < (l0.length : Int) := qR
       obtain ⟨ad599, e599, hx599_0, hx599_1⟩ := Qcc R0.out aZ p599 q599
       obtain rfl : ad598 = ad599 := (by injection e599)
       replace hx599_0 := cl HB hx599_0
       replace hx599_1 := cl HB hx599_1
       replace p599 := eq_true p599
       replace q599 := eq_true q599
       try go_wp2_with (first | ((with_reducible refine Qb6 (b := .append) (xs := #[.tmp 35, .tmp 40]) rfl ?_); at_builtin; refine Kd.R_append k47 (w0 := w) w.heap.size rfl (.tmp 35) (.tmp 40) 44 47 (.agg #[(.int .i64 0), (.int .i64 0)]) 16 rfl Tryz.underlying44 Qcq rfl (by decide) (by omega) u5 fX (⟨(Qaa l0 aZ).f0, (Qaa l0 aZ).f1⟩ : S47) [.int .i64 ((Qaa l0 aZ).f0), .int .i64 ((Qaa l0 aZ).f1)] (fun k_ => k_ ≠ fJ) (fun _ => False) rfl rfl ?aP (fun _ hk => hk.elim) ?aF ?aO ?aB ?aS ?aL ?_; (case aP => exact Qc8 _ _ _ (⟨(Qaa l0 aZ).f0, (Qaa l0 aZ).f1⟩ : S47)); (case aB => exact (BU HB.out)); (case aF => exact (fun k_ hk => Kd.freshB (bU dC.out) k_ hk)); (case aO => exact (RU cE.out)); (case aS => exact (Qbi (BU HB.out))); (case aL => have := LMc20.out; omega); intro v601 w22 ho hb hg hat; rw [← Ny600.out] at ho; replace dC := As0 (Qbu (bU dC.out) hg (Kd.R_away cE.out (fun _ hk => hk))); replace HB := As0 (hb); have O602 := As0 (ho); clear cE ho hb hg hat))
       go_roundg kj11
       case measure => have := HK1.out; have := HJ4.out; have := HJ11.out; omega
       case rel => exact ⟨(y600), (x6_11), (wrap64 (aZ + 1)), eR, eR, H', ⟨by have := HK1.out; have := HJ4.out; have := HJ11.out; omega⟩, ⟨RU O602.out⟩, ⟨bU dC.out⟩, ⟨BU HB.out⟩⟩
def Qa0.l0 : Nat → List (S47) → List (S47) → Int → Option ((List (S47)))
 | 0, _, _, _ => none
 | k + 1, x0, x3, x4 => if x4 < (x0.length : Int) then (if 0 ≤ x4 then ((Qad.f k x3 ((Qaa x0 x4).f0) ((Qaa x0 x4).f1)).bind fun t607 => (Qa0.l0 k x0 t607 (wrap64 (x4 + 1)))) else (none)) else (some x3)
def Qa0.f (k : Nat) (l0 : List (S47)) : Option ((List (S47))) := Qa0.l0 k l0 ([] : List (S47)) 0
theorem Qa0.calls (k : Nat) (A0 : Option Addr) (c0 : Nat) (l0 : List (S47)) (r : List (S47)) (w : World) (hr0 : Kd.C k47 w A0 l0.length l0) (hc0 : l0.length ≤ c0) (h : Qa0.f k l0 = some r) :
 Calls Tryz.prog 13 #[.slice A0 l0.length c0] w fun e w' => ∃ v0_ : Value, e = .returned (v0_) ∧ Kd.R k47 47 w' w.heap.size (fun _ => True) v0_ r ∧ Below w.heap.size w w' := by
 have hu47 := Tryz.underlying47
 have R0 := As0 hr0
 have C0 := As0 hc0
 clear hr0 hc0
 have HB := As0 (Below.refl w.heap.size w)
 have H : (Qa0.l0 k l0 ([] : List (S47)) 0) = some r := h
 clear h
 have H' := As0 H
 clear H
 go_enter Tryz.func13, Tryz.ntmps13
 go_wp2
 go_loopg [3, 4] k (fun kq v3 v4 w' => ∃ (cI : List (S47)) (aE : Int), v4 = .int .i64 aE ∧ Qbf (Qa0.l0 kq l0 cI aE = some r) ∧ Qbf (kq ≤ k) ∧ Qbf (Kd.R k47 47 w' w.heap.size (fun _ => True) v3 cI) ∧ Qbf (Below w.heap.size w w'))
 case atStart => exact ⟨(([] : List (S47))), (0), eR, H', ⟨Nat.le_refl _⟩, ⟨by first | exact Kd.R_nil _ _ _ _ _ | exact Kd.N_nil _ _ _ _ _ | exact Kd.V_nil _ _ _ _ _ | exact Kd.Q_nil _ _ _ _ _ | exact Kd.S_nil _ _ _ _ _⟩, ⟨BU HB.out⟩⟩
 case round =>
  clear H'
  obtain ⟨cI, aE, rfl, HA, HK1, HO_3, HB⟩ := hrel
  cases gk with
  | zero => exact absurd HA.out (by simp [Qa0.l0])
  | succ k1 =>
   have H := HA.out
   clear HA
   simp only [Qa0.l0] at H
   by_cases c2 : aE < (l0.length : Int)
   rotate_left
   ·rw [if_neg c2] at H
    have c2b0 := decide_eq_false c2
    clear c2
    obtain rfl := Option.some.inj H
    go_wp2
    go_ret
    exact ⟨_, by first | rfl | (simp [Qa9, Qa8] <;> rfl) | (simp [*, Qa9, Qa8] <;> rfl), RU HO_3.out, BU HB.out⟩
   rw [if_pos c2] at H
   have c2b0 := decide_eq_true c2
   clear c2
   by_cases c3 : 0 ≤ aE
   rotate_left
   ·rw [if_neg c3] at H
    exact absurd H (by simp)
   rw [if_pos c3] at H
   have c3b0 := decide_eq_true c3
   clear c3
   replace H := Option.bind_eq_some_iff.mp H
   obtain ⟨t607, A40, H⟩ := H
   have A4 := As0 A40
   clear A40
   have H' := As0 H
   clear H
   have p606 : 0 ≤ (aE : Int) := qR
   have q606 : aE < (l0.length : Int) := qR
   obtain ⟨ad606, e606, hx606_0, hx606_1⟩ := Qcc R0.out aE p606 q606
   cases e606
   replace hx606_0 := cl HB hx606_0
   replace hx606_1 := cl HB hx606_1
   replace p606 := eq_true p606
   replace q606 := eq_true q606
   obtain ⟨Ao5, co5, eo5⟩ := Kd.R_slice HO_3.out
   subst eo5
   go_wp2_with (first | ((with_reducible refine Qbk (f := 30) rfl ?_); refine gL (some 16) Tryz.func30 #[.slice Ao5 cI.length co5, .agg #[.int .i64 ((Qaa l0 aE).f0), .int .i64 ((Qaa l0 aE).f1)]] ?_; (with_reducible refine (Qad.calls k1 _ _ cI ((Qaa l0 aE).f0) ((Qaa l0 aE).f1) t607 _ ?side1 ?side2 A4.out).mono ?_); (case side1 => exact CU (Kd.R_reads' HO_3.out).2.2); (case side2 => exact (Kd.R_reads' HO_3.out).2.1); rintro e w6 ⟨v608, rfl, ho0, hb⟩; refine ⟨_, rfl, ?_⟩; have O609 := As0 (Kd.R_lower (Kd.R_new' ho0 (Kd.R_lt (RU HO_3.out))) (Qbi (BU HB.out))); replace HO_3 := As0 (Kd.R_elder' (RU HO_3.out) (Kd.R_base ho0) hb); replace HB := sB HB hb; (try clear hb); (try clear ho0)))
   go_roundg k1
   case measure => have := HK1.out; omega
   case rel => exact ⟨(t607), (wrap64 (aE + 1)), eR, H', ⟨by have := HK1.out; omega⟩, ⟨RU (Kd.R_mono O609.out (fun _ hk => trivial))⟩, ⟨BU HB.out⟩⟩
end Go.Proofs.YtchpkjgibloleaaGreat.Z
namespace Go.Proofs.YtchpkjgibloleaaGreat.Open
set_option maxRecDepth 100000
set_option maxHeartbeats 8000000
open Go.RowKit Go.ChangeShapes Go.WideShapes Go.Proofs.YtchpkjgibloleaaGreatW.PrintWords
def Qeo (P : Program) (t : TypeId) {α : Type} (d : Kd α) (good : α → Prop) : Prop :=
 ∀ {H : Type} (enc : TypeId × Value → H) (w : World) (fuel : Nat) (cs : List Value) (x : DataW H × List MemPlace),
  DataW.trod enc P w 0 (fun _ => true) true fuel t cs = some x → ∃ a : α, d.K w a cs ∧ good a
theorem Qb2 {P : Program} {t : TypeId} {k : IntKind} (ht : P.underlying t = some (.int k)) : Qeo P t (Kd.int k) (fun n => (Lit.int k n).wf = true) := by
 intro H enc w fuel cs x h
 obtain ⟨n, rfl, _, hw⟩ := DataW.trod_int ht h
 exact ⟨n, rfl, hw⟩
theorem cells_read {w : World} {a : Addr} {n : Nat} {cs : List Value} (h : w.cells? 0 a n = some cs) : cs.length = n ∧ ∀ i u, cs[i]? = some u → w.cell? (a.add i) = some u := by
 obtain ⟨h1, h2, h3⟩ := World.cells?_some h
 refine ⟨h2, fun i u hu => ?_⟩
 have hi : i < cs.length := (List.getElem?_eq_some_iff.1 hu).1
 have := h3 i (by omega)
 rw [hu] at this
 exact this
theorem list_of_index {α : Type} {len : Nat} {p : Nat → α → Prop} (h : ∀ i, i < len → ∃ x, p i x) : ∃ xs : List α, xs.length = len ∧ ∀ i x, xs[i]? = some x → p i x := by
 induction len with
 | zero => exact ⟨[], rfl, fun i p hp => by simp at hp⟩
 | succ q ih =>
  obtain ⟨xs, hxs, hr⟩ := ih (fun i hi => h i (by omega))
  obtain ⟨p, hp⟩ := h q (by omega)
  refine ⟨xs ++ [p], by simp [hxs], fun i p' hi => ?_⟩
  rcases Nat.lt_or_ge i xs.length with hlt | hge
  ·rw [List.getElem?_append_left hlt] at hi
   exact hr i p' hi
  ·have hiq : i = q := by
     have := (List.getElem?_eq_some_iff.1 hi).1
     simp at this
     omega
   subst hiq
   rw [List.getElem?_append_right hge] at hi
   simp [hxs] at hi
   subst hi
   exact hp
theorem Qc1 {P : Program} {t e : TypeId} {α : Type} {d : Kd α} {good : α → Prop} (ht : P.underlying t = some (.slice e)) (hc : P.cellsOf e = d.sz) (he : Qeo P e d good) :
    Qeo P t (Kd.slice e d) (fun xs => xs.length ≤ maxLen ∧ ∀ x ∈ xs, good x) := by
 intro H enc w fuel cs x h
 rcases Go.Deep.open_slice ht h with ⟨rfl, _⟩ | ⟨a, len, cap, m, n, D, Pl, rfl, _, hl, hm, hmm, _, hx⟩
 ·exact ⟨[], ⟨none, 0, rfl, Nat.le_refl _, rfl, by simp, fun hp => absurd hp (by simp)⟩, by simp⟩
 ·have hlm : len ≤ m := by rw [hmm]; simp only [if_true]; exact hl
  have hall : ∀ i, i < len → ∃ p : α, good p ∧ ∃ c, c.length = d.sz ∧ d.K w p c ∧ ∀ j u, c[j]? = some u → w.cell? (a.add (i * d.sz + j)) = some u := by
   intro i hi
   obtain ⟨cs', h1, h2⟩ := hx i (by omega)
   obtain ⟨p, hp, hg⟩ := he enc w n cs' _ h2
   obtain ⟨h3, h4⟩ := cells_read h1
   refine ⟨p, hg, cs', by rw [h3, hc], hp, fun j u hu => ?_⟩
   have := h4 j u hu
   rw [Go.Deep.add_add, hc] at this
   exact this
  have key := list_of_index hall
  obtain ⟨xs, rfl, hr⟩ := key
  refine ⟨xs, ⟨some a, cap, rfl, hl, rfl, by have := hm; unfold maxLen at this; omega, fun _ => ⟨a, rfl, fun j p hj => (hr j p hj).2⟩⟩, by omega, fun x hx => ?_⟩
  obtain ⟨i, hi, rfl⟩ := List.getElem_of_mem hx
  exact (hr i _ (List.getElem?_eq_getElem hi)).1
def OpensFs (P : Program) (fs : List Field) (off : Nat) {α : Type} (d : Kd α) (good : α → Prop) : Prop :=
 ∀ {H : Type} (enc : TypeId × Value → H) (w : World) (fuel : Nat) (cs : List Value) (xs : List (DataW H × List MemPlace)),
  fs.mapM (fun f => DataW.trod enc P w 0 (fun _ => true) true fuel f.type ((cs.drop f.offset).take (P.cellsOf f.type))) = some xs → cs.length = off + d.sz → ∃ a : α, d.K w a (cs.drop off) ∧ good a
theorem Qcv {P : Program} {f : Field} {off : Nat} {α : Type} {d : Kd α} {good : α → Prop} (ho : f.offset = off) (hc : P.cellsOf f.type = d.sz) (h : Qeo P f.type d good) : OpensFs P [f] off d good := by
 intro H enc w fuel cs xs hx hl
 simp only [List.mapM_cons, List.mapM_nil, Option.bind_eq_bind, Option.pure_def, Option.bind_eq_some_iff] at hx
 obtain ⟨y, hy, _⟩ := hx
 rw [ho, hc, List.take_of_length_le (by rw [List.length_drop]; omega)] at hy
 exact h enc w fuel _ _ hy
theorem Qbv {P : Program} {f : Field} {fs : List Field} {off : Nat} {α β : Type} {d : Kd α} {e : Kd β} {good : α → Prop} {goods : β → Prop} (ho : f.offset = off) (hc : P.cellsOf f.type = d.sz) (h : Qeo P f.type d good) (hs : OpensFs P fs (off + d.sz) e goods) :
    OpensFs P (f :: fs) off (Kd.pair d e) (fun x => good x.1 ∧ goods x.2) := by
 intro H enc w fuel cs xs hx hl
 simp only [List.mapM_cons, Option.bind_eq_bind, Option.pure_def, Option.bind_eq_some_iff] at hx
 obtain ⟨y, hy, ys, hys, _⟩ := hx
 rw [ho, hc] at hy
 have hl' : cs.length = off + d.sz + e.sz := by rw [hl]; show off + (d.sz + e.sz) = _; omega
 obtain ⟨a, ha, ga⟩ := h enc w fuel _ _ hy
 obtain ⟨b, hb, gb⟩ := hs enc w fuel cs ys hys hl'
 refine ⟨(a, b), ⟨(cs.drop off).take d.sz, cs.drop (off + d.sz), ?_, ha, hb⟩, ga, gb⟩
 rw [← List.drop_drop, List.take_append_drop]
theorem Qce {P : Program} {t : TypeId} {fs : Array Field} {α β : Type} {d : Kd α} {good : α → Prop} (ht : P.underlying t = some (.struct fs)) (hc : P.cellsOf t = d.sz) (h : OpensFs P fs.toList 0 d good) (f : β → α) (g : α → β) (hfg : ∀ a, f (g a) = a) :
    Qeo P t (Kd.iso d f) (fun x => good (f x)) := by
 intro H enc w fuel cs x hx
 cases fuel with
 | zero => exact absurd hx (by simp [DataW.trod])
 | succ n =>
  rw [DataW.trod_step] at hx
  unfold DataW.trodStep at hx
  simp only [ht] at hx
  split at hx
  ·rename_i hl
   obtain ⟨xs, hxs, _⟩ := Option.map_eq_some_iff.1 hx
   obtain ⟨a, ha, ga⟩ := h enc w n cs xs hxs (by rw [hl, hc]; omega)
   refine ⟨g a, ?_, by show good (f (g a)); rw [hfg]; exact ga⟩
   show d.K w (f (g a)) cs
   rw [hfg]
   simpa using ha
  ·exact absurd hx (by simp)
section
variable {H : Type} {enc : TypeId × Value → H} {P : Program} {W : World} {b0 : Nat}
theorem arg_struct {t : TypeId} {fs : Array Field} {α : Type} {d : Kd α} {good : α → Prop} {v : Value} {dd : DataW H} {p : List MemPlace} (ht : P.underlying t = some (.struct fs)) (ho : Qeo P t d good) (hv : Value.okWide P W .any b0 t v) (h : DataW.Trod enc P W 0 (fun _ => true) true t v dd p) :
    ∃ (cs : List Value) (x : α), v = .agg cs.toArray ∧ d.K W x cs ∧ good x := by
 obtain ⟨cs, rfl, hsz⟩ := okWide_struct ht hv
 obtain ⟨fuel, hf⟩ := h
 obtain ⟨x, hk, hg⟩ := ho enc W fuel _ _ hf
 exact ⟨cs.toList, x, by simp, hk, hg⟩
end
end Go.Proofs.YtchpkjgibloleaaGreat.Open
namespace Go.Proofs.YtchpkjgibloleaaGreat.Z
set_option maxRecDepth 100000
set_option maxHeartbeats 8000000
open Go.RowKit Go.Proofs.YtchpkjgibloleaaGreatW.PrintWords Go.Proofs.YtchpkjgibloleaaGreatW.PrintLast Go.Proofs.YtchpkjgibloleaaGreatW.PrintMore
def sw (x y n : Int) : Int := if n = x then y else if n = y then x else n
def swP (x y : Int) (p : S47) : S47 := ⟨sw x y p.f0, p.f1⟩
def swI (x y : Int) (i : S41) : S41 := ⟨i.f0, if i.f0 = 17 then i.f1 else sw x y i.f1, if i.f0 = 1 then i.f2 else sw x y i.f2, if 5 ≤ i.f0 ∧ i.f0 ≤ 16 then sw x y i.f3 else i.f3, i.f4⟩
def swT (x y : Int) (t : S37) : S37 := if t.f0 = 1 then t else ⟨t.f0, sw x y t.f1, t.f2, t.f3⟩
def swB (x y : Int) (b : S39) : S39 := ⟨b.f0.map (swI x y), swT x y b.f1⟩
section
variable {α : Type} {d : Kd α} {e g t : Nat} {w0 W w1 : World} {base : Nat} {ok : Nat → Prop} {v : Value} {xs : List α}
theorem S_over (h : Kd.S d e W base ok v xs) {cells : Array Value} (hb : W.heap[g]? = some (.cells cells t (0, 0))) (ht : ∀ q, q ∈ e :: d.E → q ≠ t) (hg : W.grownBy w1 (some g)) : Kd.S d e w1 base ok v xs :=
 Kd.S_mono (Kd.S_grown (Kd.S_types h hb ht) hg (fun k hk e => hk.2 (Option.some.inj e))) (fun _ hk => hk.1)
theorem Qdj {b u : Nat} {cs cells : Array Value} (h : W.heap[b]? = some (.cells cs u (0, 0))) (hb : W.heap[g]? = some (.cells cells t (0, 0))) (ht : u ≠ t) (hg : W.grownBy w1 (some g)) : w1.heap[b]? = some (.cells cs u (0, 0)) := by
 refine (hg.block b (Qbs h) (fun e => ?_)).trans h
 injection e with e
 subst e
 rw [h] at hb
 injection hb with hb
 injection hb with _ hb _
 exact ht hb
theorem below_over {B o : Nat} {seg : List Value} {cells : Array Value} (HB : Below B w0 W) (hgb : B ≤ g) (hb : W.heap[g]? = some (.cells cells t (0, 0))) (hg : W.grownBy (W.setCells g o seg) (some g)) : Below B w0 (W.setCells g o seg) :=
 HB.trans ⟨hg.os, hg.tape, hg.output, hg.size, fun k hk => Qdi seg _ k (by omega)⟩
end
structure Hd (w0 W : World) (bc bd : Nat) (cc cd : Array Value) (vS vT vW : Value) (SB : List S39) (TB : List S57) (WB : List (List S47)) : Prop where
 s : Kd.S k39 39 W w0.heap.size (fun _ => True) vS SB
 t : Kd.S k57 57 W w0.heap.size (fun _ => True) vT TB
 w : Kd.S (Kd.slice 47 k47) 44 W w0.heap.size (fun _ => True) vW WB
 c : W.heap[bc]? = some (.cells cc 30 (0, 0))
 d : W.heap[bd]? = some (.cells cd 30 (0, 0))
 b : Below w0.heap.size w0 W
section
variable {w0 W w1 : World} {bc bd : Nat} {cc cd : Array Value} {vS vT vW : Value} {SB : List S39} {TB : List S57} {WB : List (List S47)}
theorem Hd.qbelow (h : Hd w0 W bc bd cc cd vS vT vW SB TB WB) (hb : Below W.heap.size W w1) : Hd w0 w1 bc bd cc cd vS vT vW SB TB WB :=
 ⟨Kd.S_below h.s hb, Kd.S_below h.t hb, Kd.S_below h.w hb, Qbg h.c hb, Qbg h.d hb, Qbw h.b hb⟩
theorem Hd.qdrew (h : Hd w0 W bc bd cc cd vS vT vW SB TB WB) : Hd w0 W.drew bc bd cc cd vS vT vW SB TB WB := h.qbelow (Qcx (Below.refl _ _))
theorem Hd.qblk {gS n cS : Nat} (h : Hd w0 W bc bd cc cd (.slice (some ⟨gS, 0, none⟩) n cS) vT vW SB TB WB) (x : Int) (h0 : 0 ≤ x) (h1 : x < (SB.length : Int)) :
    ∃ A0 c0, W.cell? ⟨gS, x.toNat * 5, none⟩ = some (.slice A0 (Qag SB x).f0.length c0) ∧ W.cell? ⟨gS, x.toNat * 5 + 1, none⟩ = some (.int .i64 (Qag SB x).f1.f0) ∧ W.cell? ⟨gS, x.toNat * 5 + 2, none⟩ = some (.int .i64 (Qag SB x).f1.f1) ∧ Kd.C k41 W A0 (Qag SB x).f0.length (Qag SB x).f0 := by
 have hr := Kd.S_reads' h.s
 obtain ⟨ad, A0, c0, e, e0, e1, e2, _, _, _, e5⟩ := Qed hr.2.2 x h0 (by omega)
 cases e
 rw [Qee] at e0 e1 e2
 exact ⟨A0, c0, e0, e1, e2, by first | exact e5 | exact e5.2⟩
theorem Hd.qinv {gW n cW : Nat} (h : Hd w0 W bc bd cc cd vS vT (.slice (some ⟨gW, 0, none⟩) n cW) SB TB WB) (x : Int) (h0 : 0 ≤ x) (h1 : x < (WB.length : Int)) :
    ∃ A0 c0, W.cell? ⟨gW, x.toNat, none⟩ = some (.slice A0 (Qao WB x).length c0) ∧ (Qao WB x).length ≤ c0 ∧ Kd.C k47 W A0 (Qao WB x).length (Qao WB x) := by
 have hr := Kd.S_reads' h.w
 obtain ⟨ad, A0, c0, e, e0, e1, e2⟩ := Qdk hr.2.2 x h0 (by omega)
 cases e
 rw [Qee] at e0
 exact ⟨A0, c0, e0, e1, e2⟩
theorem Hd.qins {gS n cS m c0 : Nat} {A0 : Option Addr} (h : Hd w0 W bc bd cc cd (.slice (some ⟨gS, 0, none⟩) n cS) vT vW SB TB WB) (x : Int) (h0 : 0 ≤ x) (h1 : x < (SB.length : Int)) (hc : W.cell? ⟨gS, x.toNat * 5, none⟩ = some (.slice A0 m c0)) (y : Int) (hy0 : 0 ≤ y) (hy1 : y < (m : Int)) :
    ∃ ad, A0 = some ad ∧ W.cell? (ad.add (y.toNat * 5)) = some (.int .i64 (Qam (Qag SB x).f0 y).f0) ∧ W.cell? ⟨(ad.add (y.toNat * 5)).block, (ad.add (y.toNat * 5)).off + 1, none⟩ = some (.int .i64 (Qam (Qag SB x).f0 y).f1) ∧ W.cell? ⟨(ad.add (y.toNat * 5)).block, (ad.add (y.toNat * 5)).off + 2, none⟩ = some (.int .i64 (Qam (Qag SB x).f0 y).f2) ∧ W.cell? ⟨(ad.add (y.toNat * 5)).block, (ad.add (y.toNat * 5)).off + 3, none⟩ = some (.int .i64 (Qam (Qag SB x).f0 y).f3) ∧ W.cell? ⟨(ad.add (y.toNat * 5)).block, (ad.add (y.toNat * 5)).off + 4, none⟩ = some (.int .i64 (Qam (Qag SB x).f0 y).f4) := by
 obtain ⟨A1, c1, k0, _, _, kC⟩ := h.qblk x h0 h1
 have e := Option.some.inj (hc.symm.trans k0)
 injection e with e1 e2 e3
 subst e1
 exact at_T41 kC y hy0 (by omega)
theorem Hd.qprs {gW n cW m c0 : Nat} {A0 : Option Addr} (h : Hd w0 W bc bd cc cd vS vT (.slice (some ⟨gW, 0, none⟩) n cW) SB TB WB) (x : Int) (h0 : 0 ≤ x) (h1 : x < (WB.length : Int)) (hc : W.cell? ⟨gW, x.toNat, none⟩ = some (.slice A0 m c0)) (y : Int) (hy0 : 0 ≤ y) (hy1 : y < (m : Int)) :
    ∃ ad, A0 = some ad ∧ W.cell? (ad.add (y.toNat * 2)) = some (.int .i64 (Qaa (Qao WB x) y).f0) := by
 obtain ⟨A1, c1, k0, _, kC⟩ := h.qinv x h0 h1
 have e := Option.some.inj (hc.symm.trans k0)
 injection e with e1 e2 e3
 subst e1
 obtain ⟨ad, e, h2, _⟩ := Qcc kC y hy0 (by omega)
 exact ⟨ad, e, h2⟩
theorem cell_grown {g b o : Nat} {v : Value} (h : W.cell? ⟨b, o, none⟩ = some v) (hb : b < W.heap.size) (hne : b ≠ g) (hg : W.grownBy w1 (some g)) : w1.cell? ⟨b, o, none⟩ = some v :=
 (World.cell?_of_block (hg.block b hb (fun e => hne (Option.some.inj e)))).trans h
end
section
variable {P : Program} {ops : Array Oper} {rest : List Oper} {o : Oper} {a : Act} {Q : Exit → Act → World → Prop} {w0 W : World} {bc bd : Nat} {cc cd : Array Value} {vS vT vW : Value} {SB : List S39} {TB : List S57} {WB : List (List S47)}
theorem Hd.qcode (hN : o.dst = none) (hgd : o.guard = none) (p x : Operand) (ho : o.op = .store 41 p x) {gS n cS m ck : Nat} {ad : Addr} (i k : Int) (y : S41) (hx : a.eval x = .agg #[.int .i64 y.f0, .int .i64 y.f1, .int .i64 y.f2, .int .i64 y.f3, .int .i64 y.f4]) (haddr : a.eval p = .pointer (some (ad.add (k.toNat * 5))))
    (ht : (P.info? 41).map (·.size) = some 5) (h : Hd w0 W bc bd cc cd (.slice (some ⟨gS, 0, none⟩) n cS) vT vW SB TB WB) (h0 : 0 ≤ i) (h1 : i < (SB.length : Int)) (hc : W.cell? ⟨gS, i.toNat * 5, none⟩ = some (.slice (some ad) m ck)) (hk0 : 0 ≤ k) (hk1 : k < (m : Int))
    (K : ∀ w1, Hd w0 w1 bc bd cc cd (.slice (some ⟨gS, 0, none⟩) n cS) vT vW (SB.set i.toNat ⟨(Qag SB i).f0.set k.toNat y, (Qag SB i).f1⟩) TB WB → w1.cell? ⟨gS, i.toNat * 5, none⟩ = some (.slice (some ad) m ck) → wpList P ops Q rest a w1) : wpList P ops Q (o :: rest) a W := by
 have hn := (Kd.S_reads' h.s).1
 obtain ⟨gS', cap', e', _, _, cellsS, hcS⟩ := Kd.S_form h.s (by omega)
 obtain ⟨oki, c, hcl, hM, hcc, hoki, hback⟩ := Kd.S_borrow h.s z39 i h0 (by omega)
 obtain ⟨v0, rfl, hR⟩ := k39_openM hM
 have h2 := hcc 0 v0 rfl
 rw [add_at, Nat.zero_add, Nat.add_zero] at h2
 have e : v0 = .slice (some ad) m ck := Option.some.inj (h2.symm.trans hc)
 subst e
 have hm := (Kd.R_reads' hR).1
 obtain ⟨gk, cap, eq, hbase, hlt, cells, hcell⟩ := Kd.R_form hR (by show 0 < (SB.getD i.toNat z39).f0.length; omega)
 injection eq with eq1 eq2 eq3
 injection eq1 with eq1
 subst eq1
 obtain ⟨c2, hcl2, hM2, hcc2, _⟩ := Kd.R_elem hR z41 k hk0 hk1
 obtain rfl := k41_openM hM2
 have hok := hR.1 gk (by simp [Value.ownBlock])
 have hne : gS ≠ gk := fun e => by
  subst e
  injection e' with e1 _ _
  injection e1 with e1
  injection e1 with e1
  subst e1
  rw [hcS] at hcell
  injection hcell with hcell
  injection hcell with _ hcell _
  exact absurd hcell (by decide)
 refine Kd.R_store k41 w0.heap.size hN hgd 41 p x ho 41 k 0 (SB.getD i.toNat z39).f0 y _ [.int .i64 y.f0, .int .i64 y.f1, .int .i64 y.f2, .int .i64 y.f3, .int .i64 y.f4] _ oki (fun _ => False) (by rw [haddr, add_at, Nat.zero_add]; rfl) rfl hx rfl ht (by intro q hq; simp at hq; rcases hq with h | h | h | h | h <;> subst h <;> rfl) hR hk0 hk1 hcl2 hcc2 (show 5 ≤ 5 by decide) (k41_mkM _ _ _ y) (fun _ hk => hk.elim) h.b ?_
 intro w1 hR1 hB1 hg
 refine K w1 ⟨hback hg (fun k hk => by rw [← Option.some.inj hk]; exact hok) (k39_mkM _ _ _ (⟨(SB.getD i.toNat z39).f0.set k.toNat y, (SB.getD i.toNat z39).f1⟩ : S39) hR1), S_over h.t hcell (by decide) hg, S_over h.w hcell (by decide) hg, Qdj h.c hcell (by decide) hg, Qdj h.d hcell (by decide) hg, hB1⟩ (cell_grown hc (Qbs (by rw [← hcS]; injection e' with e1 _ _; injection e1 with e1; injection e1 with e1; rw [e1])) hne hg)
theorem Hd.qpair (hN : o.dst = none) (hgd : o.guard = none) (p x : Operand) (ho : o.op = .store 3 p x) {gW n cW m ck : Nat} {ad : Addr} (i k y : Int) (hx : a.eval x = .int .i64 y) (haddr : a.eval p = .pointer (some (ad.add (k.toNat * 2))))
    (ht : (P.info? 3).map (·.size) = some 1) (h : Hd w0 W bc bd cc cd vS vT (.slice (some ⟨gW, 0, none⟩) n cW) SB TB WB) (h0 : 0 ≤ i) (h1 : i < (WB.length : Int)) (hc : W.cell? ⟨gW, i.toNat, none⟩ = some (.slice (some ad) m ck)) (hk0 : 0 ≤ k) (hk1 : k < (m : Int))
    (K : ∀ w1, Hd w0 w1 bc bd cc cd vS vT (.slice (some ⟨gW, 0, none⟩) n cW) SB TB (WB.set i.toNat ((Qao WB i).set k.toNat ⟨y, (Qaa (Qao WB i) k).f1⟩)) → w1.cell? ⟨gW, i.toNat, none⟩ = some (.slice (some ad) m ck) → wpList P ops Q rest a w1) : wpList P ops Q (o :: rest) a W := by
 have hn := (Kd.S_reads' h.w).1
 obtain ⟨gS', cap', e', _, _, cellsS, hcS⟩ := Kd.S_form h.w (by omega)
 obtain ⟨oki, c, hcl, hM, hcc, hoki, hback⟩ := Kd.S_borrow h.w [] i h0 (by omega)
 obtain ⟨v0, rfl, hR⟩ := hM
 have h2 := hcc 0 v0 rfl
 rw [add_at, Nat.zero_add, Nat.add_zero] at h2
 rw [show i.toNat * (Kd.slice 47 k47).sz = i.toNat from Nat.mul_one _] at h2
 have e : v0 = .slice (some ad) m ck := Option.some.inj (h2.symm.trans hc)
 subst e
 have hm := (Kd.R_reads' hR).1
 obtain ⟨gk, cap, eq, hbase, hlt, cells, hcell⟩ := Kd.R_form hR (by show 0 < (WB.getD i.toNat []).length; omega)
 injection eq with eq1 eq2 eq3
 injection eq1 with eq1
 subst eq1
 obtain ⟨c2, hcl2, hM2, hcc2, _⟩ := Kd.R_elem hR z47 k hk0 hk1
 obtain rfl := k47_openM hM2
 have hok := hR.1 gk (by simp [Value.ownBlock])
 have hne : gW ≠ gk := fun e => by
  subst e
  injection e' with e1 _ _
  injection e1 with e1
  injection e1 with e1
  subst e1
  rw [hcS] at hcell
  injection hcell with hcell
  injection hcell with _ hcell _
  exact absurd hcell (by decide)
 refine Kd.R_store k47 w0.heap.size hN hgd 3 p x ho 47 k 0 (WB.getD i.toNat []) ⟨y, ((WB.getD i.toNat []).getD k.toNat z47).f1⟩ _ [.int .i64 y] _ oki (fun _ => False) (by rw [haddr, add_at, Nat.zero_add]; rfl) rfl hx rfl ht (by intro q hq; simp at hq; subst hq; rfl) hR hk0 hk1 hcl2 hcc2 (show 1 ≤ 2 by decide) (Qc8 _ _ _ (⟨y, ((WB.getD i.toNat []).getD k.toNat z47).f1⟩ : S47)) (fun _ hk => hk.elim) h.b ?_
 intro w1 hR1 hB1 hg
 refine K w1 ⟨S_over h.s hcell (by decide) hg, S_over h.t hcell (by decide) hg, hback hg (fun k hk => by rw [← Option.some.inj hk]; exact hok) ⟨_, rfl, hR1⟩, Qdj h.c hcell (by decide) hg, Qdj h.d hcell (by decide) hg, hB1⟩ (cell_grown hc (Qbs (by rw [← hcS]; injection e' with e1 _ _; injection e1 with e1; injection e1 with e1; rw [e1])) hne hg)
theorem Hd.qterm {gS n cS : Nat} (i u : Int) (h : Hd w0 W bc bd cc cd (.slice (some ⟨gS, 0, none⟩) n cS) vT vW SB TB WB) (h0 : 0 ≤ i) (h1 : i < (SB.length : Int)) :
    Hd w0 (W.setCell ⟨gS, i.toNat * 5 + 2, none⟩ (.int .i64 u)) bc bd cc cd (.slice (some ⟨gS, 0, none⟩) n cS) vT vW (SB.set i.toNat ⟨(Qag SB i).f0, ⟨(Qag SB i).f1.f0, u, (Qag SB i).f1.f2, (Qag SB i).f1.f3⟩⟩) TB WB ∧ W.frozen? ⟨gS, i.toNat * 5 + 2, none⟩ = false ∧ W.cell? ⟨gS, i.toNat * 5 + 2, none⟩ = some (.int .i64 (Qag SB i).f1.f1) := by
 have hn := (Kd.S_reads' h.s).1
 obtain ⟨gS', cap', e', hbase, _, cells, hcell⟩ := Kd.S_form h.s (by omega)
 injection e' with e1 _ _
 injection e1 with e1
 injection e1 with e1
 subst e1
 obtain ⟨oki, c, hcl, hM, hcc, hfr, hoki, hH⟩ := Kd.S_elem h.s z39 i h0 (by omega)
 obtain ⟨v0, rfl, hR⟩ := k39_openM hM
 obtain ⟨hS, hg⟩ := Kd.S_seg0 (seg := [.int .i64 u]) (j := 2) (okp := oki) hH h0 (by omega) (show 3 ≤ 5 by decide) (k39_mkM _ _ _ (⟨(SB.getD i.toNat z39).f0, ⟨(SB.getD i.toNat z39).f1.f0, u, (SB.getD i.toNat z39).f1.f2, (SB.getD i.toNat z39).f1.f3⟩⟩ : S39) hR) (fun _ hk => hk)
 exact ⟨⟨hS, S_over h.t hcell (by decide) hg, S_over h.w hcell (by decide) hg, Qdj h.c hcell (by decide) hg, Qdj h.d hcell (by decide) hg, below_over h.b hbase hcell hg⟩, hfr 2, hcc 2 _ rfl⟩
theorem Hd.qrow {w2 : World} {gW n cW : Nat} {v1 : Value} {r : List S47} (i : Int) (h : Hd w0 W bc bd cc cd vS vT (.slice (some ⟨gW, 0, none⟩) n cW) SB TB WB) (hb : Below W.heap.size W w2) (hR : Kd.R k47 47 w2 W.heap.size (fun _ => True) v1 r) (h0 : 0 ≤ i) (h1 : i < (WB.length : Int)) :
    Hd w0 (w2.setCell ⟨gW, i.toNat, none⟩ v1) bc bd cc cd vS vT (.slice (some ⟨gW, 0, none⟩) n cW) SB TB (WB.set i.toNat r) ∧ w2.frozen? ⟨gW, i.toNat, none⟩ = false ∧ ∃ v0, w2.cell? ⟨gW, i.toNat, none⟩ = some v0 := by
 have hn := (Kd.S_reads' h.w).1
 have h2 := h.qbelow hb
 have hsz : w0.heap.size ≤ W.heap.size := h.b.size
 obtain ⟨gS', cap', e', hbase, hlt, cells, hcell⟩ := Kd.S_form h2.w (by omega)
 obtain ⟨gS2, _, e2, _, hlt2, _⟩ := Kd.S_form h.w (by omega)
 injection e' with e1 _ _
 injection e1 with e1
 injection e1 with e1
 subst e1
 injection e2 with e2 _ _
 injection e2 with e2
 injection e2 with e2
 subst e2
 have hold := Kd.S_old h.w hb
 obtain ⟨oki, c, hcl, hM, hcc, hfr, hoki, hH⟩ := Kd.S_elem (Kd.S_mono hold (ok' := fun k => True ∧ ¬ (W.heap.size ≤ k)) (fun k hk => ⟨trivial, by have := hk.2; omega⟩)) [] i h0 (by omega)
 obtain ⟨v0, rfl, hR0⟩ := hM
 have hRT : Kd.R k47 47 w2 w0.heap.size (fun k => W.heap.size ≤ k) v1 r := Kd.R_lower (Kd.R_mono (Kd.R_bound hR) (fun k hk => hk.2.1)) hsz
 obtain ⟨hS, hg⟩ := Kd.S_seg (ok := fun _ => True) (okg := fun k => W.heap.size ≤ k) (seg := [v1]) (j := 0) (okp := fun k => W.heap.size ≤ k) hH h0 (by omega) (show 1 ≤ 1 by decide) (x' := r) ⟨_, rfl, hRT⟩ (fun _ hk => .inr hk) (fun k hk => ⟨trivial, by omega⟩)
 rw [show i.toNat * (Kd.slice 47 k47).sz + 0 = i.toNat from Nat.mul_one _] at hS hg
 have hf := hfr 0
 have hc0 := hcc 0 _ rfl
 rw [show i.toNat * (Kd.slice 47 k47).sz + 0 = i.toNat from Nat.mul_one _] at hf hc0
 exact ⟨⟨S_over h2.s hcell (by decide) hg, S_over h2.t hcell (by decide) hg, hS, Qdj h2.c hcell (by decide) hg, Qdj h2.d hcell (by decide) hg, below_over (seg := [v1]) h2.b hbase hcell hg⟩, hf, _, hc0⟩
end
theorem swap_calls (n x y : Int) (w : World) : Calls Tryz.prog 12 #[.int .i64 n, .int .i64 x, .int .i64 y] w fun e w' => e = .returned (.int .i64 (sw x y n)) ∧ Qbr w w' := by
 unfold sw
 by_cases h : n = x
 ·rw [if_pos h]
  have h1 : (n == x) = true := beq_iff_eq.mpr h
  clear h
  go_enter Tryz.func12, Tryz.ntmps12
  go_wp2
  go_ret
  exact ⟨rfl, by repeat (first | exact Qbr.refl _ | apply Qbr.step)⟩
 ·rw [if_neg h]
  have h1 : (n == x) = false := beq_eq_false_iff_ne.mpr h
  by_cases h' : n = y
  ·rw [if_pos h']
   have h2 : (n == y) = true := beq_iff_eq.mpr h'
   clear h h'
   go_enter Tryz.func12, Tryz.ntmps12
   go_wp2
   go_ret
   exact ⟨rfl, by repeat (first | exact Qbr.refl _ | apply Qbr.step)⟩
  ·rw [if_neg h']
   have h2 : (n == y) = false := beq_eq_false_iff_ne.mpr h'
   clear h h'
   go_enter Tryz.func12, Tryz.ntmps12
   go_wp2
   go_ret
   exact ⟨rfl, by repeat (first | exact Qbr.refl _ | apply Qbr.step)⟩
theorem swap_b (n x y : Int) (w : World) : Calls Tryz.prog 12 #[.int .i64 n, .int .i64 x, .int .i64 y] w fun e w' => e = .returned (.int .i64 (sw x y n)) ∧ Below w.heap.size w w' := by
 refine (swap_calls n x y w).mono ?_
 rintro e w' ⟨h, ⟨nd, rfl⟩⟩
 exact ⟨h, Qb4 (Below.refl _ _) nd⟩
section
variable {P : Program} {ops : Array Oper} {rest : List Oper} {o : Oper} {a : Act} {Q : Exit → Act → World → Prop}
theorem cell_event {W : World} (hgd : o.guard = none) (hN : o.dst = none) (t : TypeId) (p x : Operand) (ho : o.op = .store t p x) (g j : Nat) (cs : Array Value) (ty : TypeId) (v : Value) (haddr : a.eval p = .pointer (some ⟨g, j, none⟩)) (hx : a.eval x = v) (hv : v.cells.toList = [v]) (hone : v.oneCell' = true)
    (ht : (P.info? t).map (·.size) = some 1) (hj : j < cs.size) (hb : W.heap[g]? = some (.cells cs ty (0, 0)))
    (K : ∀ w1, w1.heap[g]? = some (.cells (cs.setIfInBounds j v) ty (0, 0)) → (∀ w0 : World, w0.heap.size ≤ g → Below w0.heap.size w0 W → Below w0.heap.size w0 w1) → (∀ k, k ≠ g → w1.heap[k]? = W.heap[k]?) → wpList P ops Q rest a w1) : wpList P ops Q (o :: rest) a W := by
 have hrun := run_store_run (P := P) (o := j) t v [v] hb hv ht hj (by intro q hq; rw [List.mem_singleton.1 hq]; exact hone)
 refine wpList_plain hgd fun K' hK => ?_
 unfold Oper.wp execOp
 simp only [ho, haddr, hx, Sem.run_bind, Sem.run_pure, Result.andThen_ok, hrun]
 show K' (a.put o.dst undef) _
 rw [hN]
 exact hK a _ (K (W.setCell ⟨g, j, none⟩ v) (Qb5 hb j v rfl) (fun w0 h1 h2 => below_set h2 h1) (fun k hk => Below.heap_setCell W ⟨g, j, none⟩ v k hk))
end
theorem ren_calls (i : S41) (x y : Int) (w : World) : Calls Tryz.prog 11 #[.agg #[.int .i64 i.f0, .int .i64 i.f1, .int .i64 i.f2, .int .i64 i.f3, .int .i64 i.f4], .int .i64 x, .int .i64 y] w fun e w' => e = .returned (.agg #[.int .i64 (swI x y i).f0, .int .i64 (swI x y i).f1, .int .i64 (swI x y i).f2, .int .i64 (swI x y i).f3, .int .i64 (swI x y i).f4]) ∧ Below w.heap.size w w' := by
 obtain ⟨o, d, a, b, c⟩ := i
 show Calls Tryz.prog 11 #[.agg #[.int .i64 o, .int .i64 d, .int .i64 a, .int .i64 b, .int .i64 c], .int .i64 x, .int .i64 y] w fun e w' => e = .returned (.agg #[.int .i64 o, .int .i64 (if o = 17 then d else sw x y d), .int .i64 (if o = 1 then a else sw x y a), .int .i64 (if 5 ≤ o ∧ o ≤ 16 then sw x y b else b), .int .i64 c]) ∧ Below w.heap.size w w'
 have hu41 := Tryz.underlying41
 have HB := As0 (Below.refl w.heap.size w)
 have go : ∀ q1 q2 q3 q4 : Bool, (o != 17) = q1 → (o != 1) = q2 → decide (5 ≤ o) = q3 → decide (o ≤ 16) = q4 → Calls Tryz.prog 11 #[.agg #[.int .i64 o, .int .i64 d, .int .i64 a, .int .i64 b, .int .i64 c], .int .i64 x, .int .i64 y] w fun e w' => e = .returned (.agg #[.int .i64 o, .int .i64 (bif q1 then sw x y d else d), .int .i64 (bif q2 then sw x y a else a), .int .i64 (bif q3 && q4 then sw x y b else b), .int .i64 c]) ∧ Below w.heap.size w w' := by
  intro q1 q2 q3 q4 h1 h2 h3 h4
  cases q1 <;> cases q2 <;> cases q3 <;> cases q4
  all_goals
   go_enter Tryz.func11, Tryz.ntmps11
   go_wp2_with (first
    | ((with_reducible refine gD 3 ?_); refine bX ?_; intro gO hg w5 aC hb; have O := As0 aC; have GO := As0 (by rw [hg]; exact Qbi (BU HB.out) : w.heap.size ≤ gO); replace HB := sB HB hb; (obtain ⟨z0, z1, z2, z3, z4, -⟩ := cN5 O.out); clear hb aC hg)
    | ((with_reducible refine gD 6 ?_); refine bX ?_; intro gR hg w5 aC hb; have R := As0 aC; have GR := As0 (by rw [hg]; exact Qbi (BU HB.out) : w.heap.size ≤ gR); have NE := As0 (show gR ≠ gO from fun e => by have := Qbs (bU O.out); omega); replace O := kB O hb; replace HB := sB HB hb; clear z0 z1 z2 z3 z4; (obtain ⟨z0, z1, z2, z3, z4, -⟩ := cN5 O.out); clear hb aC hg)
    | ((with_reducible refine Qcb (.store 3 (.tmp 15) (.tmp 14)) rfl ?_); go_loud (refine cell_event rfl rfl 3 _ _ rfl gO 1 _ 41 (.int .i64 (sw x y d)) rfl rfl rfl rfl (by kernel_rfl) (by show 1 < 5; decide) (bU O.out) ?_); intro w6 hg hB ho; simp only [List.setIfInBounds_toArray, List.set_cons_zero, List.set_cons_succ] at hg; replace HB := As0 (hB w GO.out (BU HB.out)); replace R := As0 ((ho gR NE.out).trans (bU R.out)); clear z0 z1 z2 z3 z4; replace O := As0 hg; (obtain ⟨z0, z1, z2, z3, z4, -⟩ := cN5 O.out); clear hg ho hB)
    | ((with_reducible refine Qcb (.store 3 (.tmp 24) (.tmp 23)) rfl ?_); go_loud (refine cell_event rfl rfl 3 _ _ rfl gO 2 _ 41 (.int .i64 (sw x y a)) rfl rfl rfl rfl (by kernel_rfl) (by show 2 < 5; decide) (bU O.out) ?_); intro w6 hg hB ho; simp only [List.setIfInBounds_toArray, List.set_cons_zero, List.set_cons_succ] at hg; replace HB := As0 (hB w GO.out (BU HB.out)); replace R := As0 ((ho gR NE.out).trans (bU R.out)); clear z0 z1 z2 z3 z4; replace O := As0 hg; (obtain ⟨z0, z1, z2, z3, z4, -⟩ := cN5 O.out); clear hg ho hB)
    | ((with_reducible refine Qcb (.store 3 (.tmp 38) (.tmp 37)) rfl ?_); go_loud (refine cell_event rfl rfl 3 _ _ rfl gO 3 _ 41 (.int .i64 (sw x y b)) rfl rfl rfl rfl (by kernel_rfl) (by show 3 < 5; decide) (bU O.out) ?_); intro w6 hg hB ho; simp only [List.setIfInBounds_toArray, List.set_cons_zero, List.set_cons_succ] at hg; replace HB := As0 (hB w GO.out (BU HB.out)); replace R := As0 ((ho gR NE.out).trans (bU R.out)); clear z0 z1 z2 z3 z4; replace O := As0 hg; (obtain ⟨z0, z1, z2, z3, z4, -⟩ := cN5 O.out); clear hg ho hB)
    | ((with_reducible refine Qcb (.store 41 (.tmp 6) (.tmp 39)) rfl ?_); go_loud (refine Qae rfl rfl 41 _ _ rfl gR _ rfl rfl 41 _ (bU R.out) (by kernel_rfl) rfl (by kernel_rfl) ?_); intro w6 hg ho hB; replace HB := As0 (hB _ _ GR.out (BU HB.out)); replace R := As0 hg; (obtain ⟨r0, r1, r2, r3, r4, -⟩ := cN5 R.out); clear hg ho hB)
    | (go_at_call 12; refine (swap_calls _ x y _).mono ?_; rintro e w7 ⟨rfl, ⟨nd, rfl⟩⟩))
   refine bodyPost_ret (results_cell_row rfl _ _ gR 41 _ (0, 0) _ rfl (bU R.out) Tryz.underlying41 rfl (by kernel_rfl)) rfl ?_
   exact ⟨by rfl, BU HB.out⟩
 have := go _ _ _ _ rfl rfl rfl rfl
 have e1 : ∀ (n : Int) (u v : Int), (bif o != n then u else v) = if o = n then v else u := fun n u v => by
  by_cases h : o = n
  ·rw [if_pos h, bne_eq_false_iff_eq.2 h]; rfl
  ·rw [if_neg h, bne_iff_ne.2 h]; rfl
 have e3 : (bif decide (5 ≤ o) && decide (o ≤ 16) then sw x y b else b) = if 5 ≤ o ∧ o ≤ 16 then sw x y b else b := by
  rw [← Bool.decide_and]
  by_cases h : 5 ≤ o ∧ o ≤ 16
  ·rw [if_pos h, decide_eq_true h]; rfl
  ·rw [if_neg h, decide_eq_false h]; rfl
 rw [e1, e1, e3] at this
 exact this
def refOk (a0_0 a0_1 : Int) (l0_2 : List S39) (a0_3 a0_4 a0_5 : Int) (l0_6 : List S57) (l0_7 : List (List S47)) : Prop := ((0 ≤ a0_0 ∧ a0_0 ≤ a0_1) ∧ l0_2.length ≠ 0 ∧ ∀ i : Nat, i < l0_2.length → okBrsrc (Qag l0_2 (i : Int)) a0_1 l0_2.length) ∧ (((0 ≤ a0_3 ∧ a0_3 ≤ a0_5) ∧ 0 ≤ a0_4) ∧ l0_6.length ≠ 0 ∧ ∀ i : Nat, i < l0_6.length → Qel (Qaq l0_6 (i : Int)) a0_4 a0_5 l0_6.length) ∧ ((l0_2.length : Int) = (l0_6.length : Int) ∧ a0_0 = a0_3) ∧ (l0_7.length : Int) = (l0_2.length : Int) ∧ ∀ i : Nat, i < l0_7.length → ∀ j : Nat, j < (Qao l0_7 (i : Int)).length → Qd5 (Qao l0_7 (i : Int)) a0_1 a0_4 a0_5 j
structure WR (k : Nat) (sa sr : Int) (SB : List S39) (ta tr ts : Int) (TB : List S57) (WB W' : List (List S47)) (q : Int × Int × Int × Int × Int × Int × Int) (x y : Int) : Prop where
 cp : Qah.f k sa sr SB ta tr ts TB WB = some (sa, sr, SB, ta, tr, ts, TB, WB)
 lw : W'.length = WB.length
 lb : WB.length = SB.length
 lp : 0 < SB.length
 mw : ∀ i : Nat, i < WB.length → Qa0.f k ((Qao WB (i : Int)).map (swP x y)) = some (Qao W' (i : Int))
 c1 : checker_Check.f k sa sr (SB.map (swB x y)) ta tr ts TB W' = some q
 c2 : checker_Check.f k sa sr SB ta tr ts TB WB = some q
def Qbe.F (k : Nat) (a0_0 a0_1 : Int) (l0_2 : List S39) (a0_3 a0_4 a0_5 : Int) (l0_6 : List S57) (l0_7 : List (List S47)) (a1 a2 : Int) : Prop := regcerttop_awake.f k = some true ∧ ∃ b, regcertref16_Few.f k a0_0 a0_1 l0_2 a0_3 a0_4 a0_5 l0_6 l0_7 = some b ∧ (b = true → (∃ u1 u2, Qa5.f k a0_0 a0_1 l0_2 = some u1 ∧ u1 ≤ 1000000 ∧ Qa4.f k a0_3 a0_4 a0_5 l0_6 = some u2 ∧ u2 ≤ 1000000 ∧ Bnd a0_1 l0_2 a0_4 a0_5 l0_6 l0_7) ∧ (refOk a0_0 a0_1 l0_2 a0_3 a0_4 a0_5 l0_6 l0_7 → a0_1 ≠ a0_0 → wrap64 (a0_1 - a0_0) ≠ 0 ∧ ∃ W' q, WR k a0_0 a0_1 l0_2 a0_3 a0_4 a0_5 l0_6 l0_7 W' q (wrap64 (a0_0 + Int.tmod (wrap64 a1) (wrap64 (a0_1 - a0_0)))) (wrap64 (a0_0 + Int.tmod (wrap64 a2) (wrap64 (a0_1 - a0_0))))))
def mxl {α : Type} (k : Nat) (A B : List α) : List α := A.take k ++ B.drop k
section
variable {α : Type} {k : Nat} {A B : List α}
theorem mxl_len (h : A.length = B.length) : (mxl k A B).length = B.length := by
 unfold mxl
 rw [List.length_append, List.length_take, List.length_drop]
 omega
theorem mxl_get (h : A.length = B.length) (hk : k < B.length) (z : α) : (mxl k A B).getD k z = B.getD k z := by
 unfold mxl
 rw [List.getD_eq_getElem?_getD, List.getD_eq_getElem?_getD, List.getElem?_append_right (by rw [List.length_take]; omega), List.length_take, List.getElem?_drop]
 congr 2
 omega
theorem mxl_set (h : A.length = B.length) (hk : k < B.length) (z : α) : (mxl k A B).set k (A.getD k z) = mxl (k + 1) A B := by
 unfold mxl
 rw [List.set_append_right _ _ (by rw [List.length_take]; omega), List.length_take, show k - min k A.length = 0 by omega]
 have e1 : B.drop k = B[k] :: B.drop (k + 1) := List.drop_eq_getElem_cons hk
 have e2 : A.take (k + 1) = A.take k ++ [A[k]'(by omega)] := (List.take_append_getElem (by omega)).symm
 rw [e1, e2, List.set_cons_zero, List.getD_eq_getElem?_getD, List.getElem?_eq_getElem (by omega), List.append_assoc]
 rfl
theorem mxl_all (h : A.length = B.length) : mxl B.length A B = A := by
 unfold mxl
 rw [List.drop_length, List.append_nil, List.take_of_length_le (by omega)]
end
theorem set_self {α : Type} (l : List α) (k : Nat) (z : α) : l.set k (l.getD k z) = l := by
 by_cases h : k < l.length
 ·rw [List.getD_eq_getElem?_getD, List.getElem?_eq_getElem h, Option.getD_some, List.set_getElem_self]
 ·exact List.set_eq_of_length_le (by omega)
theorem Qev {α : Type} (l : List α) (k : Nat) (v z : α) (h : k < l.length) : (l.set k v).getD k z = v := by
 rw [List.getD_eq_getElem?_getD, List.getElem?_set_self h]; rfl
theorem map_getD {α β : Type} (f : α → β) (l : List α) (k : Nat) (z : α) (z' : β) (h : k < l.length) : (l.map f).getD k z' = f (l.getD k z) := by
 rw [List.getD_eq_getElem?_getD, List.getD_eq_getElem?_getD, List.getElem?_map, List.getElem?_eq_getElem h]; rfl
theorem mxl_round {α : Type} (A B : List α) (h : A.length = B.length) (k : Nat) (hk : k < B.length) (z : α) : ∃ M, mxl k A B = M ∧ M.length = B.length ∧ M.getD k z = B.getD k z ∧ M.set k (A.getD k z) = mxl (k + 1) A B := ⟨_, rfl, mxl_len h, mxl_get h hk z, mxl_set h hk z⟩
theorem code_read {M : List S39} {x y : Int} {b : S39} {A : List S41} (hx : x.toNat < M.length) (hA : A.length = b.f0.length) (hy : y.toNat < b.f0.length) : Qam (Qag (M.set x.toNat ⟨mxl y.toNat A b.f0, b.f1⟩) x).f0 y = Qam b.f0 y := by
 show ((M.set x.toNat ⟨mxl y.toNat A b.f0, b.f1⟩).getD x.toNat z39).f0.getD y.toNat z41 = b.f0.getD y.toNat z41
 rw [Qev _ _ _ _ hx]
 exact mxl_get hA hy z41
theorem code_step {M : List S39} {x y : Int} {b : S39} {A : List S41} (hx : x.toNat < M.length) (hA : A.length = b.f0.length) (hy0 : 0 ≤ y) (hy : y.toNat < b.f0.length) :
    (M.set x.toNat ⟨mxl y.toNat A b.f0, b.f1⟩).set x.toNat ⟨(Qag (M.set x.toNat ⟨mxl y.toNat A b.f0, b.f1⟩) x).f0.set y.toNat (A.getD y.toNat z41), (Qag (M.set x.toNat ⟨mxl y.toNat A b.f0, b.f1⟩) x).f1⟩ = M.set x.toNat ⟨mxl (y + 1).toNat A b.f0, b.f1⟩ := by
 show (M.set x.toNat ⟨mxl y.toNat A b.f0, b.f1⟩).set x.toNat ⟨((M.set x.toNat ⟨mxl y.toNat A b.f0, b.f1⟩).getD x.toNat z39).f0.set y.toNat (A.getD y.toNat z41), ((M.set x.toNat ⟨mxl y.toNat A b.f0, b.f1⟩).getD x.toNat z39).f1⟩ = _
 rw [Qev _ _ _ _ hx, List.set_set]
 show M.set x.toNat ⟨(mxl y.toNat A b.f0).set y.toNat (A.getD y.toNat z41), b.f1⟩ = _
 rw [mxl_set hA hy, show (y + 1).toNat = y.toNat + 1 by omega]
theorem pair_read {V : List (List S47)} {x y : Int} {l A : List S47} (hx : x.toNat < V.length) (hA : A.length = l.length) (hy : y.toNat < l.length) : Qaa (Qao (V.set x.toNat (mxl y.toNat A l)) x) y = Qaa l y := by
 show ((V.set x.toNat (mxl y.toNat A l)).getD x.toNat []).getD y.toNat z47 = l.getD y.toNat z47
 rw [Qev _ _ _ _ hx]
 exact mxl_get hA hy z47
theorem pair_step {V : List (List S47)} {x y : Int} {l : List S47} {f : Int → Int} (hx : x.toNat < V.length) (hy0 : 0 ≤ y) (hy : y.toNat < l.length) :
    (V.set x.toNat (mxl y.toNat (l.map fun p => ⟨f p.f0, p.f1⟩) l)).set x.toNat ((Qao (V.set x.toNat (mxl y.toNat (l.map fun p => ⟨f p.f0, p.f1⟩) l)) x).set y.toNat ⟨f (Qaa l y).f0, (Qaa (Qao (V.set x.toNat (mxl y.toNat (l.map fun p => ⟨f p.f0, p.f1⟩) l)) x) y).f1⟩) = V.set x.toNat (mxl (y + 1).toNat (l.map fun p => ⟨f p.f0, p.f1⟩) l) := by
 rw [pair_read hx (List.length_map ..) hy]
 show (V.set x.toNat (mxl y.toNat (l.map fun p => ⟨f p.f0, p.f1⟩) l)).set x.toNat (((V.set x.toNat (mxl y.toNat (l.map fun p => ⟨f p.f0, p.f1⟩) l)).getD x.toNat []).set y.toNat ⟨f (l.getD y.toNat z47).f0, (l.getD y.toNat z47).f1⟩) = _
 rw [Qev _ _ _ _ hx, List.set_set, ← map_getD (fun p : S47 => (⟨f p.f0, p.f1⟩ : S47)) l y.toNat z47 z47 hy, mxl_set (List.length_map ..) hy, show (y + 1).toNat = y.toNat + 1 by omega]
theorem term_step {M : List S39} {x X Y : Int} {b : S39} (hx : x.toNat < M.length) (h : b.f1.f0 ≠ 1) :
    (M.set x.toNat ⟨b.f0.map (swI X Y), b.f1⟩).set x.toNat ⟨(Qag (M.set x.toNat ⟨b.f0.map (swI X Y), b.f1⟩) x).f0, ⟨(Qag (M.set x.toNat ⟨b.f0.map (swI X Y), b.f1⟩) x).f1.f0, sw X Y b.f1.f1, (Qag (M.set x.toNat ⟨b.f0.map (swI X Y), b.f1⟩) x).f1.f2, (Qag (M.set x.toNat ⟨b.f0.map (swI X Y), b.f1⟩) x).f1.f3⟩⟩ = M.set x.toNat (swB X Y b) := by
 have e : Qag (M.set x.toNat ⟨b.f0.map (swI X Y), b.f1⟩) x = ⟨b.f0.map (swI X Y), b.f1⟩ := Qev _ _ _ _ hx
 rw [e, List.set_set]
 show _ = M.set x.toNat ⟨b.f0.map (swI X Y), swT X Y b.f1⟩
 unfold swT
 rw [if_neg h]
theorem term_same {M : List S39} {x X Y : Int} {b : S39} (h : b.f1.f0 = 1) : M.set x.toNat ⟨b.f0.map (swI X Y), b.f1⟩ = M.set x.toNat (swB X Y b) := by
 show _ = M.set x.toNat ⟨b.f0.map (swI X Y), swT X Y b.f1⟩
 unfold swT
 rw [if_pos h]
theorem make_c (k : Nat) (A0 : Option Addr) (c0 : Nat) (l : List S47) (f : S47 → S47) (r : List S47) (w : World) (hr0 : Kd.C k47 w A0 l.length (l.map f)) (hc0 : l.length ≤ c0) (h : Qa0.f k (l.map f) = some r) :
    Calls Tryz.prog 13 #[.slice A0 l.length c0] w fun e w' => ∃ v0_ : Value, e = .returned (v0_) ∧ Kd.R k47 47 w' w.heap.size (fun _ => True) v0_ r ∧ Below w.heap.size w w' := by
 have := Qa0.calls k A0 c0 (l.map f) r w
 rw [List.length_map] at this
 exact this hr0 hc0 h
theorem check_c (k : Nat) (a0_0 a0_1 : Int) (A2 : Option Addr) (c2 : Nat) (l2 : List S39) (f : S39 → S39) (a0_3 a0_4 a0_5 : Int) (A6 : Option Addr) (c6 : Nat) (l6 : List S57) (A7 : Option Addr) (c7 : Nat) (l7 W' : List (List S47)) (hw : W'.length = l7.length) (r1 r2 r3 r4 r5 r6 r7 : Int) (w : World) (h2 : Kd.C k39 w A2 l2.length (l2.map f)) (g2 : l2.length ≤ c2) (h6 : Kd.C k57 w A6 l6.length l6) (g6 : l6.length ≤ c6) (h7 : Kd.C (Kd.slice 47 k47) w A7 l7.length W') (g7 : l7.length ≤ c7) (h : checker_Check.f k a0_0 a0_1 (l2.map f) a0_3 a0_4 a0_5 l6 W' = some (r1, r2, r3, r4, r5, r6, r7)) :
    Calls Tryz.prog 14 #[.agg #[.int .i64 a0_0, .int .i64 a0_1, .slice A2 l2.length c2, .int .i64 a0_3, .int .i64 a0_4, .int .i64 a0_5, .slice A6 l6.length c6, .slice A7 l7.length c7]] w fun e w' => e = .returned (.agg #[.int .i64 r1, .int .i64 r2, .int .i64 r3, .int .i64 r4, .int .i64 r5, .int .i64 r6, .int .i64 r7]) ∧ Below w.heap.size w w' := by
 have := checker_Check.calls k a0_0 a0_1 A2 c2 (l2.map f) a0_3 a0_4 a0_5 A6 c6 l6 A7 c7 W' r1 r2 r3 r4 r5 r6 r7 w
 rw [List.length_map, hw] at this
 exact this h2 g2 h6 g6 h7 g7 h
attribute [local go_sem] Qbt Qb0
theorem Qbe.calls (k : Nat) (a0_0 a0_1 : Int) (A0_2 : Option Addr) (c0_2 : Nat) (l0_2 : List (S39)) (a0_3 a0_4 a0_5 : Int) (A0_6 : Option Addr) (c0_6 : Nat) (l0_6 : List (S57)) (A0_7 : Option Addr) (c0_7 : Nat) (l0_7 : List (List (S47))) (a1 a2 : Int) (w : World) (hr0_2 : Kd.C k39 w A0_2 l0_2.length l0_2) (hc0_2 : l0_2.length ≤ c0_2) (hr0_6 : Kd.C k57 w A0_6 l0_6.length l0_6) (hc0_6 : l0_6.length ≤ c0_6) (hr0_7 : Kd.C (Kd.slice 47 k47) w A0_7 l0_7.length l0_7) (hc0_7 : l0_7.length ≤ c0_7) (h : Qbe.F k a0_0 a0_1 l0_2 a0_3 a0_4 a0_5 l0_6 l0_7 a1 a2) :
    Calls Tryz.prog 3 #[.agg #[.int .i64 a0_0, .int .i64 a0_1, .slice A0_2 l0_2.length c0_2, .int .i64 a0_3, .int .i64 a0_4, .int .i64 a0_5, .slice A0_6 l0_6.length c0_6, .slice A0_7 l0_7.length c0_7], .int .u8 a1, .int .u8 a2] w fun e w' => e = .returned (.bool true) ∧ Below w.heap.size w w' := by
 have hu30 := Tryz.underlying30
 have hu24 := Tryz.underlying24
 have hu39 := Tryz.underlying39
 have hu37 := Tryz.underlying37
 have hu22 := Tryz.underlying22
 have hu28 := Tryz.underlying28
 have hu35 := Tryz.underlying35
 have hu44 := Tryz.underlying44
 have hu41 := Tryz.underlying41
 have hu47 := Tryz.underlying47
 have hu51 := Tryz.underlying51
 have R0_2 := As0 hr0_2
 have C0_2 := As0 hc0_2
 have R0_6 := As0 hr0_6
 have C0_6 := As0 hc0_6
 have R0_7 := As0 hr0_7
 have C0_7 := As0 hc0_7
 have HB := As0 (Below.refl w.heap.size w)
 have C5 := As0 h
 clear hr0_2 hc0_2 hr0_6 hc0_6 hr0_7 hc0_7 h
 go_enter Tryz.func3, Tryz.ntmps3
 go_upto_region 1 with (first | ((with_reducible refine gD 3 ?_); refine bX ?_; intro gC hg w6 aC hb; have BK := As0 aC; have GC := As0 (by rw [hg]; exact Qbi (BU HB.out) : w.heap.size ≤ gC); replace HB := sB HB hb; clear hb aC hg))
 (try simp only [Act.put, sL1, sL2, sL3])
 go_cut [36] (fun v36 wc => ∃ b : Bool, v36 = .bool b ∧ Qbf (regcerttop_awake.f k = some true) ∧ Qbf (b = false → (wrap64 (a0_1 - a0_0) ≠ 0 ∧ ∃ W' q, WR k a0_0 a0_1 l0_2 a0_3 a0_4 a0_5 l0_6 l0_7 W' q (wrap64 (a0_0 + Int.tmod (wrap64 a1) (wrap64 (a0_1 - a0_0)))) (wrap64 (a0_0 + Int.tmod (wrap64 a2) (wrap64 (a0_1 - a0_0))))) ∧ l0_2.length ≤ 1000 ∧ l0_7.length ≤ 1000 ∧ (∀ i : Nat, i < l0_2.length → (Qag l0_2 (i : Int)).f0.length ≤ 1000) ∧ ∀ i : Nat, i < l0_7.length → (Qao l0_7 (i : Int)).length ≤ 1000) ∧ Qbf (wc.heap[gC]? = some (.cells #[.int .i64 a0_0, .int .i64 a0_1, .slice A0_2 l0_2.length c0_2, .int .i64 a0_3, .int .i64 a0_4, .int .i64 a0_5, .slice A0_6 l0_6.length c0_6, .slice A0_7 l0_7.length c0_7] 30 (0, 0))) ∧ Qbf (Below w.heap.size w wc))
 case first =>
  obtain ⟨hA, b, hF, hV⟩ := C5.out
  clear C5
  have A7 := As0 hA
  have A9 := As0 hF
  have HV := As0 hV
  clear hA hF hV
  have zz := cN8 BK.out
  obtain ⟨q2, hq2⟩ : ∃ q, (a0_1 == a0_0) = q := ⟨_, rfl⟩
  have HQ2 := As0 hq2
  cases b
  rotate_left
  obtain ⟨⟨u1, u2, e1, e2, e3, e4, hB⟩, hV⟩ := HV.out rfl
  replace e1 := As0 e1
  replace e2 := As0 e2
  replace e3 := As0 e3
  replace e4 := As0 e4
  replace hB := As0 hB
  replace hV := As0 hV
  all_goals clear HV
  all_goals go_wp2_with (first
   | (go_at_call 7; refine (regcerttop_awake.calls k true _ A7.out).mono ?_; rintro e w2 ⟨rfl, hb⟩; clear zz; replace BK := kB BK hb; replace HB := sB HB hb; have zz := cN8 BK.out; clear hb)
   | (go_at_call 8; refine (regcertref16_Few.calls k a0_0 a0_1 A0_2 c0_2 l0_2 a0_3 a0_4 a0_5 A0_6 c0_6 l0_6 A0_7 c0_7 l0_7 _ _ (Kd.C_below R0_2.out (BU HB.out)) C0_2.out (Kd.C_below R0_6.out (BU HB.out)) C0_6.out (Kd.C_below R0_7.out (BU HB.out)) C0_7.out A9.out).mono ?_; rintro e w2 ⟨rfl, hb⟩; clear zz; replace BK := kB BK hb; replace HB := sB HB hb; have zz := cN8 BK.out; clear hb)
   | (go_at_call 9; refine (rvalid_calls k a0_0 a0_1 u1 A0_2 c0_2 l0_2 a0_3 a0_4 a0_5 u2 A0_6 c0_6 l0_6 A0_7 c0_7 l0_7 _ (Kd.C_below R0_2.out (BU HB.out)) C0_2.out (Kd.C_below R0_6.out (BU HB.out)) C0_6.out (Kd.C_below R0_7.out (BU HB.out)) C0_7.out e1.out e2.out e3.out e4.out hB.out).mono ?_; rintro e w2 ⟨⟨x, rfl, hx⟩, hb⟩; have HX := As0 hx; (obtain ⟨q1, hq1⟩ : ∃ q, (x != 0) = q := ⟨_, rfl⟩); clear hx zz; replace BK := kB BK hb; replace HB := sB HB hb; have zz := cN8 BK.out; clear hb))
  all_goals go_meet
  ·exact ⟨true, rfl, A7, ⟨fun h => (by cases h)⟩, ⟨bU BK.out⟩, ⟨BU HB.out⟩⟩
  ·have hx0 : x = 0 := bne_eq_false_iff_eq.1 (hq1.trans (Bool.eq_false_iff.2 ‹¬q1 = true›))
   cases q2 with
   | true => exact ⟨true, rfl, A7, ⟨fun h => (by cases h)⟩, ⟨bU BK.out⟩, ⟨BU HB.out⟩⟩
   | false => exact ⟨false, rfl, A7, ⟨fun _ => ⟨hV.out (HX.out hx0) (beq_eq_false_iff_ne.1 HQ2.out), hB.out.l1, hB.out.l3, hB.out.c1, hB.out.c3⟩⟩, ⟨bU BK.out⟩, ⟨BU HB.out⟩⟩
  ·exact ⟨true, rfl, A7, ⟨fun h => (by cases h)⟩, ⟨bU BK.out⟩, ⟨BU HB.out⟩⟩
 case rest =>
  clear C5
  obtain ⟨b, rfl, A7, HP, BK, HB⟩ := hcut
  cases b with
  | true =>
   have zz := cN8 BK.out
   go_wp2_with (first
    | (go_at_call 7; refine (regcerttop_awake.calls k true _ A7.out).mono ?_; rintro e w2 ⟨rfl, hb⟩; clear zz; replace BK := kB BK hb; replace HB := sB HB hb; have zz := cN8 BK.out; clear hb))
   go_ret
   exact ⟨rfl, BU HB.out⟩
  | false =>
   obtain ⟨⟨hn0, W', q, hwr⟩, b1, b2, b3, b4⟩ := HP.out rfl
   clear HP A7
   obtain ⟨n, hn⟩ : ∃ n, wrap64 (a0_1 - a0_0) = n := ⟨_, rfl⟩
   rw [hn] at hn0 hwr
   obtain ⟨X, hX⟩ : ∃ x, wrap64 (a0_0 + Int.tmod (wrap64 a1) n) = x := ⟨_, rfl⟩
   obtain ⟨Y, hY⟩ : ∃ x, wrap64 (a0_0 + Int.tmod (wrap64 a2) n) = x := ⟨_, rfl⟩
   rw [hX, hY] at hwr
   have hn1 : (n == 0) = false := beq_eq_false_iff_ne.2 hn0
   have WRX := As0 hwr
   replace b1 := As0 b1
   replace b2 := As0 b2
   replace b3 := As0 b3
   replace b4 := As0 b4
   clear hwr
   have zz := cN8 BK.out
   go_wp2
   go_region
   go_wp2
   go_region
   go_upto_region 7 with (first
    | (go_at_call 10; refine (Qah.calls k a0_0 a0_1 A0_2 c0_2 l0_2 a0_3 a0_4 a0_5 A0_6 c0_6 l0_6 A0_7 c0_7 l0_7 a0_0 a0_1 l0_2 a0_3 a0_4 a0_5 l0_6 l0_7 _ (Kd.C_below R0_2.out (BU HB.out)) C0_2.out (Kd.C_below R0_6.out (BU HB.out)) C0_6.out (Kd.C_below R0_7.out (BU HB.out)) C0_7.out WRX.out.cp).mono ?_; rintro e w2 ⟨vS, vT, vW, rfl, hs, ht, hw, hb⟩; (obtain ⟨AS, cS, rfl⟩ := Kd.S_slice hs); (obtain ⟨AT, cT, rfl⟩ := Kd.S_slice ht); (obtain ⟨AW, cW, rfl⟩ := Kd.S_slice hw); have HS := As0 (Kd.S_lower hs (BU HB.out).size); have HT := As0 (Kd.S_lower ht (BU HB.out).size); have HW := As0 (Kd.S_lower hw (BU HB.out).size); clear hs ht hw zz; replace BK := kB BK hb; replace HB := sB HB hb; have zz := cN8 BK.out; clear hb)
    | ((with_reducible refine gD 10 ?_); refine bX ?_; intro gD hg w5 aC hb; have O := As0 aC; have GD := As0 (by rw [hg]; exact Qbi (BU HB.out) : w.heap.size ≤ gD); have NE := As0 (show gC ≠ gD from fun e => by have := Qbs (bU BK.out); omega); replace HS := As0 (Kd.S_below (Kd.S_elderB HS.out gD (by rw [hg]; exact Nat.le_refl _)) hb); replace HT := As0 (Kd.S_below (Kd.S_elderB HT.out gD (by rw [hg]; exact Nat.le_refl _)) hb); replace HW := As0 (Kd.S_below (Kd.S_elderB HW.out gD (by rw [hg]; exact Nat.le_refl _)) hb); clear zz; replace BK := kB BK hb; replace HB := sB HB hb; have zz := cN8 BK.out; clear hb aC hg)
    | ((with_reducible refine Qcb (.store 30 (.tmp 10) (.tmp 62)) rfl ?_); go_loud (refine Qae rfl rfl 30 _ _ rfl gD #[.int .i64 a0_0, .int .i64 a0_1, .slice AS l0_2.length cS, .int .i64 a0_3, .int .i64 a0_4, .int .i64 a0_5, .slice AT l0_6.length cT, .slice AW l0_7.length cW] rfl rfl 30 #[.int .i64 0, .int .i64 0, .slice none 0 0, .int .i64 0, .int .i64 0, .int .i64 0, .slice none 0 0, .slice none 0 0] (bU O.out) (by kernel_rfl) rfl (by kernel_rfl) ?_); intro w6 hg ho hB; have HD := As0 (show Hd w w6 gC gD #[.int .i64 a0_0, .int .i64 a0_1, .slice A0_2 l0_2.length c0_2, .int .i64 a0_3, .int .i64 a0_4, .int .i64 a0_5, .slice A0_6 l0_6.length c0_6, .slice A0_7 l0_7.length c0_7] #[.int .i64 a0_0, .int .i64 a0_1, .slice AS l0_2.length cS, .int .i64 a0_3, .int .i64 a0_4, .int .i64 a0_5, .slice AT l0_6.length cT, .slice AW l0_7.length cW] (.slice AS l0_2.length cS) (.slice AT l0_6.length cT) (.slice AW l0_7.length cW) l0_2 l0_6 l0_7 from ⟨Kd.S_mono (Kd.S_step HS.out (fun j hj _ => ho j hj.2)) (fun _ _ => trivial), Kd.S_mono (Kd.S_step HT.out (fun j hj _ => ho j hj.2)) (fun _ _ => trivial), Kd.S_mono (Kd.S_step HW.out (fun j hj _ => ho j hj.2)) (fun _ _ => trivial), (ho gC NE.out).trans (bU BK.out), hg, hB _ _ GD.out (BU HB.out)⟩); clear HS HT HW BK HB O NE GD GC hg ho hB))
   clear zz
   have lp := WRX.out.lp
   have lb := WRX.out.lb
   have lw := WRX.out.lw
   obtain ⟨gS, _, eS, _⟩ := Kd.S_form HD.out.s lp
   obtain ⟨gW, _, eW, _⟩ := Kd.S_form HD.out.w (by omega)
   have eA : AS = some ⟨gS, 0, none⟩ := by injection eS with e _ _
   have eB : AW = some ⟨gW, 0, none⟩ := by injection eW with e _ _
   clear eS eW
   subst eA
   subst eB
   have LP := As0 lp
   have LB := As0 lb
   have LW := As0 lw
   clear lp lb lw
   go_wp2
   go_loopg [11] (l0_2.length + 1) (fun kq v11 w' => ∃ x : Int, v11 = .int .i64 x ∧ Qbf (0 ≤ x ∧ x ≤ (l0_2.length : Int) ∧ (kq : Int) + x = (l0_2.length : Int) + 1) ∧ Qbf (Hd w w' gC gD #[.int .i64 a0_0, .int .i64 a0_1, .slice A0_2 l0_2.length c0_2, .int .i64 a0_3, .int .i64 a0_4, .int .i64 a0_5, .slice A0_6 l0_6.length c0_6, .slice A0_7 l0_7.length c0_7] #[.int .i64 a0_0, .int .i64 a0_1, .slice (some ⟨gS, 0, none⟩) l0_2.length cS, .int .i64 a0_3, .int .i64 a0_4, .int .i64 a0_5, .slice AT l0_6.length cT, .slice (some ⟨gW, 0, none⟩) l0_7.length cW] (.slice (some ⟨gS, 0, none⟩) l0_2.length cS) (.slice AT l0_6.length cT) (.slice (some ⟨gW, 0, none⟩) l0_7.length cW) (mxl x.toNat (l0_2.map (swB X Y)) l0_2) l0_6 (mxl x.toNat W' l0_7)))
   case atStart => exact ⟨0, rfl, ⟨by omega⟩, ⟨HD.out⟩⟩
   case round =>
    clear HD
    obtain ⟨x, rfl, HI, HD⟩ := hrel
    cases gk with
    | zero => exact absurd HI.out (by omega)
    | succ kq =>
     have hi0 : 0 ≤ x := HI.out.1
     by_cases hlt : x < (l0_2.length : Int)
     rotate_left
     ·have hd0 := decide_eq_false hlt
      have e_ : x.toNat = l0_2.length := by have := HI.out; omega
      have h_ := HD.out
      rw [show mxl x.toNat (l0_2.map (swB X Y)) l0_2 = (l0_2.map (swB X Y)) from by rw [e_]; exact mxl_all (List.length_map ..), show mxl x.toNat W' l0_7 = W' from by rw [e_, ← LB.out]; exact mxl_all LW.out] at h_
      replace HD := As0 h_
      clear h_ e_
      obtain ⟨s1, s2, s3⟩ := Kd.S_reads' HD.out.s
      obtain ⟨t1, t2, t3⟩ := Kd.S_reads' HD.out.t
      obtain ⟨v1, v2, v3⟩ := Kd.S_reads' HD.out.w
      rw [List.length_map] at s3
      rw [LW.out] at v3
      have S2 := As0 s2
      have S3 := As0 s3
      have T2 := As0 t2
      have T3 := As0 t3
      have V2 := As0 v2
      have V3 := As0 v3
      obtain ⟨r1, r2, r3, r4, r5, r6, r7⟩ := q
      clear s1 s2 s3 t1 t2 t3 v1 v2 v3 HI hi0 hlt
      have dd := cN8 HD.out.d
      go_wp2
      clear dd
      refine Qb1 (n := 6) (S := fun w' => w'.heap[gD]? = some (.cells #[.int .i64 a0_0, .int .i64 a0_1, .slice (some ⟨gS, 0, none⟩) l0_2.length cS, .int .i64 a0_3, .int .i64 a0_4, .int .i64 a0_5, .slice AT l0_6.length cT, .slice (some ⟨gW, 0, none⟩) l0_7.length cW] 30 (0, 0)) ∧ w'.heap[gC]? = some (.cells #[.int .i64 a0_0, .int .i64 a0_1, .slice A0_2 l0_2.length c0_2, .int .i64 a0_3, .int .i64 a0_4, .int .i64 a0_5, .slice A0_6 l0_6.length c0_6, .slice A0_7 l0_7.length c0_7] 30 (0, 0))) (ds := []) (bb 6 0) (by kernel_rfl) rfl rfl ⟨HD.out.d, HD.out.c⟩ (fun aA => ?_)
      refine take_ (i := 0) (N := some 150) (v := ?_) (a' := ?_) (bb 6 1) rfl rfl (by kernel_rfl) (fun _ _ _ h => h) (Or.inl ⟨by rfl, ?_⟩) aA ?_ ?_
      rotate_left
      ·rintro w' ⟨s0, s1⟩; have q := cN8 s0; have q' := cN8 s1
       go_simp
       with_reducible rfl
      rotate_left
      ·simp only [Act.put, List.setIfInBounds_toArray, List.set_cons_zero, List.set_cons_succ, Qbo, Qbp]
       rfl
      refine take_ (i := 2) (N := some 152) (v := ?_) (a' := ?_) (bb 6 5) rfl rfl (by kernel_rfl) (fun _ _ _ h => h) (Or.inl ⟨by rfl, ?_⟩) aA ?_ ?_
      rotate_left
      ·rintro w' ⟨s0, s1⟩; have q := cN8 s0; have q' := cN8 s1
       go_simp
       with_reducible rfl
      rotate_left
      ·simp only [Act.put, List.setIfInBounds_toArray, List.set_cons_zero, List.set_cons_succ, Qbo, Qbp]
       rfl
      refine one_ (i := 1) (N := some 151) (bb 6 7) rfl rfl (by kernel_rfl) (by decide) (fun K hK => ?_)
      refine gG Tryz.func14 #[.agg #[.int .i64 a0_0, .int .i64 a0_1, .slice (some ⟨gS, 0, none⟩) l0_2.length cS, .int .i64 a0_3, .int .i64 a0_4, .int .i64 a0_5, .slice AT l0_6.length cT, .slice (some ⟨gW, 0, none⟩) l0_7.length cW]] ?_
      with_reducible refine (check_c k a0_0 a0_1 _ cS l0_2 (swB X Y) a0_3 a0_4 a0_5 AT cT l0_6 _ cW l0_7 W' LW.out r1 r2 r3 r4 r5 r6 r7 _ (Kd.C_drew S3.out) S2.out (Kd.C_drew T3.out) T2.out (Kd.C_drew V3.out) V2.out WRX.out.c1).mono ?_
      rintro e w7 ⟨rfl, hb⟩
      refine ⟨_, rfl, ?_⟩
      replace HD := As0 (Hd.qbelow (Hd.qdrew HD.out) hb)
      clear hb S2 S3 T2 T3 V2 V3
      refine hK.out _ _ ⟨HD.out.d, HD.out.c⟩ (fun aA => ?_)
      clear hK K
      refine Qbz (a' := ?_) ?_ ?_
      rotate_left
      ·show Act.put _ (some 151) _ = _
       simp only [Act.put, List.setIfInBounds_toArray, List.set_cons_zero, List.set_cons_succ, Qbo, Qbp]
       rfl
      refine one_ (i := 3) (N := some 153) (bb 6 15) rfl rfl (by kernel_rfl) (by decide) (fun K hK => ?_)
      refine gG Tryz.func14 #[.agg #[.int .i64 a0_0, .int .i64 a0_1, .slice A0_2 l0_2.length c0_2, .int .i64 a0_3, .int .i64 a0_4, .int .i64 a0_5, .slice A0_6 l0_6.length c0_6, .slice A0_7 l0_7.length c0_7]] ?_
      with_reducible refine (checker_Check.calls k a0_0 a0_1 A0_2 c0_2 l0_2 a0_3 a0_4 a0_5 A0_6 c0_6 l0_6 A0_7 c0_7 l0_7 r1 r2 r3 r4 r5 r6 r7 _ (Kd.C_below R0_2.out HD.out.b) C0_2.out (Kd.C_below R0_6.out HD.out.b) C0_6.out (Kd.C_below R0_7.out HD.out.b) C0_7.out WRX.out.c2).mono ?_
      rintro e w8 ⟨rfl, hb⟩
      refine ⟨_, rfl, ?_⟩
      replace HD := As0 (Hd.qbelow HD.out hb)
      clear hb
      refine hK.out _ _ ⟨HD.out.d, HD.out.c⟩ (fun aA => ?_)
      clear hK K
      refine Qbz (a' := ?_) ?_ ?_
      rotate_left
      ·show Act.put _ (some 153) _ = _
       simp only [Act.put, List.setIfInBounds_toArray, List.set_cons_zero, List.set_cons_succ, Qbo, Qbp]
       rfl
      refine pu 4 154 (bb 6 31) ?_
      refine pu 5 6 (bb 6 63) ?_
      refine Qch (by kernel_rfl) ?_
      go_wp2
      go_ret
      exact ⟨by first | rfl | simp, HD.out.b⟩
     have hx := show x.toNat < l0_2.length by omega
     have hx7 := show x.toNat < l0_7.length by have := LB.out; omega
     have hd0 := decide_eq_true hlt
     obtain ⟨M, hM, hMl, hMb, hMn⟩ := mxl_round (l0_2.map (swB X Y)) l0_2 (List.length_map ..) x.toNat hx z39
     obtain ⟨V, hV, hVl, hVb, hVn⟩ := mxl_round W' l0_7 LW.out x.toNat hx7 []
     rw [map_getD (swB X Y) l0_2 x.toNat z39 z39 hx] at hMn
     obtain ⟨b, hb⟩ : ∃ b, l0_2.getD x.toNat z39 = b := ⟨_, rfl⟩
     obtain ⟨l, hl⟩ : ∃ l, l0_7.getD x.toNat [] = l := ⟨_, rfl⟩
     rw [hb] at hMb hMn
     rw [hl] at hVb
     have hbl : b.f0.length ≤ 1000 := by have h := b3.out x.toNat hx; rw [Int.toNat_of_nonneg hi0] at h; rw [← hb]; exact h
     have hll : l.length ≤ 1000 := by have h := b4.out x.toNat hx7; rw [Int.toNat_of_nonneg hi0] at h; rw [← hl]; exact h
     have hMK : Qa0.f k (l.map (swP X Y)) = some (Qao W' x) := by have h := WRX.out.mw x.toNat hx7; rw [Int.toNat_of_nonneg hi0] at h; rw [← hl]; exact h
     have HD1 := HD.out
     rw [hM, hV] at HD1
     obtain ⟨Ak, ck, k0, k1, k2, kC⟩ := HD1.qblk x hi0 (by omega)
     rw [show Qag M x = b from hMb] at k0 k1 k2
     replace HD := As0 HD1
     have HXM := As0 (show x.toNat < M.length by omega)
     have HXV := As0 (show x.toNat < V.length by omega)
     have HX2 := As0 (show x < (M.length : Int) by omega)
     have HX7 := As0 (show x < (V.length : Int) by omega)
     have HMb := As0 hMb
     have HMn := As0 hMn
     have HVb := As0 hVb
     have HVn := As0 hVn
     have HBL := As0 hbl
     have HLL := As0 hll
     have HMK := As0 hMK
     have KS := As0 k0
     clear hM hV hMl hVl hMb hMn hVb hVn hbl hll hMK HD1 hb hl hx hx7 kC
     have p0 := eq_true hi0
     have q0 := eq_true hlt
     have dd := cN8 HD.out.d
     go_wp2
     go_loopg [13] (b.f0.length + 1) (fun kq v13 w' => ∃ y : Int, v13 = .int .i64 y ∧ Qbf (0 ≤ y ∧ y ≤ (b.f0.length : Int) ∧ (kq : Int) + y = (b.f0.length : Int) + 1) ∧ Qbf (Hd w w' gC gD #[.int .i64 a0_0, .int .i64 a0_1, .slice A0_2 l0_2.length c0_2, .int .i64 a0_3, .int .i64 a0_4, .int .i64 a0_5, .slice A0_6 l0_6.length c0_6, .slice A0_7 l0_7.length c0_7] #[.int .i64 a0_0, .int .i64 a0_1, .slice (some ⟨gS, 0, none⟩) l0_2.length cS, .int .i64 a0_3, .int .i64 a0_4, .int .i64 a0_5, .slice AT l0_6.length cT, .slice (some ⟨gW, 0, none⟩) l0_7.length cW] (.slice (some ⟨gS, 0, none⟩) l0_2.length cS) (.slice AT l0_6.length cT) (.slice (some ⟨gW, 0, none⟩) l0_7.length cW) (M.set x.toNat ⟨mxl y.toNat (b.f0.map (swI X Y)) b.f0, b.f1⟩) l0_6 V) ∧ Qbf (w'.cell? ⟨gS, x.toNat * 5, none⟩ = some (.slice Ak b.f0.length ck)))
     case atStart => exact ⟨0, rfl, ⟨by omega⟩, ⟨by rw [show M.set x.toNat ⟨mxl (0 : Int).toNat (b.f0.map (swI X Y)) b.f0, b.f1⟩ = M from by rw [show (⟨mxl (0 : Int).toNat (b.f0.map (swI X Y)) b.f0, b.f1⟩ : S39) = b from rfl, ← HMb.out]; exact set_self M x.toNat z39]; exact HD.out⟩, ⟨KS.out⟩⟩
     case round =>
      clear HD KS k0 k1 k2 dd
      obtain ⟨y, rfl, HJ, HD, KS⟩ := hrel
      cases gk with
      | zero => exact absurd HJ.out (by omega)
      | succ kj =>
       have hj0 : 0 ≤ y := HJ.out.1
       by_cases hjt : y < (b.f0.length : Int)
       ·have hd1 := decide_eq_true hjt
        have HJN := As0 (show y.toNat < b.f0.length by omega)
        have HWY := As0 (w64i (n := y + 1) (by have := HBL.out; omega) (by have := HBL.out; omega))
        obtain ⟨a1, ea, i0, i1, i2, i3, i4⟩ := HD.out.qins x hi0 (by rw [List.length_set]; exact HX2.out) KS.out y hj0 hjt
        cases ea
        rw [code_read HXM.out (List.length_map ..) HJN.out] at i0 i1 i2 i3 i4
        generalize hii : Qam b.f0 y = ii at i0 i1 i2 i3 i4
        have HII := As0 hii
        clear hii
        have p1 := eq_true hj0
        have q1 := eq_true hjt
        go_wp2_with (first
         | (go_at_call 11; refine (ren_calls ii X Y _).mono ?_; rintro e w7 ⟨rfl, hb⟩; have KT := As0 ((hb.cell (wblt _ KS.out)).trans KS.out); replace KS := KT; clear KT i0 i1 i2 i3 i4; replace HD := As0 (HD.out.qbelow hb); clear hb)
         | ((with_reducible refine Qcb (.store 41 (.tmp 93) (.tmp 92)) rfl ?_); go_loud (refine Hd.qcode rfl rfl _ _ rfl x y (swI X Y ii) rfl rfl (by kernel_rfl) HD.out hi0 (by rw [List.length_set]; exact HX2.out) KS.out hj0 hjt ?_); intro w8 hD hK; replace HD := As0 hD; replace KS := As0 hK; clear hD hK))
        go_roundg kj
        case measure => omega
        case rel => exact ⟨_, rfl, ⟨by (try rw [HWY.out]); have := HJ.out; omega⟩, ⟨by (try rw [HWY.out]); have h_ := code_step (A := b.f0.map (swI X Y)) HXM.out (List.length_map ..) hj0 HJN.out; rw [map_getD (swI X Y) b.f0 y.toNat z41 z41 HJN.out, show b.f0.getD y.toNat z41 = ii from HII.out] at h_; rw [← h_]; exact HD.out⟩, ⟨KS.out⟩⟩
       have hd1 := decide_eq_false hjt
       have h_ := HD.out
       rw [show y.toNat = b.f0.length by have := HJ.out; omega, mxl_all (List.length_map ..)] at h_
       replace HD := As0 h_
       clear h_
       obtain ⟨_, _, _, k1, k2, _⟩ := HD.out.qblk x hi0 (by rw [List.length_set]; exact HX2.out)
       have HRD := As0 (show Qag (M.set x.toNat ⟨b.f0.map (swI X Y), b.f1⟩) x = ⟨b.f0.map (swI X Y), b.f1⟩ from Qev _ _ _ _ HXM.out)
       rw [HRD.out] at k1 k2
       clear KS HJ hj0 hjt
       have dd := cN8 HD.out.d
       obtain ⟨q1, hq1⟩ : ∃ q, (b.f1.f0 != 1) = q := ⟨_, rfl⟩
       go_upto_if 102 with (fail)
       (try simp only [Act.put, sL1, sL2, sL3])
       go_cut [] (fun wc => Qbf (Hd w wc gC gD #[.int .i64 a0_0, .int .i64 a0_1, .slice A0_2 l0_2.length c0_2, .int .i64 a0_3, .int .i64 a0_4, .int .i64 a0_5, .slice A0_6 l0_6.length c0_6, .slice A0_7 l0_7.length c0_7] #[.int .i64 a0_0, .int .i64 a0_1, .slice (some ⟨gS, 0, none⟩) l0_2.length cS, .int .i64 a0_3, .int .i64 a0_4, .int .i64 a0_5, .slice AT l0_6.length cT, .slice (some ⟨gW, 0, none⟩) l0_7.length cW] (.slice (some ⟨gS, 0, none⟩) l0_2.length cS) (.slice AT l0_6.length cT) (.slice (some ⟨gW, 0, none⟩) l0_7.length cW) (M.set x.toNat (swB X Y b)) l0_6 V))
       case first =>
        cases q1 with
        | false =>
         have HQ := As0 hq1
         (first | rw [hq1] | (simp only [Qbo, Qbp]; rw [hq1]) | skip)
         go_wp2
         go_meet
         case rel => exact ⟨by rw [← term_same (bne_eq_false_iff_eq.1 HQ.out)]; exact HD.out⟩
        | true =>
         have HQ := As0 hq1
         (first | rw [hq1] | (simp only [Qbo, Qbp]; rw [hq1]) | skip)
         go_wp2
         refine Qb1 (n := 19) (S := fun w' => w'.cell? ⟨gD, 2, none⟩ = some (.slice (some ⟨gS, 0, none⟩) l0_2.length cS) ∧ w'.cell? ⟨gS, x.toNat * 5 + 2, none⟩ = some (.int .i64 b.f1.f1)) (ds := [18]) (bb 19 0) (by kernel_rfl) rfl rfl ⟨dd.2.2.1, k2⟩ (fun aA => ?_)
         refine pu 0 103 (bb 19 1) ?_
         refine pu 1 104 (bb 19 3) ?_
         refine pu 3 106 (bb 19 11) ?_
         refine pu 4 107 (bb 19 27) ?_
         refine pu 5 108 (bb 19 59) ?_
         refine pu 7 110 (bb 19 187) ?_
         refine pu 12 115 (bb 19 4283) ?_
         refine pu 13 116 (bb 19 12475) ?_
         refine tu aA 2 105 (bb 19 12479) ?_
         refine tu aA 6 109 (bb 19 12543) ?_
         refine pu 8 111 (bb 19 12799) ?_
         refine pu 9 112 (bb 19 13311) ?_
         refine pu 10 113 (bb 19 14335) ?_
         refine tu aA 11 114 (bb 19 16383) ?_
         refine one_ (i := 14) (N := some 117) (bb 19 32767) rfl rfl (by kernel_rfl) (by decide) (fun K hK => ?_)
         refine gG Tryz.func12 #[.int .i64 b.f1.f1, .int .i64 X, .int .i64 Y] ?_
         with_reducible refine (swap_b b.f1.f1 X Y _).mono ?_
         rintro e w7 ⟨rfl, hb⟩
         refine ⟨_, rfl, ?_⟩
         replace HD := As0 (Hd.qbelow (Hd.qdrew HD.out) hb)
         clear hb k1 k2 dd
         obtain ⟨hT, hfr, hce⟩ := Hd.qterm x (sw X Y b.f1.f1) HD.out hi0 (by rw [List.length_set]; exact HX2.out)
         rw [term_step HXM.out (bne_iff_ne.1 HQ.out)] at hT
         rw [HRD.out] at hce
         have HT := As0 hT
         clear hT
         refine hK.out _ _ ⟨(Qbh HD.out.d 2).trans rfl, hce⟩ (fun aA => ?_)
         clear hK K
         refine Qbz (a' := ?_) ?_ ?_
         rotate_left
         ·show Act.put _ (some 117) _ = _
          simp only [Act.put, List.setIfInBounds_toArray, List.set_cons_zero, List.set_cons_succ, Qbo, Qbp]
          rfl
         refine pu 15 118 (bb 19 65535) ?_
         refine pu 16 119 (bb 19 131071) ?_
         refine pu 17 120 (bb 19 262143) ?_
         refine Qc7 (i := 18) (N := none) (bb 19 524287) rfl rfl (by kernel_rfl) (by decide) (fun K hK => ?_)
         refine skip_ (w1 := ?_) (by rfl) rfl ?_ ?_
         rotate_left
         ·go_simp
          rfl
         refine hK.out _ _ ?_
         clear hK K
         refine Qch (by kernel_rfl) ?_
         go_wp2
         go_meet
         case rel => exact ⟨HT.out⟩
       case rest =>
        clear HD hq1 k1 k2 HRD dd
        have HD := hcut
        clear hcut
        obtain ⟨Al, cl, j0, jle, _⟩ := HD.out.qinv x hi0 HX7.out
        rw [show Qao V x = l from HVb.out] at j0 jle
        have JS := As0 j0
        have JL := As0 jle
        clear jle
        have p7 := eq_true (show x < (l0_7.length : Int) by have := LB.out; omega)
        have dd := cN8 HD.out.d
        go_wp2
        go_loopg [15] (l.length + 1) (fun kq v15 w' => ∃ y : Int, v15 = .int .i64 y ∧ Qbf (0 ≤ y ∧ y ≤ (l.length : Int) ∧ (kq : Int) + y = (l.length : Int) + 1) ∧ Qbf (Hd w w' gC gD #[.int .i64 a0_0, .int .i64 a0_1, .slice A0_2 l0_2.length c0_2, .int .i64 a0_3, .int .i64 a0_4, .int .i64 a0_5, .slice A0_6 l0_6.length c0_6, .slice A0_7 l0_7.length c0_7] #[.int .i64 a0_0, .int .i64 a0_1, .slice (some ⟨gS, 0, none⟩) l0_2.length cS, .int .i64 a0_3, .int .i64 a0_4, .int .i64 a0_5, .slice AT l0_6.length cT, .slice (some ⟨gW, 0, none⟩) l0_7.length cW] (.slice (some ⟨gS, 0, none⟩) l0_2.length cS) (.slice AT l0_6.length cT) (.slice (some ⟨gW, 0, none⟩) l0_7.length cW) (M.set x.toNat (swB X Y b)) l0_6 (V.set x.toNat (mxl y.toNat (l.map (swP X Y)) l))) ∧ Qbf (w'.cell? ⟨gW, x.toNat, none⟩ = some (.slice Al l.length cl)))
        case atStart => exact ⟨0, rfl, ⟨by omega⟩, ⟨by rw [show V.set x.toNat (mxl (0 : Int).toNat (l.map (swP X Y)) l) = V from by rw [show mxl (0 : Int).toNat (l.map (swP X Y)) l = l from rfl, ← HVb.out]; exact set_self V x.toNat []]; exact HD.out⟩, ⟨JS.out⟩⟩
        case round =>
         clear HD JS j0 dd
         obtain ⟨y, rfl, HJ, HD, JS⟩ := hrel
         cases gk with
         | zero => exact absurd HJ.out (by omega)
         | succ kj =>
          have hj0 : 0 ≤ y := HJ.out.1
          by_cases hjt : y < (l.length : Int)
          ·have hd1 := decide_eq_true hjt
           have HJN := As0 (show y.toNat < l.length by omega)
           have HWY := As0 (w64i (n := y + 1) (by have := HLL.out; omega) (by have := HLL.out; omega))
           obtain ⟨a1, ea, i0⟩ := HD.out.qprs x hi0 (by rw [List.length_set]; exact HX7.out) JS.out y hj0 hjt
           cases ea
           rw [pair_read HXV.out (List.length_map ..) HJN.out] at i0
           generalize hii : Qaa l y = ii at i0
           have HII := As0 hii
           clear hii
           have p1 := eq_true hj0
           have q1 := eq_true hjt
           go_wp2_with (first
            | (go_at_call 12; refine (swap_b ii.f0 X Y _).mono ?_; rintro e w7 ⟨rfl, hb⟩; have KT := As0 ((hb.cell (wblt _ JS.out)).trans JS.out); replace JS := KT; clear KT i0; replace HD := As0 (HD.out.qbelow hb); clear hb)
            | ((with_reducible refine Qcb (.store 3 (.tmp 143) (.tmp 141)) rfl ?_); go_loud (refine Hd.qpair rfl rfl _ _ rfl x y (sw X Y ii.f0) rfl rfl (by kernel_rfl) HD.out hi0 (by rw [List.length_set]; exact HX7.out) JS.out hj0 hjt ?_); intro w8 hD hK; replace HD := As0 hD; replace JS := As0 hK; clear hD hK))
           go_roundg kj
           case measure => omega
           case rel => exact ⟨_, rfl, ⟨by (try rw [HWY.out]); have := HJ.out; omega⟩, ⟨by (try rw [HWY.out]); have h_ : (V.set x.toNat (mxl y.toNat (l.map (swP X Y)) l)).set x.toNat ((Qao (V.set x.toNat (mxl y.toNat (l.map (swP X Y)) l)) x).set y.toNat ⟨sw X Y (Qaa l y).f0, (Qaa (Qao (V.set x.toNat (mxl y.toNat (l.map (swP X Y)) l)) x) y).f1⟩) = V.set x.toNat (mxl (y + 1).toNat (l.map (swP X Y)) l) := pair_step (f := sw X Y) HXV.out hj0 HJN.out; rw [HII.out] at h_; rw [← h_]; exact HD.out⟩, ⟨JS.out⟩⟩
          have hd1 := decide_eq_false hjt
          have h_ := HD.out
          rw [show y.toNat = l.length by have := HJ.out; omega, mxl_all (List.length_map ..)] at h_
          replace HD := As0 h_
          clear h_
          obtain ⟨A0, c0, j0, _, kC⟩ := HD.out.qinv x hi0 (by rw [List.length_set]; exact HX7.out)
          have HRV := As0 (show Qao (V.set x.toNat (l.map (swP X Y))) x = l.map (swP X Y) from Qev _ _ _ _ HXV.out)
          rw [HRV.out, List.length_map] at j0 kC
          have ej : A0 = Al := by
           have e := Option.some.inj (JS.out.symm.trans j0)
           injection e with e _ _
           exact e.symm
          rw [ej] at kC
          have KC := As0 kC
          clear JS HJ hj0 hjt j0 kC HRV ej
          have dd := cN8 HD.out.d
          go_wp2
          refine Qb1 (n := 7) (S := fun w' => w'.cell? ⟨gD, 7, none⟩ = some (.slice (some ⟨gW, 0, none⟩) l0_7.length cW)) (ds := [6]) (bb 7 0) (by kernel_rfl) rfl rfl (dd.2.2.2.2.2.2.2.1) (fun aA => ?_)
          refine pu 0 144 (bb 7 1) ?_
          refine pu 2 146 (bb 7 5) ?_
          refine pu 3 147 (bb 7 13) ?_
          refine tu aA 1 145 (bb 7 15) ?_
          refine one_ (i := 4) (N := some 148) (bb 7 31) rfl rfl (by kernel_rfl) (by decide) (fun K hK => ?_)
          refine gG Tryz.func13 #[.slice Al l.length cl] ?_
          with_reducible refine (make_c k Al cl l (swP X Y) (Qao W' x) _ (Kd.C_drew KC.out) JL.out HMK.out).mono ?_
          rintro e w7 ⟨v1, rfl, hR, hb⟩
          refine ⟨_, rfl, ?_⟩
          (obtain ⟨A1, c1, rfl⟩ := Kd.R_slice hR)
          obtain ⟨hT, hfr, v0_, hce⟩ := Hd.qrow x (Hd.qdrew HD.out) hb hR hi0 (by rw [List.length_set]; exact HX7.out)
          replace HD := As0 (Hd.qbelow (Hd.qdrew HD.out) hb)
          clear hb hR dd
          have HT := As0 hT
          clear hT
          refine hK.out _ _ ((Qbh HD.out.d 7).trans rfl) (fun aA => ?_)
          clear hK K
          refine Qbz (a' := ?_) ?_ ?_
          rotate_left
          ·show Act.put _ (some 148) _ = _
           simp only [Act.put, List.setIfInBounds_toArray, List.set_cons_zero, List.set_cons_succ, Qbo, Qbp]
           rfl
          refine pu 5 149 (bb 7 63) ?_
          refine Qc7 (i := 6) (N := none) (bb 7 127) rfl rfl (by kernel_rfl) (by decide) (fun K hK => ?_)
          refine skip_ (w1 := ?_) (by rfl) rfl ?_ ?_
          rotate_left
          ·go_simp
           rfl
          refine hK.out _ _ ?_
          clear hK K
          refine Qch (by kernel_rfl) ?_
          have h_ := HT.out
          rw [List.set_set, show Qao W' x = W'.getD x.toNat [] from rfl, HVn.out, HMn.out, ← show (x + 1).toNat = x.toNat + 1 by omega] at h_
          replace HD := As0 h_
          clear h_ HT hfr hce
          have HWX := As0 (w64i (n := x + 1) (by have := b1.out; omega) (by have := b1.out; omega))
          go_wp2
          go_roundg kq
          case measure => omega
          case rel => exact ⟨_, rfl, ⟨by (try rw [HWX.out]); have := HI.out; omega⟩, ⟨by (try rw [HWX.out]); exact HD.out⟩⟩
open Go.Proofs.YtchpkjgibloleaaGreat.Open Go.ChangeShapes
def good41 (x : S41) : Prop := (fun n_ : Int => (Lit.int .i64 n_).wf = true) x.f0 ∧ (fun n_ : Int => (Lit.int .i64 n_).wf = true) x.f1 ∧ (fun n_ : Int => (Lit.int .i64 n_).wf = true) x.f2 ∧ (fun n_ : Int => (Lit.int .i64 n_).wf = true) x.f3 ∧ (fun n_ : Int => (Lit.int .i64 n_).wf = true) x.f4
theorem opens41 : Qeo Tryz.prog 41 k41 good41 := Qce Tryz.underlying41 (by kernel_rfl) (Qbv rfl (by kernel_rfl) (Qb2 Tryz.underlying3) (Qbv rfl (by kernel_rfl) (Qb2 Tryz.underlying3) (Qbv rfl (by kernel_rfl) (Qb2 Tryz.underlying3) (Qbv rfl (by kernel_rfl) (Qb2 Tryz.underlying3) (Qcv rfl (by kernel_rfl) (Qb2 Tryz.underlying2)))))) (fun x : S41 => (x.f0, x.f1, x.f2, x.f3, x.f4)) (fun a => ⟨a.1, a.2.1, a.2.2.1, a.2.2.2.1, a.2.2.2.2⟩) (fun _ => rfl)
def good37 (x : S37) : Prop := (fun n_ : Int => (Lit.int .i64 n_).wf = true) x.f0 ∧ (fun n_ : Int => (Lit.int .i64 n_).wf = true) x.f1 ∧ (fun n_ : Int => (Lit.int .i64 n_).wf = true) x.f2 ∧ (fun n_ : Int => (Lit.int .i64 n_).wf = true) x.f3
theorem opens37 : Qeo Tryz.prog 37 k37 good37 := Qce Tryz.underlying37 (by kernel_rfl) (Qbv rfl (by kernel_rfl) (Qb2 Tryz.underlying3) (Qbv rfl (by kernel_rfl) (Qb2 Tryz.underlying3) (Qbv rfl (by kernel_rfl) (Qb2 Tryz.underlying3) (Qcv rfl (by kernel_rfl) (Qb2 Tryz.underlying3))))) (fun x : S37 => (x.f0, x.f1, x.f2, x.f3)) (fun a => ⟨a.1, a.2.1, a.2.2.1, a.2.2.2⟩) (fun _ => rfl)
def good39 (x : S39) : Prop := (fun xs_ : List S41 => xs_.length ≤ maxLen ∧ ∀ x_ ∈ xs_, good41 x_) x.f0 ∧ good37 x.f1
theorem opens39 : Qeo Tryz.prog 39 k39 good39 := Qce Tryz.underlying39 (by kernel_rfl) (Qbv rfl (by kernel_rfl) (Qc1 Tryz.underlying35 (by kernel_rfl) opens41) (Qcv rfl (by kernel_rfl) opens37)) (fun x : S39 => (x.f0, x.f1)) (fun a => ⟨a.1, a.2⟩) (fun _ => rfl)
def good24 (x : S24) : Prop := (fun n_ : Int => (Lit.int .i64 n_).wf = true) x.f0 ∧ (fun n_ : Int => (Lit.int .i64 n_).wf = true) x.f1 ∧ (fun xs_ : List S39 => xs_.length ≤ maxLen ∧ ∀ x_ ∈ xs_, good39 x_) x.f2
theorem opens24 : Qeo Tryz.prog 24 k24 good24 := Qce Tryz.underlying24 (by kernel_rfl) (Qbv rfl (by kernel_rfl) (Qb2 Tryz.underlying3) (Qbv rfl (by kernel_rfl) (Qb2 Tryz.underlying3) (Qcv rfl (by kernel_rfl) (Qc1 Tryz.underlying22 (by kernel_rfl) opens39)))) (fun x : S24 => (x.f0, x.f1, x.f2)) (fun a => ⟨a.1, a.2.1, a.2.2⟩) (fun _ => rfl)
def good59 (x : S59) : Prop := (fun n_ : Int => (Lit.int .i64 n_).wf = true) x.f0 ∧ (fun n_ : Int => (Lit.int .i64 n_).wf = true) x.f1 ∧ (fun n_ : Int => (Lit.int .i64 n_).wf = true) x.f2 ∧ (fun n_ : Int => (Lit.int .i64 n_).wf = true) x.f3 ∧ (fun n_ : Int => (Lit.int .i64 n_).wf = true) x.f4 ∧ (fun n_ : Int => (Lit.int .i64 n_).wf = true) x.f5 ∧ (fun n_ : Int => (Lit.int .i64 n_).wf = true) x.f6
theorem opens59 : Qeo Tryz.prog 59 k59 good59 := Qce Tryz.underlying59 (by kernel_rfl) (Qbv rfl (by kernel_rfl) (Qb2 Tryz.underlying3) (Qbv rfl (by kernel_rfl) (Qb2 Tryz.underlying3) (Qbv rfl (by kernel_rfl) (Qb2 Tryz.underlying3) (Qbv rfl (by kernel_rfl) (Qb2 Tryz.underlying3) (Qbv rfl (by kernel_rfl) (Qb2 Tryz.underlying2) (Qbv rfl (by kernel_rfl) (Qb2 Tryz.underlying45) (Qcv rfl (by kernel_rfl) (Qb2 Tryz.underlying45)))))))) (fun x : S59 => (x.f0, x.f1, x.f2, x.f3, x.f4, x.f5, x.f6)) (fun a => ⟨a.1, a.2.1, a.2.2.1, a.2.2.2.1, a.2.2.2.2.1, a.2.2.2.2.2.1, a.2.2.2.2.2.2⟩) (fun _ => rfl)
def good57 (x : S57) : Prop := (fun xs_ : List S59 => xs_.length ≤ maxLen ∧ ∀ x_ ∈ xs_, good59 x_) x.f0 ∧ good37 x.f1
theorem opens57 : Qeo Tryz.prog 57 k57 good57 := Qce Tryz.underlying57 (by kernel_rfl) (Qbv rfl (by kernel_rfl) (Qc1 Tryz.underlying54 (by kernel_rfl) opens59) (Qcv rfl (by kernel_rfl) opens37)) (fun x : S57 => (x.f0, x.f1)) (fun a => ⟨a.1, a.2⟩) (fun _ => rfl)
def good27 (x : S27) : Prop := (fun n_ : Int => (Lit.int .i64 n_).wf = true) x.f0 ∧ (fun n_ : Int => (Lit.int .i64 n_).wf = true) x.f1 ∧ (fun n_ : Int => (Lit.int .i64 n_).wf = true) x.f2 ∧ (fun xs_ : List S57 => xs_.length ≤ maxLen ∧ ∀ x_ ∈ xs_, good57 x_) x.f3
theorem opens27 : Qeo Tryz.prog 27 k27 good27 := Qce Tryz.underlying27 (by kernel_rfl) (Qbv rfl (by kernel_rfl) (Qb2 Tryz.underlying3) (Qbv rfl (by kernel_rfl) (Qb2 Tryz.underlying3) (Qbv rfl (by kernel_rfl) (Qb2 Tryz.underlying3) (Qcv rfl (by kernel_rfl) (Qc1 Tryz.underlying25 (by kernel_rfl) opens57))))) (fun x : S27 => (x.f0, x.f1, x.f2, x.f3)) (fun a => ⟨a.1, a.2.1, a.2.2.1, a.2.2.2⟩) (fun _ => rfl)
def good47 (x : S47) : Prop := (fun n_ : Int => (Lit.int .i64 n_).wf = true) x.f0 ∧ (fun n_ : Int => (Lit.int .i64 n_).wf = true) x.f1
theorem opens47 : Qeo Tryz.prog 47 k47 good47 := Qce Tryz.underlying47 (by kernel_rfl) (Qbv rfl (by kernel_rfl) (Qb2 Tryz.underlying3) (Qcv rfl (by kernel_rfl) (Qb2 Tryz.underlying45))) (fun x : S47 => (x.f0, x.f1)) (fun a => ⟨a.1, a.2⟩) (fun _ => rfl)
def good30 (x : S30) : Prop := good24 x.f0 ∧ good27 x.f1 ∧ (fun xs_ : List (List (S47)) => xs_.length ≤ maxLen ∧ ∀ x_ ∈ xs_, (fun xs_ : List S47 => xs_.length ≤ maxLen ∧ ∀ x_ ∈ xs_, good47 x_) x_) x.f2
theorem opens30 : Qeo Tryz.prog 30 k30 good30 := Qce Tryz.underlying30 (by kernel_rfl) (Qbv rfl (by kernel_rfl) opens24 (Qbv rfl (by kernel_rfl) opens27 (Qcv rfl (by kernel_rfl) (Qc1 Tryz.underlying28 (by kernel_rfl) (Qc1 Tryz.underlying44 (by kernel_rfl) opens47))))) (fun x : S30 => (x.f0, x.f1, x.f2)) (fun a => ⟨a.1, a.2.1, a.2.2⟩) (fun _ => rfl)
end Go.Proofs.YtchpkjgibloleaaGreat.Z
namespace Go.Proofs.YtchpkjgibloleaaGreat.wholeRegisters
set_option maxRecDepth 100000
set_option maxHeartbeats 8000000
open Go.ChangeShapes Go.WideShapes Go.ChangeAt Go.RowKit Go.Proofs.YtchpkjgibloleaaGreat.Open Go.Proofs.YtchpkjgibloleaaGreat.Z Go.Proofs.YtchpkjgibloleaaGreatW.PrintWords
theorem own : ownKnob Tryz.prog.godebug = none := by kernel_rfl
theorem laidOut : laidOutB Tryz.prog = true := by kernel_rfl
theorem lifted (PURE : ∀ (x0 : S30) (a1 : Int) (a2 : Int), good30 x0 → (fun n_ : Int => (Lit.int .u8 n_).wf = true) a1 → (fun n_ : Int => (Lit.int .u8 n_).wf = true) a2 → ∃ k, Qbe.F k x0.f0.f0 x0.f0.f1 x0.f0.f2 x0.f1.f0 x0.f1.f1 x0.f1.f2 x0.f1.f3 x0.f2 a1 a2) (os : Os) (started : os.Started) (H : Type) (enc : TypeId × Value → H) :
    ReturnsInHanded {} Tryz.checked os 3 .any (Rows.wholeRegistersSpec.pre6 enc Tryz.prog Tryz.f3 Rows.wholeRegistersRow.domain false) (Rows.wholeRegistersSpec.post enc Tryz.prog Tryz.f3 false true false false) := by
 refine returnsInHanded_of_change_sized (C := Tryz.checked) own started (by kernel_rfl) Tryz.func3
  (ChangeSpec.witness6 (enc := enc) (C := Tryz.checked) false ⟨#[], #[(.agg #[(.int .i64 0), (.int .i64 0), (.slice none 0 0), (.int .i64 0), (.int .i64 0), (.int .i64 0), (.slice none 0 0), (.slice none 0 0)]), (.int .u8 0), (.int .u8 0)], []⟩ 8 (by kernel_rfl) (by kernel_rfl) (by kernel_rfl) (by kernel_rfl)) ?_
 intro W base args ds gs before hval0 hW hcnd hsz0 _
 have hval : ∀ (j : Nat) t v, Tryz.f3.params[j]? = some t → args[j]? = some v → Value.okWide Tryz.prog W .any base t v := hval0
 have hW' := hW
 obtain ⟨p, q, hA0, hV, rfl, hfz, hnd⟩ := hW
 have hA : DataW.TrodAll enc Tryz.prog W 0 (fun _ => true) true Tryz.f3.params.toList args.toList ds p := hA0
 rw [Tryz.params3] at hA hval
 obtain ⟨v0, vs0, d0, ds0, p0, q0, hargs, rfl, rfl, h0, r0⟩ := trodAll_cons hA
 obtain ⟨v1, vs1, d1, ds1, p1, q1, rfl, rfl, rfl, h1, r1⟩ := trodAll_cons r0
 obtain ⟨v2, vs2, d2, ds2, p2, q2, rfl, rfl, rfl, h2, r2⟩ := trodAll_cons r1
 obtain ⟨rfl, rfl, rfl⟩ := trodAll_nil r2
 obtain rfl : args = #[v0, v1, v2] := by cases args; simp_all
 obtain ⟨rfl, rfl⟩ := trodVars_none hV
 have k0 := h0
 have lt0 : ∀ x ∈ p0, x.block < W.heap.size := by obtain ⟨m, hm⟩ := k0; exact DataW.trod_lt m _ _ _ hm
 obtain ⟨cs0, x0, rfl, hk0, g0⟩ := arg_struct Tryz.underlying30 opens30 (hval 0 30 v0 rfl rfl) h0
 obtain ⟨A0_2, c0_2, A0_6, c0_6, A0_7, c0_7, rfl, hl0_2, hC0_2, hl0_6, hC0_6, hl0_7, hC0_7⟩ := k30_open hk0
 have k1 := h1
 have lt1 : ∀ x ∈ p1, x.block < W.heap.size := by obtain ⟨m, hm⟩ := k1; exact DataW.trod_lt m _ _ _ hm
 obtain ⟨a1, rfl, rfl, rfl, g1⟩ := open_int Tryz.underlying5 (hval 1 5 v1 rfl rfl) h1
 have k2 := h2
 have lt2 : ∀ x ∈ p2, x.block < W.heap.size := by obtain ⟨m, hm⟩ := k2; exact DataW.trod_lt m _ _ _ hm
 obtain ⟨a2, rfl, rfl, rfl, g2⟩ := open_int Tryz.underlying5 (hval 2 5 v2 rfl rfl) h2
 clear hA0 hval0 hsz0
 obtain ⟨k, hf⟩ := PURE x0 a1 a2 g0 g1 g2
 refine (Qbe.calls k (x0.f0.f0) (x0.f0.f1) A0_2 c0_2 (x0.f0.f2) (x0.f1.f0) (x0.f1.f1) (x0.f1.f2) A0_6 c0_6 (x0.f1.f3) A0_7 c0_7 (x0.f2) a1 a2 W hC0_2 hl0_2 hC0_6 hl0_6 hC0_7 hl0_7 hf).mono fun e W' ⟨he, bel0⟩ => ?_
 have bel := bel0
 subst he
 exact ⟨_, rfl, _, _, _, [], _, [], hW', trodAll_mk1 (shut_bool Tryz.underlying4 _), (trodAll_cons_mk (Below.trod laidOut (by kernel_rfl) (of_decide_eq_true (by kernel_rfl)) k0 bel lt0) (trodAll_cons_mk (Below.trod laidOut (by kernel_rfl) (of_decide_eq_true (by kernel_rfl)) k1 bel lt1) (trodAll_cons_mk (Below.trod laidOut (by kernel_rfl) (of_decide_eq_true (by kernel_rfl)) k2 bel lt2) trodAll_mk0))), rfl, bel.frame _, fun h => by cases h⟩
theorem over (PURE : ∀ (x0 : S30) (a1 : Int) (a2 : Int), good30 x0 → (fun n_ : Int => (Lit.int .u8 n_).wf = true) a1 → (fun n_ : Int => (Lit.int .u8 n_).wf = true) a2 → ∃ k, Qbe.F k x0.f0.f0 x0.f0.f1 x0.f0.f2 x0.f1.f0 x0.f1.f1 x0.f1.f2 x0.f1.f3 x0.f2 a1 a2) : Rows.wholeRegistersRow.holds Tryz.pinned (OpenSpec.ofChange Rows.wholeRegistersSpec) :=
 OpenClaim.holds_of_wide 3 Tryz.f3 rfl rfl rfl rfl rfl rfl rfl ⟨rfl, rfl, rfl, rfl, rfl⟩ rfl rfl rfl rfl rfl (by kernel_rfl) Tryz.func3 (by kernel_rfl)
  (of_decide_eq_true (by kernel_rfl)) (by unfold Func.isWrapper; first | (rw [if_pos (by decide +kernel)]; kernel_rfl) | (rw [if_neg (by decide +kernel)]; exact ⟨rfl, rfl⟩))
  (fun os started H enc _ => lifted PURE os started H enc)
end Go.Proofs.YtchpkjgibloleaaGreat.wholeRegisters
namespace Go.Proofs.YtchpkjgibloleaaGreat.Z
set_option maxRecDepth 100000
set_option maxHeartbeats 8000000
open Go.RowKit Go.Proofs.YtchpkjgibloleaaGreatW.PrintWords Go.Proofs.YtchpkjgibloleaaGreatW.PrintLast Go.Proofs.YtchpkjgibloleaaGreatW.PrintMore
def InR (l : List S47) : Prop := ∀ y ∈ l, (0 ≤ y.f0 ∧ y.f0 < 1000) ∧ 0 ≤ y.f1 ∧ y.f1 < 1000
structure Rr (nl : Int) (s t : Bs) : Prop where
 gs : Goo s
 gt : Goo t
 sub : ∀ y ∈ s.set, y ∈ t.set
 old : ∀ y ∈ s.set, y.f1 ≠ nl
 inr : InR t.set
theorem Qd9 {s : Bs} (h : Goo s) : s.set.length ≤ 10000000 := by have := h.2.1; omega
theorem then_inv {f : Nat → OBs} {K : Nat → Bs → OBs} {s2 : Bs} (hf : ∃ x, Ev f x) (h : Ev (fun k => (f k).then (K k)) (s2, none)) : ∃ s1, Ev f (s1, none) ∧ Ev (fun k => K k s1) (s2, none) := by
 obtain ⟨⟨s1, q⟩, hx⟩ := hf
 cases q with
 | none =>
  refine ⟨s1, hx, ?_⟩
  obtain ⟨K1, hx⟩ := hx
  obtain ⟨K2, h⟩ := h
  exact ⟨K1 + K2, fun n hn => by have h1 := h n (by omega); simp only [hx n (by omega)] at h1; exact h1⟩
 | some q =>
  have : Ev (fun k => (f k).then (K k)) (s1, some q) := by
   obtain ⟨K1, hx⟩ := hx
   exact ⟨K1, fun n hn => by show OBs.then (f n) (K n) = _; rw [hx n hn]; rfl⟩
  have e := Ev.det h this
  cases (Prod.mk.inj e).2
theorem Rr.cost {nl : Int} {s t : Bs} (h : Rr nl s t) : Rr nl s.cost t.cost := ⟨h.gs, h.gt, h.sub, h.old, h.inr⟩
theorem run_eq (k : Nat) (bc : List S41) (mc : List S59) (bt mt : S37) (rows : List S180) (h : ∀ r ∈ rows, okAr bc.length mc.length r) (s : Bs) : runF k bc mc bt mt rows s = runE k (rows.flatMap (rowE bc mc)) s fun s1 => endF k bt mt (mc.length : Int) s1 := rows_eq k bc mc _ rows h s
theorem sw_sw (x y n : Int) : sw x y (sw x y n) = n := by
 unfold sw
 by_cases h1 : n = x
 ·rw [if_pos h1]
  by_cases h2 : y = x
  ·rw [if_pos h2]; omega
  ·rw [if_neg h2, if_pos rfl]; exact h1.symm
 ·rw [if_neg h1]
  by_cases h2 : n = y
  ·rw [if_pos h2, if_pos rfl]; exact h2.symm
  ·rw [if_neg h2, if_neg h1, if_neg h2]
theorem sw_iff {x y n d : Int} : sw x y n = d ↔ n = sw x y d := ⟨fun h => by rw [← h, sw_sw], fun h => by rw [h, sw_sw]⟩
theorem Qdw (x y : Int) (p : S47) : swP x y (swP x y p) = p := by
 show (⟨sw x y (sw x y p.f0), p.f1⟩ : S47) = p
 rw [sw_sw]
def Mem (x y : Int) (l l' : List S47) : Prop := ∀ p, p ∈ l' ↔ swP x y p ∈ l
theorem less_irr (p : S47) : Qb7 p p = false := by simp [Qb7, Qd6]
theorem asc_nd {l : List S47} (h : Asc l) : l.Nodup := h.imp fun h e => by subst e; rw [less_irr] at h; cases h
theorem len_le : ∀ (l l' : List S47), l.Nodup → (∀ p ∈ l, p ∈ l') → l.length ≤ l'.length
 | [], l', _, _ => Nat.zero_le _
 | a :: t, l', hn, hs => by
  obtain ⟨s, u, rfl⟩ := List.append_of_mem (hs a (by simp))
  have hn' := List.nodup_cons.1 hn
  have := len_le t (s ++ u) hn'.2 (fun p hp => by
   rcases List.mem_append.1 (hs p (List.mem_cons_of_mem _ hp)) with h | h
   ·exact List.mem_append.2 (Or.inl h)
   ·rcases List.mem_cons.1 h with h | h
    ·subst h; exact absurd hp hn'.1
    ·exact List.mem_append.2 (Or.inr h))
  simp only [List.length_append, List.length_cons] at this ⊢
  omega
theorem nd_map {x y : Int} {l : List S47} (h : l.Nodup) : (l.map (swP x y)).Nodup := List.pairwise_map.2 (h.imp fun h e => h (by have := congrArg (swP x y) e; rwa [Qdw, Qdw] at this))
theorem mem_len {x y : Int} {l l' : List S47} (hA : Asc l) (hA' : Asc l') (h : Mem x y l l') : l.length = l'.length := by
 have h1 := len_le (l.map (swP x y)) l' (nd_map (asc_nd hA)) (fun p hp => by
  obtain ⟨q, hq, rfl⟩ := List.mem_map.1 hp
  rw [h, Qdw]; exact hq)
 have h2 := len_le (l'.map (swP x y)) l (nd_map (asc_nd hA')) (fun p hp => by
  obtain ⟨q, hq, rfl⟩ := List.mem_map.1 hp
  exact (h q).1 hq)
 rw [List.length_map] at h1 h2
 omega
structure Rn (x y : Int) (s t : Bs) : Prop where
 gs : Goo s
 gt : Goo t
 mem : Mem x y s.set t.set
 most : s.most = t.most
 steps : s.steps = t.steps
 big : s.largest = t.largest
theorem Rn.len {x y : Int} {s t : Bs} (h : Rn x y s t) : s.set.length = t.set.length := mem_len h.gs.1 h.gt.1 h.mem
def RelN (x y : Int) (f g : Nat → OBs) : Prop := ∃ p p', Ev f p ∧ Ev g p' ∧ p.1.steps = p'.1.steps ∧ p.1.largest = p'.1.largest ∧ p.2 = p'.2 ∧ (p.2 = none → Rn x y p.1 p'.1) ∧ ∀ q, p.2 = some q → q.1 ≠ 0
theorem RelN.then {x y : Int} {f g : Nat → OBs} {K L : Nat → Bs → OBs} (h : RelN x y f g) (hk : ∀ s t, Rn x y s t → RelN x y (fun k => K k s) (fun k => L k t)) : RelN x y (fun k => (f k).then (K k)) (fun k => (g k).then (L k)) := by
 obtain ⟨⟨s, q⟩, ⟨t, q'⟩, e1, e2, h1, h2, h3, h4, h6⟩ := h
 obtain rfl : q = q' := h3
 cases q with
 | none =>
  obtain ⟨p, p', e3, e4, h5⟩ := hk s t (h4 rfl)
  exact ⟨p, p', Ev.then e1 e3, Ev.then e2 e4, h5⟩
 | some q => exact ⟨(s, some q), (t, some q), Ev.then e1 (Ev.val rfl), Ev.then e2 (Ev.val rfl), h1, h2, rfl, fun h => (by cases h), h6⟩
theorem rn_of {x y : Int} {s t : Bs} (h : Rn x y s t) : RelN x y (fun _ => some (s, none)) (fun _ => some (t, none)) := ⟨_, _, Ev.val rfl, Ev.val rfl, h.steps, h.big, rfl, fun _ => h, fun q h => by cases h⟩
theorem rn_steps {x y : Int} {s t : Bs} (h : Rn x y s t) : stepsOf s = stepsOf t := by unfold stepsOf; rw [h.steps, h.len]
theorem rn_cost {x y : Int} {s t : Bs} (h : Rn x y s t) : Rn x y s.cost t.cost := ⟨h.gs, h.gt, h.mem, h.most, rn_steps h, h.big⟩
theorem rn_become {x y : Int} {s t : Bs} (h : Rn x y s t) {l l' : List S47} (hA : Asc l) (hA' : Asc l') (hm : Mem x y l l') (i : Int) : RelN x y (fun _ => some (Qcs s.cost l i)) (fun _ => some (Qcs t.cost l' i)) := by
 have hl := mem_len hA hA' hm
 refine ⟨_, _, Ev.val rfl, Ev.val rfl, rn_steps h, ?_, ?_, fun hn => ?_, fun q hq => ?_⟩
 ·show max s.largest (l.length : Int) = max t.largest (l'.length : Int)
  rw [h.big, hl]
 ·show (if (l.length : Int) > s.most then some ((24 : Int), i) else none) = if (l'.length : Int) > t.most then some (24, i) else none
  rw [h.most, hl]
 ·have hc : ¬ (l.length : Int) > s.most := fun hc => by
    have : (Qcs s.cost l i).2 = some ((24 : Int), i) := if_pos hc
    rw [this] at hn; cases hn
  have h1 : s.most = 1048576 := h.gs.2.2
  have h2 : t.most = 1048576 := h.gt.2.2
  exact ⟨⟨hA, by show l.length ≤ _; omega, h1⟩, ⟨hA', by show l'.length ≤ _; omega, h2⟩, hm, h.most, rn_steps h, by show max s.largest (l.length : Int) = max t.largest (l'.length : Int); rw [h.big, hl]⟩
 ·by_cases hc : (l.length : Int) > s.most
  ·have : (Qcs s.cost l i).2 = some ((24 : Int), i) := if_pos hc
   rw [this] at hq; cases hq; show (24 : Int) ≠ 0; decide
  ·have : (Qcs s.cost l i).2 = none := if_neg hc
   rw [this] at hq; cases hq
theorem rn_use {x y : Int} {s t : Bs} (h : Rn x y s t) (v r i : Int) : RelN x y (fun k => useF k s v r i) (fun k => useF k t (sw x y v) r i) := by
 obtain ⟨b, hb, hq⟩ := has_spec s.set ⟨v, wrap64 (2 * r)⟩ (by have := Qd9 h.gs; omega) h.gs.1
 obtain ⟨b', hb', hq'⟩ := has_spec t.set ⟨sw x y v, wrap64 (2 * r)⟩ (by have := Qd9 h.gt; omega) h.gt.1
 have e : b = b' := by
  rw [h.mem] at hq'
  have e2 : swP x y ⟨sw x y v, wrap64 (2 * r)⟩ = ⟨v, wrap64 (2 * r)⟩ := by unfold swP; rw [sw_sw]
  rw [e2, ← hq] at hq'
  cases b <;> cases b' <;> simp_all
 subst e
 unfold useF
 exact ⟨_, _, Ev.then hb (Ev.val rfl), Ev.then hb' (Ev.val rfl), rn_steps h, h.big, rfl, fun _ => rn_cost h, fun q hq => by cases b <;> simp at hq; rw [← hq]; show (21 : Int) ≠ 0; decide⟩
theorem rn_copy {x y : Int} {s t : Bs} (h : Rn x y s t) (d a i : Int) : RelN x y (fun k => copyF k s d a i) (fun k => copyF k t (sw x y d) (sw x y a) i) := by
 obtain ⟨r, er, hA, _, hm⟩ := copyS_spec s.set d a (Qd9 h.gs) h.gs.1
 obtain ⟨r', er', hA', _, hm'⟩ := copyS_spec t.set (sw x y d) (sw x y a) (Qd9 h.gt) h.gt.1
 obtain ⟨p, p', e1, e2, h3⟩ := rn_become h hA hA' (fun q => by
  rw [hm', hm, h.mem, h.mem]
  have e1 : swP x y ⟨sw x y a, q.f1⟩ = ⟨a, q.f1⟩ := by unfold swP; rw [sw_sw]
  rw [e1]
  show (swP x y q ∈ s.set ∧ q.f0 ≠ sw x y d) ∨ (q.f0 = sw x y d ∧ _) ↔ (swP x y q ∈ s.set ∧ sw x y q.f0 ≠ d) ∨ (sw x y q.f0 = d ∧ _)
  rw [Ne, Ne, sw_iff]; exact Iff.rfl) i
 unfold copyF
 exact ⟨p, p', Ev.then er e1, Ev.then er' e2, h3⟩
theorem rn_move {x y : Int} {s t : Bs} (h : Rn x y s t) (d a i : Int) : RelN x y (fun k => moveF k s d a i) (fun k => moveF k t d a i) := by
 obtain ⟨r, er, hA, _, hm⟩ := moveS_spec s.set d a (Qd9 h.gs) h.gs.1
 obtain ⟨r', er', hA', _, hm'⟩ := moveS_spec t.set d a (Qd9 h.gt) h.gt.1
 obtain ⟨p, p', e1, e2, h3⟩ := rn_become h hA hA' (fun q => by
  rw [hm', hm, h.mem, h.mem]
  exact Iff.rfl) i
 unfold moveF
 exact ⟨p, p', Ev.then er e1, Ev.then er' e2, h3⟩
theorem rn_instrD {x y : Int} {s t : Bs} (h : Rn x y s t) (d : Bool) (iD jD mD i : Int) (hd : d = true → jD = sw x y iD) : RelN x y (fun k => instrD k s d iD mD i) (fun k => instrD k t d jD mD i) := by
 unfold instrD
 cases d with
 | false => exact rn_of h
 | true =>
  obtain rfl := hd rfl
  obtain ⟨r, er, hA, _, hm⟩ := define_spec s.set iD (wrap64 (2 * mD)) (Qd9 h.gs) h.gs.1
  obtain ⟨r', er', hA', _, hm'⟩ := define_spec t.set (sw x y iD) (wrap64 (2 * mD)) (Qd9 h.gt) h.gt.1
  obtain ⟨p, p', e1, e2, h3⟩ := rn_become h hA hA' (fun q => by
   rw [hm', hm, h.mem]
   have e1 : q = ⟨sw x y iD, wrap64 (2 * mD)⟩ ↔ swP x y q = ⟨iD, wrap64 (2 * mD)⟩ := ⟨fun e => by rw [e]; unfold swP; rw [sw_sw], fun e => by rw [← Qdw x y q, e]; rfl⟩
   rw [e1]
   show _ ∨ (swP x y q ∈ s.set ∧ q.f0 ≠ sw x y iD ∧ _) ↔ _ ∨ (swP x y q ∈ s.set ∧ sw x y q.f0 ≠ iD ∧ _)
   have e2 : (q.f0 ≠ sw x y iD) ↔ (sw x y q.f0 ≠ iD) := not_congr sw_iff.symm
   rw [e2]; exact Iff.rfl) i
  exact ⟨p, p', Ev.pos (c := true = true) rfl (Ev.then er e1), Ev.pos (c := true = true) rfl (Ev.then er' e2), h3⟩
theorem rn_instrB {x y : Int} {s t : Bs} (h : Rn x y s t) (d b : Bool) (iD jD iB jB mD mB i : Int) (hd : d = true → jD = sw x y iD) (hb : b = true → jB = sw x y iB) : RelN x y (fun k => instrB k s d b iD iB mD mB i) (fun k => instrB k t d b jD jB mD mB i) := by
 unfold instrB
 cases b with
 | false => exact rn_instrD h d iD jD mD i hd
 | true =>
  obtain rfl := hb rfl
  exact (rn_use h iB mB i).then fun s1 t1 h1 => rn_instrD h1 d iD jD mD i hd
theorem of_flags (a : Int) : ((OF a).1 = true → a ≠ 17) ∧ ((OF a).2.1 = true → a ≠ 1) ∧ ((OF a).2.2.1 = true → 5 ≤ a ∧ a ≤ 16) := by
 unfold OF opcode_Of.f Qba.f
 by_cases h1 : a ≥ 1
 ·rw [if_pos h1]
  simp only [Option.bind_some]
  by_cases h2 : a ≤ 18
  ·rw [if_pos (decide_eq_true h2)]
   by_cases e1 : a = 1
   ·rw [if_pos e1]; exact ⟨fun _ => by omega, fun h => (by cases h), fun h => (by cases h)⟩
   ·rw [if_neg e1]
    by_cases e2 : a ≤ 4
    ·rw [if_pos e2]; exact ⟨fun _ => by omega, fun _ => e1, fun h => (by cases h)⟩
    ·rw [if_neg e2]
     by_cases e3 : a ≤ 16
     ·rw [if_pos e3]; exact ⟨fun _ => by omega, fun _ => e1, fun _ => by omega⟩
     ·rw [if_neg e3]; exact ⟨fun h => (by cases h), fun _ => e1, fun h => (by cases h)⟩
  ·rw [if_neg (by simp; omega)]; exact ⟨fun h => (by cases h), fun h => (by cases h), fun h => (by cases h)⟩
 ·rw [if_neg h1]; exact ⟨fun h => (by cases h), fun h => (by cases h), fun h => (by cases h)⟩
theorem rn_instr {x y : Int} {s t : Bs} (h : Rn x y s t) (i : S41) (m : S59) (p : Int) : RelN x y (fun k => instrF k s i m p) (fun k => instrF k t (swI x y i) m p) := by
 obtain ⟨f1, f2, f3⟩ := of_flags i.f0
 have hD : (OF i.f0).1 = true → (swI x y i).f1 = sw x y i.f1 := fun h => if_neg (f1 h)
 have hA : (OF i.f0).2.1 = true → (swI x y i).f2 = sw x y i.f2 := fun h => if_neg (f2 h)
 have hB : (OF i.f0).2.2.1 = true → (swI x y i).f3 = sw x y i.f3 := fun h => if_pos (f3 h)
 have e0 : (swI x y i).f0 = i.f0 := rfl
 unfold instrF instrA
 rw [e0, of_some]
 simp only [Option.bind_some]
 generalize (OF i.f0).2.1 = A at hA ⊢
 cases A with
 | false => exact rn_instrB h _ _ _ _ _ _ _ _ p hD hB
 | true =>
  rw [hA rfl]
  exact (rn_use h _ _ p).then fun s1 t1 h1 => rn_instrB h1 _ _ _ _ _ _ _ _ p hD hB
def swE (x y : Int) : Evt → Evt
 | .cp d a => .cp (sw x y d) (sw x y a)
 | .mv d a => .mv d a
 | .ins i m => .ins (swI x y i) m
theorem rn_ev {x y : Int} {s t : Bs} (h : Rn x y s t) (e : Evt) (p : Int) : RelN x y (fun k => evF k e p s) (fun k => evF k (swE x y e) p t) := by
 cases e with
 | cp d a => exact rn_copy h d a p
 | mv d a => exact rn_move h d a p
 | ins i m => exact rn_instr h i m p
theorem rn_end {x y : Int} {s t : Bs} (h : Rn x y s t) (bt mt : S37) (n : Int) : RelN x y (fun k => endF k bt mt n s) (fun k => endF k (swT x y bt) mt n t) := by
 unfold endF swT
 by_cases h1 : bt.f0 = 1
 ·simp only [if_pos h1]; exact rn_of h
 ·simp only [if_neg h1]; exact rn_use h _ _ _
theorem rn_run {x y : Int} (K L : Nat → Bs → OBs) (hK : ∀ s t, Rn x y s t → RelN x y (fun k => K k s) (fun k => L k t)) : ∀ (E : List (Evt × Int)) (s t : Bs), Rn x y s t → RelN x y (fun k => runE k E s (K k)) (fun k => runE k (E.map fun e => (swE x y e.1, e.2)) t (L k))
 | [], s, t, h => hK s t h
 | a :: E, s, t, h => RelN.then (f := fun k => evF k a.1 a.2 s) (g := fun k => evF k (swE x y a.1) a.2 t) (rn_ev h a.1 a.2) fun s1 t1 h1 => rn_run K L hK E s1 t1 h1
theorem isC_sw (x y : Int) (i : S41) : isC (swI x y i) = isC i := rfl
theorem tw_map {α β : Type} (f : α → β) (p : α → Bool) (q : β → Bool) (h : ∀ a, q (f a) = p a) : ∀ l : List α, (l.map f).takeWhile q = (l.takeWhile p).map f ∧ (l.map f).dropWhile q = (l.dropWhile p).map f
 | [] => ⟨rfl, rfl⟩
 | a :: l => by
  obtain ⟨h1, h2⟩ := tw_map f p q h l
  cases hp : p a with
  | true => simp [List.takeWhile_cons, List.dropWhile_cons, h, hp, h1, h2]
  | false => simp [List.takeWhile_cons, List.dropWhile_cons, h, hp]
theorem tw_all {α : Type} (p : α → Bool) : ∀ l : List α, ∀ a ∈ l.takeWhile p, p a = true
 | [], a, h => by cases h
 | b :: l, a, h => by
  cases hp : p b with
  | true =>
   rw [List.takeWhile_cons, hp] at h
   rcases List.mem_cons.1 h with e | e
   ·rw [e]; exact hp
   ·exact tw_all p l a e
  | false => rw [List.takeWhile_cons, hp] at h; cases h
theorem evs_sw (x y : Int) : ∀ n (bc : List S41) (mc : List S59), evs n (bc.map (swI x y)) mc = (evs n bc mc).map (swE x y)
 | 0, bc, mc => rfl
 | n + 1, bc, mc => by
  obtain ⟨h1, h2⟩ := tw_map (swI x y) isC isC (isC_sw x y) bc
  have h3 : ((bc.takeWhile isC).map (swI x y)).map cpE = ((bc.takeWhile isC).map cpE).map (swE x y) := by
   rw [List.map_map, List.map_map]
   refine List.map_congr_left fun i hi => ?_
   have h2 : i.f0 = 2 := beq_iff_eq.1 (tw_all isC bc i hi)
   show Evt.cp (swI x y i).f1 (swI x y i).f2 = Evt.cp (sw x y i.f1) (sw x y i.f2)
   unfold swI
   rw [if_neg (by omega), if_neg (by omega)]
  have h4 : (mc.takeWhile isM).map mvE = ((mc.takeWhile isM).map mvE).map (swE x y) := by
   rw [List.map_map]; rfl
  unfold evs
  rw [h1, h2, h3, List.map_append, List.map_append, ← h4]
  congr 2
  cases bc.dropWhile isC with
  | nil => rfl
  | cons i b =>
   cases mc.dropWhile isM with
   | nil => rfl
   | cons m c =>
    show Evt.ins (swI x y i) m :: evs n (b.map (swI x y)) c = Evt.ins (swI x y i) m :: (evs n b c).map (swE x y)
    rw [evs_sw x y n b c]
theorem zip_ext {α β : Type} : ∀ (E F : List (α × β)), E.map Prod.fst = F.map Prod.fst → E.map Prod.snd = F.map Prod.snd → E = F
 | [], [], _, _ => rfl
 | [], b :: F, h, _ => by cases h
 | a :: E, [], h, _ => by cases h
 | (a1, a2) :: E, (b1, b2) :: F, h1, h2 => by
  have e1 : a1 = b1 := (List.cons.inj h1).1
  have e2 : a2 = b2 := (List.cons.inj h2).1
  rw [e1, e2, zip_ext E F (List.cons.inj h1).2 (List.cons.inj h2).2]
theorem rd41_sw (x y : Int) (l : List S41) (i : Int) : (Qam (l.map (swI x y)) i).f0 = (Qam l i).f0 ∧ (Qam (l.map (swI x y)) i).f4 = (Qam l i).f4 := by
 show ((l.map (swI x y)).getD i.toNat z41).f0 = (l.getD i.toNat z41).f0 ∧ ((l.map (swI x y)).getD i.toNat z41).f4 = (l.getD i.toNat z41).f4
 rw [List.getD_eq_getElem?_getD, List.getD_eq_getElem?_getD, List.getElem?_map]
 cases l[i.toNat]? <;> exact ⟨rfl, rfl⟩
theorem skip_sw (x y : Int) (l : List S41) : ∀ k, (∀ i, Qai.l0 k (l.map (swI x y)) i = Qai.l0 k l i) ∧ (∀ i b, Qai.j1 k (l.map (swI x y)) i b = Qai.j1 k l i b)
 | 0 => ⟨fun i => rfl, fun i b => rfl⟩
 | k + 1 => by
  obtain ⟨h1, h2⟩ := skip_sw x y l k
  have hc : ∀ i, align_copied.f (Qam (l.map (swI x y)) i).f0 (Qam (l.map (swI x y)) i).f1 (Qam (l.map (swI x y)) i).f2 (Qam (l.map (swI x y)) i).f3 (Qam (l.map (swI x y)) i).f4 = align_copied.f (Qam l i).f0 (Qam l i).f1 (Qam l i).f2 (Qam l i).f3 (Qam l i).f4 := fun i => by unfold align_copied.f; rw [(rd41_sw x y l i).1]
  refine ⟨fun i => ?_, fun i b => ?_⟩
  ·simp only [Qai.l0, List.length_map, h2, hc]
  ·simp only [Qai.j1, h1]
theorem align_sw (x y : Int) (l : List S41) (mc : List S59) : ∀ k, (∀ o i j, Qal.l0 k (l.map (swI x y)) mc o i j = Qal.l0 k l mc o i j) ∧ (∀ a b c d e f g h i j, Qal.j1 k (l.map (swI x y)) mc a b c d e f g h i j = Qal.j1 k l mc a b c d e f g h i j) ∧ (∀ a b c d e f g h i j, Qal.j2 k (l.map (swI x y)) mc a b c d e f g h i j = Qal.j2 k l mc a b c d e f g h i j)
 | 0 => ⟨fun _ _ _ => rfl, fun _ _ _ _ _ _ _ _ _ _ => rfl, fun _ _ _ _ _ _ _ _ _ _ => rfl⟩
 | k + 1 => by
  obtain ⟨h1, h2, h3⟩ := align_sw x y l mc k
  have hs : ∀ i, Qai.f k (l.map (swI x y)) i = Qai.f k l i := fun i => (skip_sw x y l k).1 i
  have hm : ∀ i (m : S59), align_Same.f (Qam (l.map (swI x y)) i).f0 (Qam (l.map (swI x y)) i).f1 (Qam (l.map (swI x y)) i).f2 (Qam (l.map (swI x y)) i).f3 (Qam (l.map (swI x y)) i).f4 m.f0 m.f1 m.f2 m.f3 m.f4 m.f5 m.f6 = align_Same.f (Qam l i).f0 (Qam l i).f1 (Qam l i).f2 (Qam l i).f3 (Qam l i).f4 m.f0 m.f1 m.f2 m.f3 m.f4 m.f5 m.f6 := fun i m => by
   unfold align_Same.f
   rw [(rd41_sw x y l i).1, (rd41_sw x y l i).2]
  refine ⟨fun o i j => ?_, fun a b c d e f g h i j => ?_, fun a b c d e f g h i j => ?_⟩
  ·simp only [Qal.l0, List.length_map, hs, hm, h1, h2, h3]
  ·simp only [Qal.j1, List.length_map, hs, hm, h1, h2, h3]
  ·simp only [Qal.j2, List.length_map, hs, hm, h1, h2, h3]
theorem snd_sw (x y : Int) (bc : List S41) (mc : List S59) (r : S180) : (rowE (bc.map (swI x y)) mc r).map Prod.snd = (rowE bc mc r).map Prod.snd := by
 unfold rowE
 rw [List.map_append, List.map_append, List.map_append, List.map_append]
 congr 1
 ·unfold copiesE
  rw [List.map_map, List.map_map, ← List.map_take, ← List.map_drop, List.map_map]; rfl
 ·congr 1
  unfold srcE
  split <;> rfl
theorem rows_sw (x y : Int) (bc : List S41) (mc : List S59) (rows : List S180) {n : Nat} {E : List Evt} (h1 : era (rows.flatMap (rowE bc mc)) = E) (h2 : era (rows.flatMap (rowE (bc.map (swI x y)) mc)) = E.map (swE x y)) :
    rows.flatMap (rowE (bc.map (swI x y)) mc) = (rows.flatMap (rowE bc mc)).map fun e => (swE x y e.1, e.2) := by
 refine zip_ext _ _ ?_ ?_
 ·rw [List.map_map]
  show era _ = List.map (fun e : Evt × Int => swE x y e.1) _
  rw [h2, ← h1]
  unfold era
  rw [List.map_map]; rfl
 ·rw [List.map_map]
  show List.map Prod.snd _ = List.map Prod.snd _
  rw [List.map_flatMap, List.map_flatMap]
  exact congrArg (List.flatMap · rows) (funext fun r => snd_sw x y bc mc r)
theorem terms_sw (x y : Int) (bt mt : S37) : align_Terms.f (swT x y bt).f0 (swT x y bt).f1 (swT x y bt).f2 (swT x y bt).f3 mt.f0 mt.f1 mt.f2 mt.f3 = align_Terms.f bt.f0 bt.f1 bt.f2 bt.f3 mt.f0 mt.f1 mt.f2 mt.f3 := by
 unfold swT
 split <;> rfl
theorem block_rn (x y : Int) (bc : List S41) (mc : List S59) (bt mt : S37) (inv inv' : List S47) (h1 : bc.length ≤ 100000000) (h2 : mc.length ≤ 100000000) (hi : inv.length ≤ 1000) (hA : Asc inv) (hA' : Asc inv') (hm : Mem x y inv inv') :
    ∃ a a', Ev (fun k => Qec k bc mc bt mt inv 1048576) a ∧ Ev (fun k => Qec k (bc.map (swI x y)) mc (swT x y bt) mt inv' 1048576) a' ∧ (a.f1 = a'.f1 ∧ a.f2 = a'.f2 ∧ a.f3 = a'.f3 ∧ a.f4 = a'.f4) ∧ (a.f1 = 0 → Mem x y a.f0 a'.f0 ∧ Asc a.f0 ∧ Asc a'.f0 ∧ a.f0.length ≤ 1048576 ∧ a'.f0.length ≤ 1048576) := by
 have hl := mem_len hA hA' hm
 obtain ⟨p, hp, hq, hz, ha, he⟩ := align_sp bc mc h1 h2 (bc.length + 1) 0 0 [] (by omega) (by omega) (by omega) (by simp) (by simp)
 obtain ⟨p', hp', hq', hz', ha', he'⟩ := align_sp (bc.map (swI x y)) mc (by rw [List.length_map]; exact h1) h2 (bc.length + 1) 0 0 [] (by rw [List.length_map]; omega) (by omega) (by omega) (by simp) (by simp)
 have hpp : Ev (fun k => Qal.f k (bc.map (swI x y)) mc) p := by
  obtain ⟨K, h⟩ := hp
  exact ⟨K, fun n hn => ((align_sw x y bc mc n).1 [] 0 0).trans (h n hn)⟩
 obtain rfl := Ev.det hp' hpp
 simp only [List.drop_zero] at ha he ha' he'
 obtain ⟨t, ht⟩ := terms_some bt.f0 bt.f1 bt.f2 bt.f3 mt.f0 mt.f1 mt.f2 mt.f3
 have ht' := (terms_sw x y bt mt).trans ht
 by_cases h0 : p'.2.2 = 0
 ·cases t with
  | true =>
   have hE := rows_sw x y bc mc p'.1 (n := 0) (show era (p'.1.flatMap (rowE bc mc)) = evs (bc.length + 1) bc mc from he h0) (by rw [← evs_sw]; exact he' h0)
   have g0 : Rn x y ⟨inv, 1048576, 0, (inv.length : Int)⟩ ⟨inv', 1048576, 0, (inv'.length : Int)⟩ := ⟨⟨hA, by show inv.length ≤ _; omega, rfl⟩, ⟨hA', by show inv'.length ≤ _; omega, rfl⟩, hm, rfl, rfl, by show (inv.length : Int) = (inv'.length : Int); rw [hl]⟩
   have hr : RelN x y (fun k => runF k bc mc bt mt p'.1 ⟨inv, 1048576, 0, (inv.length : Int)⟩) (fun k => runF k (bc.map (swI x y)) mc (swT x y bt) mt p'.1 ⟨inv', 1048576, 0, (inv'.length : Int)⟩) := by
    simp only [run_eq _ bc _ bt mt p'.1 hq, run_eq _ (bc.map (swI x y)) _ (swT x y bt) mt p'.1 hq', hE]
    exact rn_run _ _ (fun s t h => rn_end h bt mt _) _ _ _ g0
   obtain ⟨b, b', e5, e6, h3, h4, h5, h6, h7⟩ := hr
   refine ⟨okF (mc.length : Int) b, okF (mc.length : Int) b', ?_, ?_, ⟨?_, ?_, h3, h4⟩, fun h => ?_⟩
   ·unfold Qec
    refine Ev.neg (by omega) (Ev.then hp (Ev.pos h0 (Ev.then (g := fun _ => _) ⟨0, fun _ _ => ht⟩ (Ev.pos rfl ?_))))
    unfold goF
    exact Ev.pos ⟨by omega, hA⟩ (Ev.then e5 (Ev.val rfl))
   ·unfold Qec
    refine Ev.neg (by omega) (Ev.then hpp (Ev.pos h0 (Ev.then (g := fun _ => _) ⟨0, fun _ _ => ht'⟩ (Ev.pos rfl ?_))))
    unfold goF
    exact Ev.pos ⟨by omega, hA'⟩ (Ev.then e6 (Ev.val rfl))
   ·show (whyOf _ b.2).1 = (whyOf _ b'.2).1; rw [h5]
   ·show (whyOf _ b.2).2 = (whyOf _ b'.2).2; rw [h5]
   ·have hn : b.2 = none := by
      cases hb : b.2 with
      | none => rfl
      | some q => exact absurd (show q.1 = 0 by have h8 : (whyOf (mc.length : Int) b.2).1 = 0 := h; rw [hb] at h8; exact h8) (h7 q hb)
    have hR := h6 hn
    have hn' : b'.2 = none := h5 ▸ hn
    have e1 : (okF (mc.length : Int) b).f0 = b.1.set := if_pos h
    have e2 : (okF (mc.length : Int) b').f0 = b'.1.set := if_pos (by rw [← h5]; exact h)
    rw [e1, e2]
    exact ⟨hR.mem, hR.gs.1, hR.gt.1, hR.gs.2.1, hR.gt.2.1⟩
  | false =>
   refine ⟨⟨[], 20, p'.2.1, 0, (inv.length : Int)⟩, ⟨[], 20, p'.2.1, 0, (inv'.length : Int)⟩, ?_, ?_, ⟨rfl, rfl, rfl, by rw [hl]⟩, fun h => absurd (show (20 : Int) = 0 from h) (by decide)⟩
   ·unfold Qec
    exact Ev.neg (by omega) (Ev.then hp (Ev.pos h0 (Ev.then (g := fun _ => _) ⟨0, fun _ _ => ht⟩ (Ev.neg (by simp) (Ev.val rfl)))))
   ·unfold Qec
    exact Ev.neg (by omega) (Ev.then hpp (Ev.pos h0 (Ev.then (g := fun _ => _) ⟨0, fun _ _ => ht'⟩ (Ev.neg (by simp) (Ev.val rfl)))))
 ·refine ⟨⟨[], p'.2.2, p'.2.1, 0, (inv.length : Int)⟩, ⟨[], p'.2.2, p'.2.1, 0, (inv'.length : Int)⟩, ?_, ?_, ⟨rfl, rfl, rfl, by rw [hl]⟩, fun h => absurd h h0⟩
  ·unfold Qec
   exact Ev.neg (by omega) (Ev.then hp (Ev.neg h0 (Ev.val rfl)))
  ·unfold Qec
   exact Ev.neg (by omega) (Ev.then hpp (Ev.neg h0 (Ev.val rfl)))
theorem imp_val {a b : List S47} {r : Int × Int × Int} (h : Ev (fun k => edge_Implies.f k a b) r) : r.2.2 = 0 ∨ r.2.2 = 22 := by
 obtain ⟨K, h⟩ := h
 have h1 : edge_Implies.f K a b = some r := h K (Nat.le_refl _)
 unfold edge_Implies.f at h1
 obtain ⟨q, _, hq⟩ := Option.bind_eq_some_iff.mp h1
 by_cases hb : q.2.2 = true
 ·rw [if_pos hb] at hq
  rw [← Option.some.inj hq]; exact Or.inr rfl
 ·rw [if_neg hb] at hq
  rw [← Option.some.inj hq]; exact Or.inl rfl
theorem edges_rn {x y : Int} (i : Nat) {W W' : List (List S47)} (out out' : List S47) (hlen : W'.length = W.length) (hW : ∀ i : Nat, i < W.length → (Qao W (i : Int)).length ≤ 1000 ∧ Asc (Qao W (i : Int)) ∧ Asc (Qao W' (i : Int)) ∧ Mem x y (Qao W (i : Int)) (Qao W' (i : Int))) (ho : out.length ≤ 1048576) (hA : Asc out) (hA' : Asc out') (hm : Mem x y out out') (K K' : Nat → S51 → Option S51)
    (hK : ∀ r, ∃ r', Ev (fun k => K k r) r' ∧ Ev (fun k => K' k r) r') : ∀ (l : List Int), (∀ t ∈ l, 0 ≤ t ∧ t < (W.length : Int)) → ∀ (j : Nat) (r : S51), ∃ r', Ev (fun k => edgesF k i W out l j r (K k)) r' ∧ Ev (fun k => edgesF k i W' out' l j r (K' k)) r' := by
 intro l
 induction l with
 | nil => exact fun _ j r => hK r
 | cons t l ih =>
  intro hl j r
  have ht := hl t (by simp)
  have ht' : 0 ≤ t ∧ t < (W'.length : Int) := by rw [hlen]; exact ht
  have hb := hW t.toNat (by omega)
  rw [Int.toNat_of_nonneg ht.1] at hb
  obtain ⟨b1, b2, b3, b4⟩ := hb
  have e1 := mem_len hA hA' hm
  have e2 := mem_len b2 b3 b4
  obtain ⟨p, hp, hq⟩ := imp_sp out (Qao W t) (by omega) (by omega) hA b2
  obtain ⟨p', hp', hq'⟩ := imp_sp out' (Qao W' t) (by omega) (by omega) hA' b3
  have hiff : p.2.2 = 0 ↔ p'.2.2 = 0 := by
   rw [hq, hq']
   constructor
   ·intro h q hq
    exact (hm q).2 (h _ ((b4 q).1 hq))
   ·intro h q hq
    have h1 : swP x y q ∈ Qao W' t := (b4 _).2 (by rw [Qdw]; exact hq)
    have h2 := (hm _).1 (h _ h1)
    rwa [Qdw] at h2
  have e3 : edgeR r out'.length (Qao W' t).length = edgeR r out.length (Qao W t).length := by rw [e1, e2]
  simp only [edgesF, if_pos ht, if_pos ht']
  by_cases hz : p.2.2 = 0
  ·obtain ⟨r', h1, h2⟩ := ih (fun u hu => hl u (by simp [hu])) (j + 1) (edgeR r out.length (Qao W t).length)
   exact ⟨r', Ev.then hp (Ev.pos hz h1), Ev.then hp' (Ev.pos (hiff.1 hz) (by rw [e3]; exact h2))⟩
  ·have hz' : ¬ p'.2.2 = 0 := fun h => hz (hiff.2 h)
   have v1 := (imp_val hp).resolve_left hz
   have v2 := (imp_val hp').resolve_left hz'
   exact ⟨_, Ev.then hp (Ev.neg hz (Ev.val rfl)), Ev.then hp' (Ev.neg hz' (Ev.val (by rw [e3, v1, v2])))⟩
theorem rd39_sw (x y : Int) (SB : List S39) (i : Nat) (h : i < SB.length) : Qag (SB.map (swB x y)) (i : Int) = swB x y (Qag SB (i : Int)) := by
 rw [rd39 _ i (by rw [List.length_map]; exact h), rd39 _ i h, List.getElem_map]
theorem succ_sw (x y : Int) (t : S37) : source_Successors.f (swT x y t).f0 (swT x y t).f1 (swT x y t).f2 (swT x y t).f3 = source_Successors.f t.f0 t.f1 t.f2 t.f3 := by
 unfold swT
 split <;> rfl
theorem blocks_rn (x y : Int) (SB : List S39) (TB : List S57) (W W' : List (List S47)) (m : Int) (hlen : W'.length = W.length) (hW : ∀ i : Nat, i < W.length → (Qao W (i : Int)).length ≤ 1000 ∧ Asc (Qao W (i : Int)) ∧ Asc (Qao W' (i : Int)) ∧ Mem x y (Qao W (i : Int)) (Qao W' (i : Int))) (hS : ∀ i : Nat, i < SB.length → (Qag SB (i : Int)).f0.length ≤ 1000 ∧ okTerm (Qag SB (i : Int)).f1.f0 (Qag SB (i : Int)).f1.f1 (Qag SB (i : Int)).f1.f2 (Qag SB (i : Int)).f1.f3 m W.length) (hT : ∀ i : Nat, i < TB.length → (Qaq TB (i : Int)).f0.length ≤ 1000)
    (hl1 : SB.length ≤ TB.length) (hl2 : SB.length ≤ W.length) :
    ∀ n (i : Nat) (r : S51), SB.length - i = n → i ≤ SB.length → ∃ r', Ev (fun k => Qdg k TB W (SB.drop i) i r) r' ∧ Ev (fun k => Qdg k TB W' ((SB.map (swB x y)).drop i) i r) r' := by
 intro n
 induction n with
 | zero =>
  intro i r hn hi
  rw [List.drop_of_length_le (by omega), List.drop_of_length_le (by rw [List.length_map]; omega)]
  exact ⟨r, ⟨0, fun _ _ => rfl⟩, ⟨0, fun _ _ => rfl⟩⟩
 | succ n ih =>
  intro i r hn hi
  have hd : SB.drop i = Qag SB (i : Int) :: SB.drop (i + 1) := Qcg SB z39 i (by omega)
  have hd' : (SB.map (swB x y)).drop i = swB x y (Qag SB (i : Int)) :: (SB.map (swB x y)).drop (i + 1) := by
   rw [← rd39_sw x y SB i (by omega)]; exact Qcg _ z39 i (by rw [List.length_map]; omega)
  rw [hd, hd']
  have c1 : (i : Int) < (TB.length : Int) ∧ (i : Int) < (W.length : Int) := ⟨by omega, by omega⟩
  have c2 : (i : Int) < (TB.length : Int) ∧ (i : Int) < (W'.length : Int) := ⟨by omega, by omega⟩
  simp only [Qdg, if_pos c1, if_pos c2]
  obtain ⟨w1, w2, w3, w4⟩ := hW i (by omega)
  obtain ⟨a, a', ha, ha', ⟨q1, q2, q3, q4⟩, hok⟩ := block_rn x y (Qag SB (i : Int)).f0 (Qaq TB (i : Int)).f0 (Qag SB (i : Int)).f1 (Qaq TB (i : Int)).f1 (Qao W (i : Int)) (Qao W' (i : Int)) (by have := (hS i (by omega)).1; omega) (by have := hT i (by omega); omega) w1 w2 w3 w4
  have hn2 : nextR r a' = nextR r a := by unfold nextR; rw [q3, q4]
  by_cases hz : a.f1 = 0
  ·obtain ⟨tg, ht, htg⟩ := succ_some (hS i (by omega)).2
   obtain ⟨o1, o2, o3, o4, _⟩ := hok hz
   obtain ⟨r', e1, e2⟩ := edges_rn i a.f0 a'.f0 hlen hW o4 o2 o3 o1 (fun k r2 => Qdg k TB W (SB.drop (i + 1)) (i + 1) r2) (fun k r2 => Qdg k TB W' ((SB.map (swB x y)).drop (i + 1)) (i + 1) r2) (fun r => ih (i + 1) r (by omega) (by omega)) tg htg 0 (nextR r a)
   exact ⟨r', Ev.then ha (Ev.pos hz (Ev.then (g := fun _ => _) ⟨0, fun _ _ => ht⟩ e1)), Ev.then ha' (Ev.pos (q1 ▸ hz) (Ev.then (g := fun _ => _) ⟨0, fun _ _ => (succ_sw x y _).trans ht⟩ (by rw [hn2]; exact e2)))⟩
  ·exact ⟨_, Ev.then ha (Ev.neg hz (Ev.val rfl)), Ev.then ha' (Ev.neg (q1 ▸ hz) (Ev.val (by rw [hn2, q1, q2])))⟩
def iniB (p : S47) (n : Int) : Bool := (edge_Initial.f p.f0 p.f1 n).getD false
theorem ini_some (p : S47) (n : Int) : edge_Initial.f p.f0 p.f1 n = some (iniB p n) := by
 unfold iniB
 obtain ⟨b, hb⟩ : ∃ b, edge_Initial.f p.f0 p.f1 n = some b := by
  unfold edge_Initial.f location_Slot.f Qaw.f Qbd.f
  simp only [Option.bind_some]
  repeat' split
  all_goals exact ⟨_, rfl⟩
 rw [hb]; rfl
theorem entry_sp (l : List S47) (n : Int) (h : l.length ≤ 100000000) : ∃ r, Ev (fun k => edge_Entry.f k l n) r ∧ (r.2.2 = 0 ∨ r.2.2 = 23) ∧ (r.2.2 = 0 ↔ ∀ p ∈ l, iniB p n = true) := by
 have go : ∀ m i : Nat, l.length - i = m → i ≤ l.length → ∃ r, Ev (fun k => edge_Entry.l0 k n l (l.length : Int) (i : Int)) r ∧ (r.2.2 = 0 ∨ r.2.2 = 23) ∧ (r.2.2 = 0 ↔ ∀ p ∈ l.drop i, iniB p n = true) := by
  intro m
  induction m with
  | zero =>
   intro i hm hi
   refine ⟨(0, 0, 0), Ev.up (g := fun k => _) (fun k => by rw [edge_Entry.l0]) (Ev.neg (by omega) (Ev.val rfl)), Or.inl rfl, ?_⟩
   rw [List.drop_of_length_le (by omega)]
   exact ⟨fun _ p hp => (by cases hp), fun _ => rfl⟩
  | succ m ih =>
   intro i hm hi
   have hd : l.drop i = Qaa l (i : Int) :: l.drop (i + 1) := Qcg l z47 i (by omega)
   have ht' : Ev (fun _ => edge_Initial.f (Qaa l (i : Int)).f0 (Qaa l (i : Int)).f1 n) (iniB (Qaa l (i : Int)) n) := ⟨0, fun _ _ => ini_some _ n⟩
   cases hb : iniB (Qaa l (i : Int)) n with
   | true =>
    rw [hb] at ht'
    obtain ⟨r, hr, h1, h2⟩ := ih (i + 1) (by omega) (by omega)
    refine ⟨r, Ev.up (g := fun k => _) (fun k => by rw [edge_Entry.l0]) (Ev.pos (by omega) (Ev.pos (by omega) (Ev.pos (by omega) (Ev.then ht' (Ev.pos (c := true = true) (f := fun k => edge_Entry.l0 k n l (l.length : Int) (wrap64 ((i : Int) + 1))) (g := fun _ => some ((Qaa l (i : Int)).f0, (Qaa l (i : Int)).f1, 23)) rfl (by rw [w64s (n := l.length) (by omega) (by omega)]; exact hr)))))), h1, h2.trans ?_⟩
    rw [hd]
    exact ⟨fun h p hp => by
     rcases List.mem_cons.1 hp with e | e
     ·rw [e]; exact hb
     ·exact h p e, fun h p hp => h p (List.mem_cons_of_mem _ hp)⟩
   | false =>
    rw [hb] at ht'
    refine ⟨((Qaa l (i : Int)).f0, (Qaa l (i : Int)).f1, 23), Ev.up (g := fun k => _) (fun k => by rw [edge_Entry.l0]) (Ev.pos (by omega) (Ev.pos (by omega) (Ev.pos (by omega) (Ev.then ht' (Ev.neg (c := false = true) (by simp) (Ev.val rfl)))))), Or.inr rfl, ?_⟩
    rw [hd]
    exact ⟨fun h => absurd (show (23 : Int) = 0 from h) (by decide), fun h => absurd (h _ (List.mem_cons_self ..)) (by rw [hb]; simp)⟩
 obtain ⟨r, hr, h1, h2⟩ := go _ 0 rfl (by omega)
 rw [List.drop_zero] at h2
 exact ⟨r, hr, h1, h2⟩
theorem ini_sw {x y n : Int} (hx : n ≤ x) (hy : n ≤ y) (p : S47) : iniB (swP x y p) n = iniB p n := by
 unfold iniB
 have : edge_Initial.f (swP x y p).f0 (swP x y p).f1 n = edge_Initial.f p.f0 p.f1 n := by
  show edge_Initial.f (sw x y p.f0) p.f1 n = _
  by_cases h : p.f0 < n
  ·rw [show sw x y p.f0 = p.f0 by unfold sw; rw [if_neg (by omega), if_neg (by omega)]]
  ·have h2 : ¬ sw x y p.f0 < n := by unfold sw; split; omega; split <;> omega
   unfold edge_Initial.f
   rw [if_neg h, if_neg h2]
 rw [this]
structure Eqs (s t : Bs) : Prop where
 gs : Goo s
 set : s.set = t.set
 most : s.most = t.most
 big : s.largest = t.largest
 len : (s.set.length : Int) ≤ s.largest
theorem Eqs.gt {s t : Bs} (h : Eqs s t) : Goo t := ⟨h.set ▸ h.gs.1, h.set ▸ h.gs.2.1, h.most ▸ h.gs.2.2⟩
def Rel (p p' : Bs × Pan) : Prop := p.1.set = p'.1.set ∧ p.1.largest = p'.1.largest ∧ p.2.map Prod.fst = p'.2.map Prod.fst ∧ (p.2 = none → Eqs p.1 p'.1)
theorem in_sw {x y m : Int} (hx : 0 ≤ x ∧ x < m) (hy : 0 ≤ y ∧ y < m) (n : Int) : decide (0 ≤ sw x y n ∧ sw x y n < m) = decide (0 ≤ n ∧ n < m) := by
 refine decide_eq_decide.2 ?_
 unfold sw
 split
 ·subst_vars; exact ⟨fun _ => hx, fun _ => hy⟩
 ·split
  ·subst_vars; exact ⟨fun _ => hy, fun _ => hx⟩
  ·exact Iff.rfl
theorem insR_sw {x y m : Int} (hx : 0 ≤ x ∧ x < m) (hy : 0 ≤ y ∧ y < m) (i : S41) : insR (swI x y i).f0 (swI x y i).f1 (swI x y i).f2 (swI x y i).f3 (swI x y i).f4 m = insR i.f0 i.f1 i.f2 i.f3 i.f4 m := by
 obtain ⟨op, d, a, b, im⟩ := i
 show insR op (if op = 17 then d else sw x y d) (if op = 1 then a else sw x y a) (if 5 ≤ op ∧ op ≤ 16 then sw x y b else b) im m = insR op d a b im m
 unfold insR
 cases hq : (decide (op < 1) || decide (op > 17)) with
 | true => rfl
 | false =>
  obtain ⟨o1, o2⟩ := Bool.or_eq_false_iff.1 hq
  have o3 := of_decide_eq_false o1
  have o4 := of_decide_eq_false o2
  have d1 : (decide (1 ≤ op ∧ op ≤ 16) && !decide (0 ≤ (if op = 17 then d else sw x y d) ∧ (if op = 17 then d else sw x y d) < m)) = (decide (1 ≤ op ∧ op ≤ 16) && !decide (0 ≤ d ∧ d < m)) := by
   by_cases h : op = 17
   ·rw [decide_eq_false (show ¬ (1 ≤ op ∧ op ≤ 16) by omega)]; rfl
   ·rw [if_neg h, in_sw hx hy]
  have d2 : (!decide (1 ≤ op ∧ op ≤ 16) && ((if op = 17 then d else sw x y d) != 0)) = (!decide (1 ≤ op ∧ op ≤ 16) && (d != 0)) := by
   by_cases h : op = 17
   ·rw [if_pos h]
   ·rw [decide_eq_true (show 1 ≤ op ∧ op ≤ 16 by omega)]; rfl
  have a1 : (decide (2 ≤ op ∧ op ≤ 17) && !decide (0 ≤ (if op = 1 then a else sw x y a) ∧ (if op = 1 then a else sw x y a) < m)) = (decide (2 ≤ op ∧ op ≤ 17) && !decide (0 ≤ a ∧ a < m)) := by
   by_cases h : op = 1
   ·rw [decide_eq_false (show ¬ (2 ≤ op ∧ op ≤ 17) by omega)]; rfl
   ·rw [if_neg h, in_sw hx hy]
  have a2 : (!decide (2 ≤ op ∧ op ≤ 17) && ((if op = 1 then a else sw x y a) != 0)) = (!decide (2 ≤ op ∧ op ≤ 17) && (a != 0)) := by
   by_cases h : op = 1
   ·rw [if_pos h]
   ·rw [decide_eq_true (show 2 ≤ op ∧ op ≤ 17 by omega)]; rfl
  have b1 : (decide (5 ≤ op ∧ op ≤ 16) && !decide (0 ≤ (if 5 ≤ op ∧ op ≤ 16 then sw x y b else b) ∧ (if 5 ≤ op ∧ op ≤ 16 then sw x y b else b) < m)) = (decide (5 ≤ op ∧ op ≤ 16) && !decide (0 ≤ b ∧ b < m)) := by
   by_cases h : 5 ≤ op ∧ op ≤ 16
   ·rw [if_pos h, in_sw hx hy]
   ·rw [decide_eq_false h]; rfl
  have b2 : (!decide (5 ≤ op ∧ op ≤ 16) && ((if 5 ≤ op ∧ op ≤ 16 then sw x y b else b) != 0)) = (!decide (5 ≤ op ∧ op ≤ 16) && (b != 0)) := by
   by_cases h : 5 ≤ op ∧ op ≤ 16
   ·rw [decide_eq_true h]; rfl
   ·rw [if_neg h]
  rw [d1, d2, a1, a2, b1, b2]
theorem trmR_sw {x y m n : Int} (hx : 0 ≤ x ∧ x < m) (hy : 0 ≤ y ∧ y < m) (t : S37) : trmR (swT x y t).f0 (swT x y t).f1 (swT x y t).f2 (swT x y t).f3 m n = trmR t.f0 t.f1 t.f2 t.f3 m n := by
 unfold swT
 by_cases h : t.f0 = 1
 ·rw [if_pos h]
 ·rw [if_neg h]
  show trmR t.f0 (sw x y t.f1) t.f2 t.f3 m n = _
  unfold trmR
  rw [beq_eq_false_iff_ne.2 h, in_sw hx hy]
  rfl
theorem src_sw {x y sa sr : Int} {SB : List S39} (hx : 0 ≤ x ∧ x < sr) (hy : 0 ≤ y ∧ y < sr) (h : okSrc sa sr SB) : okSrc sa sr (SB.map (swB x y)) := by
 obtain ⟨h1, h2, h3⟩ := h
 refine ⟨h1, by rw [List.length_map]; exact h2, fun i hi => ?_⟩
 rw [List.length_map] at hi ⊢
 rw [rd39_sw x y SB i hi]
 obtain ⟨h4, h5⟩ := h3 i hi
 refine ⟨fun j hj => ?_, (trmR_sw hx hy _).trans h5⟩
 have hj' : j < (Qag SB (i : Int)).f0.length := by
  have : (swB x y (Qag SB (i : Int))).f0.length = (Qag SB (i : Int)).f0.length := List.length_map ..
  omega
 have e : Qam ((Qag SB (i : Int)).f0.map (swI x y)) (j : Int) = swI x y (Qam (Qag SB (i : Int)).f0 (j : Int)) := by
  show List.getD _ _ _ = swI x y (List.getD _ _ _)
  rw [Int.toNat_natCast, List.getD_eq_getElem?_getD, List.getD_eq_getElem?_getD, List.getElem?_map, List.getElem?_eq_getElem hj']; rfl
 have e' : Qam (swB x y (Qag SB (i : Int))).f0 (j : Int) = swI x y (Qam (Qag SB (i : Int)).f0 (j : Int)) := e
 rw [e']
 exact (insR_sw hx hy _).trans (h4 j hj')
theorem row_sw {x y m r s : Int} {l l' : List S47} (hx : 0 ≤ x ∧ x < m) (hy : 0 ≤ y ∧ y < m) (h : okRow l m r s) (hA' : Asc l') (hm : Mem x y l l') : okRow l' m r s := by
 intro i hi
 have e : ∀ j (hj : j < l'.length), Qaa l' (j : Int) = l'[j] := fun j hj => by
  show l'.getD _ _ = _
  rw [Int.toNat_natCast, List.getD_eq_getElem?_getD, List.getElem?_eq_getElem hj]; rfl
 have h1 := (hm l'[i]).1 (List.getElem_mem hi)
 obtain ⟨j, hj, hjq⟩ := List.getElem_of_mem h1
 obtain ⟨g1, g2, _⟩ := h j hj
 have e2 : Qaa l (j : Int) = swP x y l'[i] := by
  show l.getD _ _ = _
  rw [Int.toNat_natCast, List.getD_eq_getElem?_getD, List.getElem?_eq_getElem hj, ← hjq]; rfl
 rw [e2] at g1 g2
 have g3 : 0 ≤ l'[i].f0 ∧ l'[i].f0 < m := by
  have := in_sw hx hy l'[i].f0
  rw [decide_eq_true (show 0 ≤ sw x y l'[i].f0 ∧ sw x y l'[i].f0 < m from g1)] at this
  exact of_decide_eq_true this.symm
 unfold okPair
 rw [e i hi]
 refine ⟨g3, g2, fun h0 => ?_⟩
 rw [e (i - 1) (by omega)]
 unfold ltP
 rw [less_eq]
 exact congrArg some (List.pairwise_iff_getElem.1 hA' (i - 1) i (by omega) hi (by omega))
theorem begin_rn (sa sr : Int) (SB SB' : List S39) (ta tr ts : Int) (TB : List S57) (W W' : List (List S47)) (h : W.length ≤ 1000) (h0 : 0 < W.length) (hlen : W'.length = W.length) (hc : ∀ i : Nat, i < W.length → (Qao W (i : Int)).length ≤ 1000 ∧ (Qao W' (i : Int)).length = (Qao W (i : Int)).length)
    {e e' : Int × Int × Int} (he : Ev (fun k => edge_Entry.f k (Qao W 0) sa) e) (he' : Ev (fun k => edge_Entry.f k (Qao W' 0) sa) e') (hee : e.2.2 = e'.2.2) :
    ∃ x, Ev (fun k => Qax.f k sa sr SB ta tr ts TB W) (e.2.2, 0, 0, 0, 0, wrap64 (1 + ((Qao W 0).length : Int)), x) ∧ Ev (fun k => Qax.f k sa sr SB' ta tr ts TB W') (e.2.2, 0, 0, 0, 0, wrap64 (1 + ((Qao W 0).length : Int)), x) := by
 have go : ∀ (b1 b2 b3 b4 b5 b0 : Int) (m i : Nat) (x : Int), W.length - i = m → i ≤ W.length → ∃ y, Ev (fun k => Qax.l0 k W (W.length : Int) (i : Int) sa sr SB ta tr ts TB W b0 b1 b2 b3 b4 b5 x) (e.2.2, b1, b2, b3, b4, b5, y) ∧ Ev (fun k => Qax.l0 k W' (W'.length : Int) (i : Int) sa sr SB' ta tr ts TB W' b0 b1 b2 b3 b4 b5 x) (e.2.2, b1, b2, b3, b4, b5, y) := by
  intro b1 b2 b3 b4 b5 b0 m
  induction m with
  | zero =>
   intro i x hm hi
   refine ⟨x, Ev.up (g := fun k => _) (fun k => by rw [Qax.l0]) (Ev.neg (by omega) (Ev.pos (by omega) (Ev.then he (Ev.val rfl)))), Ev.up (g := fun k => _) (fun k => by rw [Qax.l0]) (Ev.neg (by omega) (Ev.pos (by omega) (Ev.then he' ?_)))⟩
   rw [hee]
   exact Ev.val rfl
  | succ m ih =>
   intro i x hm hi
   obtain ⟨y, hy, hy'⟩ := ih (i + 1) (mx x ((Qao W (i : Int)).length : Int)) (by omega) (by omega)
   refine ⟨y, Ev.up (g := fun k => _) (fun k => by rw [Qax.l0]) (Ev.pos (by omega) (Ev.pos (by omega) (Ev.pos (by omega) (by rw [w64s (n := W.length) (by omega) (by omega)]; exact hy)))), Ev.up (g := fun k => _) (fun k => by rw [Qax.l0]) (Ev.pos (by omega) (Ev.pos (by omega) (Ev.pos (by omega) (by rw [w64s (n := W'.length) (by omega) (by omega), (hc i (by omega)).2]; exact hy'))))⟩
 obtain ⟨y, hy, hy'⟩ := go 0 0 0 0 (wrap64 (1 + ((Qao W 0).length : Int))) 0 _ 0 0 rfl (by omega)
 have e0 : (Qao W' 0).length = (Qao W 0).length := (hc 0 h0).2
 exact ⟨y, by unfold Qax.f; exact Ev.pos (by omega) hy, by unfold Qax.f; rw [e0]; exact Ev.pos (by omega) hy'⟩
theorem check_rn {x y sa sr : Int} {SB : List S39} {ta tr ts : Int} {TB : List S57} {W W' : List (List S47)} (hB : Bnd sr SB tr ts TB W) (hO : okAll sa sr SB ta tr ts TB W) (hx : sa ≤ x ∧ x < sr) (hy : sa ≤ y ∧ y < sr) (hlen : W'.length = W.length) (hW : ∀ i : Nat, i < W.length → Asc (Qao W' (i : Int)) ∧ Mem x y (Qao W (i : Int)) (Qao W' (i : Int))) :
    ∃ r, Ev (fun k => Qeb k sa sr SB ta tr ts TB W) r ∧ Ev (fun k => Qeb k sa sr (SB.map (swB x y)) ta tr ts TB W') r := by
 obtain ⟨hO1, hO2, hO3, hO4⟩ := id hO
 have hsa := hO1.1.1
 have hx' : 0 ≤ x ∧ x < sr := ⟨by omega, hx.2⟩
 have hy' : 0 ≤ y ∧ y < sr := ⟨by omega, hy.2⟩
 have hSW : W.length = SB.length := by have := hO4.1; omega
 have hST : TB.length = SB.length := by have := hO3.1; omega
 have hA : ∀ i : Nat, i < W.length → Asc (Qao W (i : Int)) := fun i hi => row_asc (hO4.2 i hi)
 have hL : ∀ i : Nat, i < W.length → (Qao W' (i : Int)).length = (Qao W (i : Int)).length := fun i hi => (mem_len (hA i hi) (hW i hi).1 (hW i hi).2).symm
 have hB' : Bnd sr (SB.map (swB x y)) tr ts TB W' := ⟨hB.b1, hB.b2, hB.b3, by rw [List.length_map]; exact hB.l1, hB.l2, by rw [hlen]; exact hB.l3, fun i hi => by
     rw [List.length_map] at hi
     rw [rd39_sw x y SB i hi]
     show ((Qag SB (i : Int)).f0.map (swI x y)).length ≤ 1000
     rw [List.length_map]; exact hB.c1 i hi, hB.c2, fun i hi => by rw [hlen] at hi; rw [hL i hi]; exact hB.c3 i hi⟩
 have hO' : okAll sa sr (SB.map (swB x y)) ta tr ts TB W' := ⟨src_sw hx' hy' hO1, hO2, ⟨by rw [List.length_map]; exact hO3.1, hO3.2⟩, by rw [List.length_map, hlen]; exact hO4.1, fun i hi => by
  rw [hlen] at hi
  exact row_sw hx' hy' (hO4.2 i hi) (hW i hi).1 (hW i hi).2⟩
 obtain ⟨v, hv, hvq⟩ := cValid sa sr SB ta tr ts TB W hB.b1 hB.b2 hB.b3 hB.l1 hB.l2 hB.l3 hB.c1 hB.c2 hB.c3
 obtain rfl := hvq.2 hO
 obtain ⟨v', hv', hvq'⟩ := cValid sa sr (SB.map (swB x y)) ta tr ts TB W' hB'.b1 hB'.b2 hB'.b3 hB'.l1 hB'.l2 hB'.l3 hB'.c1 hB'.c2 hB'.c3
 obtain rfl := hvq'.2 hO'
 have h0 : 0 < W.length := by have := hO1.2.1; omega
 obtain ⟨e, he, e1, e2⟩ := entry_sp (Qao W 0) sa (by have := hB.c3 0 h0; have q : ((0 : Nat) : Int) = 0 := rfl; rw [q] at this; omega)
 obtain ⟨e', he', e1', e2'⟩ := entry_sp (Qao W' 0) sa (by have := hB.c3 0 h0; have q2 := hL 0 h0; have q : ((0 : Nat) : Int) = 0 := rfl; rw [q] at this q2; omega)
 have hm0 : Mem x y (Qao W 0) (Qao W' 0) := (hW 0 h0).2
 have hiff : e.2.2 = 0 ↔ e'.2.2 = 0 := by
  rw [e2, e2']
  exact ⟨fun h p hp => by rw [← ini_sw hx.1 hy.1]; exact h _ ((hm0 p).1 hp), fun h p hp => by
   have := h (swP x y p) ((hm0 _).2 (by rw [Qdw]; exact hp))
   rwa [ini_sw hx.1 hy.1] at this⟩
 have hee : e.2.2 = e'.2.2 := by
  rcases e1 with h | h
  ·rw [h, hiff.1 h]
  ·rcases e1' with h' | h'
   ·rw [h', hiff.2 h']
   ·rw [h, h']
 obtain ⟨z, b1, b2⟩ := begin_rn sa sr SB (SB.map (swB x y)) ta tr ts TB W W' hB.l3 h0 hlen (fun i hi => ⟨hB.c3 i hi, hL i hi⟩) he he' hee
 by_cases h : e.2.2 = 0
 ·obtain ⟨r, g1, g2⟩ := blocks_rn x y SB TB W W' sr hlen (fun i hi => ⟨hB.c3 i hi, hA i hi, (hW i hi).1, (hW i hi).2⟩) (fun i hi => ⟨hB.c1 i hi, by rw [hSW]; exact (hO1.2.2 i hi).2⟩) hB.c2 (by omega) (by omega) _ 0 ⟨e.2.2, 0, 0, 0, 0, wrap64 (1 + ((Qao W 0).length : Int)), z⟩ rfl (by omega)
  rw [List.drop_zero] at g1 g2
  exact ⟨r, by unfold Qeb; exact Ev.then hv (Ev.pos rfl (Ev.then b1 (Ev.pos h g1))), by unfold Qeb; exact Ev.then hv' (Ev.pos rfl (Ev.then b2 (Ev.pos h g2)))⟩
 ·exact ⟨_, by unfold Qeb; exact Ev.then hv (Ev.pos rfl (Ev.then b1 (Ev.neg h (Ev.val rfl)))), by unfold Qeb; exact Ev.then hv' (Ev.pos rfl (Ev.then b2 (Ev.neg h (Ev.val rfl))))⟩
instance dec47 : DecidableEq S47 := fun a b =>
 if h : a.f0 = b.f0 ∧ a.f1 = b.f1 then isTrue (by obtain ⟨x, y⟩ := a; obtain ⟨z, u⟩ := b; obtain ⟨h1, h2⟩ := h; cases h1; cases h2; rfl) else isFalse (fun e => h ⟨by rw [e], by rw [e]⟩)
def addS (p : S47) : Bool → List S47 → List S47
 | d, [] => if d = true then [] else [p]
 | d, q :: s => (if d = true then [] else if Qb7 q p = true then [] else [p]) ++ ((if q = p then [] else [q]) ++ addS p (d || !Qb7 q p) s)
theorem radd_t (p : S47) : ∀ s : List S47, addS p true s = s.filter (fun q => decide (q ≠ p))
 | [] => rfl
 | q :: s => by
  show [] ++ ((if q = p then [] else [q]) ++ addS p true s) = _
  rw [radd_t p s, List.filter_cons]
  by_cases h : q = p
  ·simp [h]
  ·simp [h]
theorem radd_asc (p : S47) : ∀ s : List S47, Asc s → Asc (addS p false s) ∧ ∀ q, q ∈ addS p false s ↔ q = p ∨ q ∈ s
 | [], _ => ⟨List.pairwise_singleton .., fun q => by simp [addS]⟩
 | q :: s, h => by
  obtain ⟨h1, h2⟩ := List.pairwise_cons.1 h
  by_cases hq : Qb7 q p = true
  ·have hne : q ≠ p := fun e => by rw [e, less_irr] at hq; cases hq
   obtain ⟨i1, i2⟩ := radd_asc p s h2
   have e : addS p false (q :: s) = q :: addS p false s := by
    show (if false = true then [] else if Qb7 q p = true then [] else [p]) ++ ((if q = p then [] else [q]) ++ addS p (false || !Qb7 q p) s) = _
    rw [hq, if_neg hne]; rfl
   rw [e]
   refine ⟨List.pairwise_cons.2 ⟨fun t ht => ?_, i1⟩, fun t => ?_⟩
   ·rcases (i2 t).1 ht with h | h
    ·rw [h]; exact hq
    ·exact h1 t h
   ·rw [List.mem_cons, i2, List.mem_cons]
    exact ⟨fun h => by rcases h with h | h | h; exact .inr (.inl h); exact .inl h; exact .inr (.inr h), fun h => by rcases h with h | h | h; exact .inr (.inl h); exact .inl h; exact .inr (.inr h)⟩
  ·have hf : Qb7 q p = false := Bool.eq_false_iff.2 hq
   have e : addS p false (q :: s) = p :: (q :: s).filter (fun q => decide (q ≠ p)) := by
    show (if false = true then [] else if Qb7 q p = true then [] else [p]) ++ ((if q = p then [] else [q]) ++ addS p (false || !Qb7 q p) s) = _
    rw [hf, ← radd_t p (q :: s)]; rfl
   rw [e]
   refine ⟨List.pairwise_cons.2 ⟨fun t ht => ?_, List.Pairwise.sublist List.filter_sublist h⟩, fun t => ?_⟩
   ·obtain ⟨ht, hne⟩ := List.mem_filter.1 ht
    have hne := of_decide_eq_true hne
    rcases List.mem_cons.1 ht with h3 | h3
    ·rw [h3] at hne ⊢; exact lessB_tot hf hne
    ·by_cases hqp : q = p
     ·rw [← hqp]; exact h1 t h3
     ·exact Qcp (lessB_tot hf hqp) (h1 t h3)
   ·rw [List.mem_cons, List.mem_filter]
    by_cases hp : t = p
    ·simp [hp]
    ·simp [hp]
theorem radd_len (p : S47) : ∀ (s : List S47) d, (addS p d s).length ≤ s.length + 1
 | [], d => by cases d <;> exact Nat.le_of_ble_eq_true rfl
 | q :: s, d => by
  have h1 := radd_len p s (!Qb7 q p)
  cases d with
  | true =>
   have h2 : (addS p true s).length ≤ s.length := by rw [radd_t]; exact List.length_filter_le _ _
   show ([] ++ ((if q = p then [] else [q]) ++ addS p true s)).length ≤ _
   rw [List.nil_append, List.length_append, List.length_cons]
   split <;> simp <;> omega
  | false =>
   show ((if Qb7 q p = true then [] else [p]) ++ ((if q = p then [] else [q]) ++ addS p (!Qb7 q p) s)).length ≤ _
   rw [List.length_append, List.length_append, List.length_cons]
   by_cases hq : Qb7 q p = true
   ·rw [if_pos hq]; simp only [List.length_nil]; split <;> simp <;> omega
   ·rw [if_neg hq]
    have h2 : (addS p (!Qb7 q p) s).length ≤ s.length := by rw [Bool.eq_false_iff.2 hq]; show (addS p true s).length ≤ _; rw [radd_t]; exact List.length_filter_le _ _
    split <;> simp <;> omega
theorem rless_eq (q : S47) (a b : Int) : regcertref11_Less.f q.f0 q.f1 a b = some (Qb7 q ⟨a, b⟩) := by
 unfold regcertref11_Less.f
 show _ = some (Qd6 q.f0 q.f1 a b)
 unfold Qd6
 by_cases h : q.f0 = a
 ·rw [if_pos h, decide_eq_true h, h, decide_eq_false (Int.lt_irrefl a)]; rfl
 ·rw [if_neg h, decide_eq_false h]; simp
theorem rne_eq (q : S47) (a b : Int) : (!(q.f0 == a) || !(q.f1 == b)) = decide (q ≠ ⟨a, b⟩) := by
 obtain ⟨x, y⟩ := q
 by_cases h1 : x = a
 ·by_cases h2 : y = b
  ·subst h1; subst h2; simp
  ·simp [h1, h2]
 ·simp [h1]
theorem radd_go (l : List S47) (a b : Int) (hl : l.length ≤ 100000000) : ∀ m (i : Nat) (o : List S47) (d : Bool), l.length - i = m → i ≤ l.length → o.length ≤ 2 * i + 1 → Ev (fun k => Qad.l0 k l o d (i : Int) a b) (o ++ addS ⟨a, b⟩ d (l.drop i)) := by
 intro m
 induction m with
 | zero =>
  intro i o d hm hi ho
  rw [List.drop_of_length_le (by omega)]
  refine Ev.up (g := fun k => _) (fun k => by rw [Qad.l0]) (Ev.neg (by omega) ?_)
  cases d with
  | true => exact Ev.pos rfl (Ev.val (by simp [addS]))
  | false => exact Ev.neg (by simp) (Ev.pos (by omega) (Ev.val (by simp [addS])))
 | succ m ih =>
  intro i o d hm hi ho
  have hd : l.drop i = Qaa l (i : Int) :: l.drop (i + 1) := Qcg l z47 i (by omega)
  have hw : wrap64 ((i : Int) + 1) = ((i + 1 : Nat) : Int) := w64s (n := l.length) (by omega) (by omega)
  have h2 : ∀ (o2 : List S47) (d2 : Bool), o2.length ≤ 2 * i + 2 → Ev (fun k => Qad.j2 k l o2 d2 (i : Int) a b) (o2 ++ ((if Qaa l (i : Int) = ⟨a, b⟩ then [] else [Qaa l (i : Int)]) ++ addS ⟨a, b⟩ d2 (l.drop (i + 1)))) := fun o2 d2 ho2 => by
   refine Ev.up (g := fun k => _) (fun k => by rw [Qad.j2]) (Ev.pos (by omega) (Ev.pos (by omega) ?_))
   rw [rne_eq, hw]
   by_cases hq : Qaa l (i : Int) = ⟨a, b⟩
   ·rw [if_pos hq]
    exact Ev.neg (by simp [hq]) (ih (i + 1) o2 d2 (by omega) (by omega) (by omega))
   ·rw [if_neg hq]
    refine Ev.pos (decide_eq_true hq) (Ev.pos (by omega) ?_)
    have := ih (i + 1) (o2 ++ [Qaa l (i : Int)]) d2 (by omega) (by omega) (by simp; omega)
    rwa [List.append_assoc] at this
  refine Ev.up (g := fun k => _) (fun k => by rw [Qad.l0]) (Ev.pos (by omega) ?_)
  rw [hd]
  cases d with
  | true => exact Ev.pos rfl (Ev.up (g := fun k => _) (fun k => by rw [Qad.j1]) (Ev.neg (by simp) (h2 o true (by omega))))
  | false =>
   refine Ev.neg (by simp) (Ev.pos (by omega) (Ev.then (g := fun _ => _) ⟨0, fun _ _ => rless_eq _ a b⟩ ?_))
   show Ev _ (o ++ ((if Qb7 (Qaa l (i : Int)) ⟨a, b⟩ = true then [] else [⟨a, b⟩]) ++ ((if Qaa l (i : Int) = ⟨a, b⟩ then [] else [Qaa l (i : Int)]) ++ addS ⟨a, b⟩ (!Qb7 (Qaa l (i : Int)) ⟨a, b⟩) (l.drop (i + 1)))))
   cases hq : Qb7 (Qaa l (i : Int)) ⟨a, b⟩ with
   | true => exact Ev.up (g := fun k => _) (fun k => by rw [Qad.j1]) (Ev.neg (by simp) (h2 o false (by omega)))
   | false =>
    refine Ev.up (g := fun k => _) (fun k => by rw [Qad.j1]) (Ev.pos (by rfl) (Ev.pos (by omega) ?_))
    have := h2 (o ++ [⟨a, b⟩]) true (by simp; omega)
    rwa [List.append_assoc] at this
theorem radd_spec (l : List S47) (a b : Int) (hl : l.length ≤ 100000000) (hA : Asc l) : ∃ r, Ev (fun k => Qad.f k l a b) r ∧ Asc r ∧ r.length ≤ l.length + 1 ∧ ∀ q, q ∈ r ↔ q = ⟨a, b⟩ ∨ q ∈ l := by
 have := radd_go l a b hl _ 0 [] false rfl (by omega) (by simp)
 rw [List.drop_zero, List.nil_append] at this
 exact ⟨_, this, (radd_asc _ l hA).1, radd_len _ l false, (radd_asc _ l hA).2⟩
theorem rmake_go (l : List S47) (hl : l.length ≤ 10000000) : ∀ m (i : Nat) (o : List S47), l.length - i = m → i ≤ l.length → o.length ≤ i → Asc o → ∃ r, Ev (fun k => Qa0.l0 k l o (i : Int)) r ∧ Asc r ∧ ∀ q, q ∈ r ↔ q ∈ o ∨ q ∈ l.drop i := by
 intro m
 induction m with
 | zero =>
  intro i o hm hi ho hA
  rw [List.drop_of_length_le (by omega)]
  exact ⟨o, Ev.up (g := fun k => _) (fun k => by rw [Qa0.l0]) (Ev.neg (by omega) (Ev.val rfl)), hA, fun q => by simp⟩
 | succ m ih =>
  intro i o hm hi ho hA
  have hd : l.drop i = Qaa l (i : Int) :: l.drop (i + 1) := Qcg l z47 i (by omega)
  have hw : wrap64 ((i : Int) + 1) = ((i + 1 : Nat) : Int) := w64s (n := l.length) (by omega) (by omega)
  obtain ⟨r1, e1, a1, l1, m1⟩ := radd_spec o (Qaa l (i : Int)).f0 (Qaa l (i : Int)).f1 (by omega) hA
  obtain ⟨r, e2, a2, m2⟩ := ih (i + 1) r1 (by omega) (by omega) (by omega) a1
  refine ⟨r, Ev.up (g := fun k => _) (fun k => by rw [Qa0.l0]) (Ev.pos (by omega) (Ev.pos (by omega) (Ev.then e1 (by rw [hw]; exact e2)))), a2, fun q => ?_⟩
  rw [m2, m1, hd, List.mem_cons]
  exact ⟨fun h => by rcases h with (h | h) | h; exact .inr (.inl h); exact .inl h; exact .inr (.inr h), fun h => by rcases h with h | h | h; exact .inl (.inr h); exact .inl (.inl h); exact .inr h⟩
theorem rmake_spec (l : List S47) (hl : l.length ≤ 10000000) : ∃ r, Ev (fun k => Qa0.f k l) r ∧ Asc r ∧ ∀ q, q ∈ r ↔ q ∈ l := by
 obtain ⟨r, h1, h2, h3⟩ := rmake_go l hl _ 0 [] rfl (by omega) (by simp) List.Pairwise.nil
 exact ⟨r, h1, h2, fun q => by rw [h3]; simp⟩
theorem make_mem (x y : Int) (l : List S47) (hl : l.length ≤ 10000000) : ∃ r, Ev (fun k => Qa0.f k (l.map (swP x y))) r ∧ Asc r ∧ Mem x y l r := by
 obtain ⟨r, h1, h2, h3⟩ := rmake_spec (l.map (swP x y)) (by rw [List.length_map]; exact hl)
 refine ⟨r, h1, h2, fun p => ?_⟩
 rw [h3, List.mem_map]
 exact ⟨fun ⟨q, hq, e⟩ => by rw [← e, Qdw]; exact hq, fun h => ⟨_, h, Qdw x y p⟩⟩
theorem take_getD {α : Type} (l : List α) (z : α) (i : Nat) (h : i < l.length) : l.take i ++ [l.getD i z] = l.take (i + 1) := by
 rw [List.take_add_one, List.getD_eq_getElem?_getD, List.getElem?_eq_getElem h]; rfl
theorem copy07_ev (a r : Int) (l : List S39) (hl : l.length ≤ 1000) (hc : ∀ j : Nat, j < l.length → (Qag l (j : Int)).f0.length ≤ 1000) (x0 x1 : Int) : ∀ (n i : Nat), l.length - i = n → i ≤ l.length →
    Ev (fun k => Qar.l0 k (i : Int) a r l x0 x1 (l.take i)) (x0, x1, l) := by
 intro n
 induction n with
 | zero =>
  intro i hn hi
  exact Ev.up (g := fun k => _) (fun k => rfl) (Ev.neg (by omega) (Ev.val (by rw [List.take_of_length_le (by omega)])))
 | succ n ih =>
  intro i hn hi
  have hw : wrap64 ((i : Int) + 1) = ((i + 1 : Nat) : Int) := by rw [w64i (by omega) (by omega)]; omega
  have hci := hc i (by omega)
  have hk : (l.take i).length ≤ 1000 := by rw [List.length_take]; omega
  have := ih (i + 1) (by omega) (by omega)
  rw [← take_getD l z39 i (by omega)] at this
  refine Ev.up (g := fun k => _) (fun k => rfl) (Ev.pos (by omega) (Ev.then (a := ([] : List S41)) (Ev.val rfl) (Ev.pos (by omega) (Ev.pos (by simp only [List.length_nil]; omega) (Ev.pos (by omega) ?_)))))
  rw [hw]; exact this
theorem copy08_ev (a r s : Int) (l : List S57) (hl : l.length ≤ 1000) (hc : ∀ j : Nat, j < l.length → (Qaq l (j : Int)).f0.length ≤ 1000) (x0 x1 x2 : Int) : ∀ (n i : Nat), l.length - i = n → i ≤ l.length →
    Ev (fun k => Qap.l0 k (i : Int) a r s l x0 x1 x2 (l.take i)) (x0, x1, x2, l) := by
 intro n
 induction n with
 | zero =>
  intro i hn hi
  exact Ev.up (g := fun k => _) (fun k => rfl) (Ev.neg (by omega) (Ev.val (by rw [List.take_of_length_le (by omega)])))
 | succ n ih =>
  intro i hn hi
  have hw : wrap64 ((i : Int) + 1) = ((i + 1 : Nat) : Int) := by rw [w64i (by omega) (by omega)]; omega
  have hci := hc i (by omega)
  have hk : (l.take i).length ≤ 1000 := by rw [List.length_take]; omega
  have := ih (i + 1) (by omega) (by omega)
  rw [← take_getD l z57 i (by omega)] at this
  refine Ev.up (g := fun k => _) (fun k => rfl) (Ev.pos (by omega) (Ev.then (a := ([] : List S59)) (Ev.val rfl) (Ev.pos (by omega) (Ev.pos (by simp only [List.length_nil]; omega) (Ev.pos (by omega) ?_)))))
  rw [hw]; exact this
theorem copy16_ev (a0 a1 : Int) (l2 : List S39) (a3 a4 a5 : Int) (l6 : List S57) (l : List (List S47)) (hl : l.length ≤ 1000) (hc : ∀ j : Nat, j < l.length → (Qao l (j : Int)).length ≤ 1000) (x0 x1 : Int) (x2 : List S39) (x3 x4 x5 : Int) (x6 : List S57) : ∀ (n i : Nat), l.length - i = n → i ≤ l.length →
    Ev (fun k => Qah.l0 k (i : Int) a0 a1 l2 a3 a4 a5 l6 l x0 x1 x2 x3 x4 x5 x6 (l.take i)) (x0, x1, x2, x3, x4, x5, x6, l) := by
 intro n
 induction n with
 | zero =>
  intro i hn hi
  exact Ev.up (g := fun k => _) (fun k => rfl) (Ev.neg (by omega) (Ev.val (by rw [List.take_of_length_le (by omega)])))
 | succ n ih =>
  intro i hn hi
  have hw : wrap64 ((i : Int) + 1) = ((i + 1 : Nat) : Int) := by rw [w64i (by omega) (by omega)]; omega
  have hci := hc i (by omega)
  have hk : (l.take i).length ≤ 1000 := by rw [List.length_take]; omega
  have := ih (i + 1) (by omega) (by omega)
  rw [← take_getD l [] i (by omega)] at this
  refine Ev.up (g := fun k => _) (fun k => rfl) (Ev.pos (by omega) (Ev.then (a := ([] : List S47)) (Ev.val rfl) (Ev.pos (by omega) (Ev.pos (by simp only [List.length_nil]; omega) (Ev.pos (by omega) ?_)))))
  rw [hw]; exact this
theorem copy16 (a0 a1 : Int) (l2 : List S39) (a3 a4 a5 : Int) (l6 : List S57) (l7 : List (List S47)) (h2 : l2.length ≤ 1000) (h6 : l6.length ≤ 1000) (h7 : l7.length ≤ 1000)
    (c2 : ∀ j : Nat, j < l2.length → (Qag l2 (j : Int)).f0.length ≤ 1000) (c6 : ∀ j : Nat, j < l6.length → (Qaq l6 (j : Int)).f0.length ≤ 1000) (c7 : ∀ j : Nat, j < l7.length → (Qao l7 (j : Int)).length ≤ 1000) :
    Ev (fun k => Qah.f k a0 a1 l2 a3 a4 a5 l6 l7) (a0, a1, l2, a3, a4, a5, l6, l7) := by
 unfold Qah.f
 exact Ev.then (copy07_ev a0 a1 l2 h2 c2 a0 a1 _ 0 rfl (by omega)) (Ev.then (copy08_ev a3 a4 a5 l6 h6 c6 a3 a4 a5 _ 0 rfl (by omega)) (copy16_ev a0 a1 l2 a3 a4 a5 l6 l7 h7 c7 _ _ _ _ _ _ _ _ 0 rfl (by omega)))
theorem inr_ok {l r s : Int} (h : inrB l r s = true) : okLoc l r s := by
 unfold inrB at h
 have h0 : ¬ l < 0 := by intro h0; rw [decide_eq_true h0] at h; cases h
 rw [decide_eq_false h0] at h
 unfold okLoc Qbb.f Qaw.f Qbd.f
 simp only [Option.bind_some]
 cases ht : (Int.tmod l 2 == 1) with
 | true => rw [ht] at h; rw [if_pos rfl, if_pos (by omega)]; exact congrArg some h
 | false => rw [ht] at h; rw [if_neg (by simp), if_pos (by omega)]; exact congrArg some h
theorem mInB_ok {op d a b im ds sr n m : Int} (h : mInB op d a b im ds sr n m = 0) : okMIns op d a b im ds sr n m := by
 unfold mInB at h
 obtain ⟨h1, h⟩ := bz (by decide) h
 obtain ⟨h1, o3⟩ := Bool.or_eq_false_iff.1 h1
 obtain ⟨o1, o2⟩ := Bool.or_eq_false_iff.1 h1
 have o4 := of_decide_eq_false o1
 have o5 := of_decide_eq_false o2
 have o6 := beq_eq_false_iff_ne.1 o3
 have hm : isMach op := by
  unfold isMach opcode_Machine.f Qba.f
  rw [if_pos (show op ≥ 1 by omega)]
  simp only [Option.bind_some]
  rw [if_pos (decide_eq_true (show op ≤ 18 by omega)), bne_iff_ne.2 o6]
 refine ⟨hm, ?_⟩
 by_cases k : op = 18
 ·rw [if_pos k]
  rw [beq_iff_eq.2 k] at h
  obtain ⟨h2, h⟩ := bz (by decide) (show (bif !inrB ds n m || !inrB sr n m || ((Int.tmod ds 2 == 1) && (Int.tmod sr 2 == 1)) then (10 : Int) else bif (d != 0) || (a != 0) || (b != 0) || (im != 0) then 12 else 0) = 0 from h)
  obtain ⟨h3, _⟩ := bz (by decide) h
  obtain ⟨h2, u3⟩ := Bool.or_eq_false_iff.1 h2
  obtain ⟨u1, u2⟩ := Bool.or_eq_false_iff.1 h2
  obtain ⟨h3, v4⟩ := Bool.or_eq_false_iff.1 h3
  obtain ⟨h3, v3⟩ := Bool.or_eq_false_iff.1 h3
  obtain ⟨v1, v2⟩ := Bool.or_eq_false_iff.1 h3
  exact ⟨⟨u3, inr_ok (by simpa using u1), inr_ok (by simpa using u2)⟩, by simpa using v1, by simpa using v2, by simpa using v3, by simpa using v4⟩
 ·rw [if_neg k]
  rw [beq_eq_false_iff_ne.2 k] at h
  obtain ⟨h2, h3⟩ := bz (by decide) (show (bif (insR op d a b im n == 0) && ((ds != 0) || (sr != 0)) then (12 : Int) else insR op d a b im n) = 0 from h)
  rw [beq_iff_eq.2 h3, Bool.true_and] at h2
  obtain ⟨u1, u2⟩ := Bool.or_eq_false_iff.1 h2
  exact ⟨h3, by simpa using u1, by simpa using u2⟩
theorem less_ok {p q : S47} (h : lessBt p q = true) : ltP p q := by
 unfold lessBt at h
 unfold ltP Qa6.f
 by_cases e : p.f0 = q.f0
 ·rw [bne_eq_false_iff_eq.2 e] at h
  rw [if_neg (by omega), if_pos e]; exact congrArg some h
 ·rw [bne_iff_ne.2 e] at h
  rw [if_pos (of_decide_eq_true h)]
theorem runHead_take : ∀ (l : List S59) (n : Nat), n ≤ Qcd l → n ≤ Qcd (l.take n)
 | [], n, h => by simpa [Qcd] using h
 | m :: t, 0, h => Nat.zero_le _
 | m :: t, n + 1, h => by
  by_cases h18 : m.f0 = 18
  ·simp only [Qcd, if_pos h18] at h
   rw [List.take_succ_cons]
   simp only [Qcd, if_pos h18]
   exact Nat.succ_le_succ (runHead_take t n (by omega))
  ·simp only [Qcd, if_neg h18] at h
   omega
theorem runs_of {c : List S59} (h : ∀ i : Nat, i < c.length → 64 ≤ i → Qc0 ((c.take (i + 1)).drop (i - 64)) 0) : Qc0 c 0 := by
 rw [Qet]
 intro i
 by_cases hi : 65 ≤ Qcd (c.drop i)
 ·have h1 := runHead_le (c.drop i)
  rw [List.length_drop] at h1
  have h2 := h (i + 64) (by omega) (by omega)
  rw [Qet] at h2
  have h3 := h2 0
  rw [List.drop_zero, show i + 64 - 64 = i by omega, List.drop_take, show i + 64 + 1 - i = 65 by omega] at h3
  have h4 := runHead_take _ _ hi
  omega
 ·omega
theorem ref_all {sa sr ta tr ts : Int} {SB : List S39} {TB : List S57} {W : List (List S47)} (h : ((0 ≤ sa ∧ sa ≤ sr) ∧ SB.length ≠ 0 ∧ ∀ i : Nat, i < SB.length → okBrsrc (Qag SB (i : Int)) sr SB.length) ∧ (((0 ≤ ta ∧ ta ≤ ts) ∧ 0 ≤ tr) ∧ TB.length ≠ 0 ∧ ∀ i : Nat, i < TB.length → Qel (Qaq TB (i : Int)) tr ts TB.length) ∧ ((SB.length : Int) = (TB.length : Int) ∧ sa = ta) ∧ (W.length : Int) = (SB.length : Int) ∧ ∀ i : Nat, i < W.length → ∀ j : Nat, j < (Qao W (i : Int)).length → Qd5 (Qao W (i : Int)) sr tr ts j) : okAll sa sr SB ta tr ts TB W := by
 obtain ⟨⟨h1, h2, h3⟩, ⟨h4, h5, h6⟩, h7, h8, h9⟩ := h
 refine ⟨⟨h1, h2, fun i hi => ⟨fun j hj => (h3 i hi).1 j hj, (h3 i hi).2⟩⟩, ⟨h4, h5, fun i hi => ⟨⟨fun j hj => mInB_ok ((h6 i hi).1 j hj).1, runs_of fun j hj => ((h6 i hi).1 j hj).2⟩, (h6 i hi).2⟩⟩, h7, h8, fun i hi j hj => ?_⟩
 obtain ⟨g1, g2, g3⟩ := h9 i hi j hj
 exact ⟨g1, inr_ok g2, fun h0 => by rw [show ((j - 1 : Nat) : Int) = (j : Int) - 1 by omega]; exact less_ok (g3 h0)⟩
def tupS (r : S51) : Int × Int × Int × Int × Int × Int × Int := (r.f0, r.f1, r.f2, r.f3, r.f4, r.f5, r.f6)
theorem CheckS_ev {sa sr : Int} {SB : List S39} {ta tr ts : Int} {TB : List S57} {W : List (List S47)} {r : S51} (h : Ev (fun k => Qeb k sa sr SB ta tr ts TB W) r) : Ev (fun k => checker_Check.f k sa sr SB ta tr ts TB W) (tupS r) := by
 obtain ⟨K, h⟩ := h
 refine ⟨K, fun n hn => ?_⟩
 show (Qeb n sa sr SB ta tr ts TB W).map _ = _
 rw [show Qeb n sa sr SB ta tr ts TB W = some r from h n hn]; rfl
theorem sum2 {L : Nat → Int → Int → Option Int} {n : Nat} {x : Nat → Nat} (hn : n ≤ 1000) (hx : ∀ i, i < n → x i ≤ 1000)
    (hs : ∀ k (i : Nat) (s : Int), L (k + 1) s (i : Int) = if (i : Int) < (n : Int) then (if 0 ≤ (i : Int) then L k (wrap64 (s + (x i : Int))) (wrap64 ((i : Int) + 1)) else none) else some s) :
    ∃ v, Ev (fun k => L k 0 0) v ∧ v ≤ 1000000 := by
 have go : ∀ m (i : Nat) (s : Int), n - i = m → i ≤ n → 0 ≤ s → s ≤ 1000 * i → ∃ v, Ev (fun k => L k s (i : Int)) v ∧ v ≤ 1000 * n := by
  intro m
  induction m with
  | zero => exact fun i s hm hi h0 h1 => ⟨s, Ev.up (fun k => hs k _ _) (Ev.neg (by omega) (Ev.val rfl)), by omega⟩
  | succ m ih =>
   intro i s hm hi h0 h1
   have hxi := hx i (by omega)
   have hw : wrap64 (s + (x i : Int)) = s + (x i : Int) := w64i (by omega) (by omega)
   obtain ⟨v, hv, hb⟩ := ih (i + 1) (s + (x i : Int)) (by omega) (by omega) (by omega) (by omega)
   refine ⟨v, Ev.up (fun k => hs k _ _) (Ev.pos (by omega) (Ev.pos (by omega) ?_)), hb⟩
   rw [hw, w64s (n := n) (by omega) (by omega)]; exact hv
 obtain ⟨v, hv, hb⟩ := go n 0 0 (by omega) (by omega) (by omega) (by omega)
 exact ⟨v, hv, by omega⟩
theorem wfu8 {n : Int} (h : (Lit.int .u8 n).wf = true) : 0 ≤ n ∧ n < 256 := by
 have h : IntKind.u8.min ≤ n ∧ n ≤ IntKind.u8.max := by simpa [Lit.wf] using h
 have h1 : IntKind.u8.min = 0 := by decide
 have h2 : IntKind.u8.max = 255 := by decide
 omega
theorem ev_all {α : Type} {g : Nat → Nat → Option α} {r : Nat → α} : ∀ n : Nat, (∀ i, i < n → Ev (g i) (r i)) → ∃ K, ∀ k, K ≤ k → ∀ i, i < n → g i k = some (r i)
 | 0, _ => ⟨0, fun k _ i hi => by omega⟩
 | n + 1, h => by
  obtain ⟨K, hK⟩ := ev_all n (fun i hi => h i (by omega))
  obtain ⟨L, hL⟩ := h n (by omega)
  refine ⟨K + L, fun k hk i hi => ?_⟩
  by_cases e : i = n
  ·subst e; exact hL k (by omega)
  ·exact hK k (by omega) i (by omega)
theorem regs (x0 : S30) (a1 a2 : Int) (g : good30 x0) (g1 : (Lit.int .u8 a1).wf = true) (g2 : (Lit.int .u8 a2).wf = true) : ∃ k, Qbe.F k x0.f0.f0 x0.f0.f1 x0.f0.f2 x0.f1.f0 x0.f1.f1 x0.f1.f2 x0.f1.f3 x0.f2 a1 a2 := by
 obtain ⟨⟨sa, sr, SB⟩, ⟨ta, tr, ts, TB⟩, W⟩ := x0
 have m1 : maxLen ≤ 9223372036854775807 := by decide
 have g4 : SB.length ≤ maxLen := g.1.2.2.1
 have g5 : TB.length ≤ maxLen := g.2.1.2.2.2.1
 have g6 : W.length ≤ maxLen := g.2.2.1
 have p1 := wfu8 g1
 have p2 := wfu8 g2
 show ∃ k, Qbe.F k sa sr SB ta tr ts TB W a1 a2
 obtain ⟨b, ⟨K1, eb⟩, qb⟩ := few16 sa sr SB ta tr ts TB W (by omega) (by omega) (by omega)
 suffices h : ∃ K, ∀ n, K ≤ n → b = true → (∃ u1 u2, Qa5.f n sa sr SB = some u1 ∧ u1 ≤ 1000000 ∧ Qa4.f n ta tr ts TB = some u2 ∧ u2 ≤ 1000000 ∧ Bnd sr SB tr ts TB W) ∧ (refOk sa sr SB ta tr ts TB W → sr ≠ sa → wrap64 (sr - sa) ≠ 0 ∧ ∃ W' q, WR n sa sr SB ta tr ts TB W W' q (wrap64 (sa + Int.tmod (wrap64 a1) (wrap64 (sr - sa)))) (wrap64 (sa + Int.tmod (wrap64 a2) (wrap64 (sr - sa))))) from by
  obtain ⟨K3, h⟩ := h
  have n1 : K1 ≤ K1 + K3 := by omega
  have n3 : K3 ≤ K1 + K3 := by omega
  exact ⟨K1 + K3, rfl, b, eb _ n1, h _ n3⟩
 cases b with
 | false => exact ⟨0, fun n _ h => by cases h⟩
 | true =>
  obtain ⟨⟨n1, n2, n3⟩, ⟨n4, n5, n6, n7⟩, n8, n9⟩ := qb rfl
  have hB : Bnd sr SB tr ts TB W := ⟨by omega, by omega, by omega, by omega, by omega, by omega, fun i hi => by have := n3 i hi; omega, fun i hi => by have := n7 i hi; omega, fun i hi => by have := n9 i hi; omega⟩
  obtain ⟨u1, ⟨K3, h3⟩, h4⟩ := sum2 (L := fun k s i => Qa5.l0 k s i sa sr SB) (n := SB.length) (x := fun i => (Qag SB (i : Int)).f0.length) hB.l1 hB.c1 (fun k i s => rfl)
  obtain ⟨u2, ⟨K4, h5⟩, h6⟩ := sum2 (L := fun k s i => Qa4.l0 k s i ta tr ts TB) (n := TB.length) (x := fun i => (Qaq TB (i : Int)).f0.length) hB.l2 hB.c2 (fun k i s => rfl)
  by_cases hR : refOk sa sr SB ta tr ts TB W ∧ sr ≠ sa
  ·have hO := ref_all hR.1
   have hsa := hO.1.1
   have hsr := hR.2
   have hsb := hB.b1
   have e1 : wrap64 a1 = a1 := w64i (by omega) (by omega)
   have e2 : wrap64 a2 = a2 := w64i (by omega) (by omega)
   have e3 : wrap64 (sr - sa) = sr - sa := w64i (by omega) (by omega)
   have x0 : 0 ≤ Int.tmod a1 (sr - sa) := Int.tmod_nonneg _ p1.1
   have x1 : Int.tmod a1 (sr - sa) < sr - sa := Int.tmod_lt_of_pos _ (by omega)
   have y0 : 0 ≤ Int.tmod a2 (sr - sa) := Int.tmod_nonneg _ p2.1
   have y1 : Int.tmod a2 (sr - sa) < sr - sa := Int.tmod_lt_of_pos _ (by omega)
   rw [e1, e2, e3]
   generalize Int.tmod a1 (sr - sa) = X at x0 x1
   generalize Int.tmod a2 (sr - sa) = Y at y0 y1
   rw [show wrap64 (sa + X) = sa + X from w64i (by omega) (by omega), show wrap64 (sa + Y) = sa + Y from w64i (by omega) (by omega)]
   have hm : ∀ l : List S47, ∃ r, l.length ≤ 10000000 → Ev (fun k => Qa0.f k (l.map (swP (sa + X) (sa + Y)))) r ∧ Asc r ∧ Mem (sa + X) (sa + Y) l r := fun l => by
    by_cases h : l.length ≤ 10000000
    ·obtain ⟨r, hr⟩ := make_mem (sa + X) (sa + Y) l h
     exact ⟨r, fun _ => hr⟩
    ·exact ⟨[], fun h2 => absurd h2 h⟩
   obtain ⟨f, hf⟩ := Classical.axiomOfChoice hm
   have hrd : ∀ i : Nat, i < W.length → Qao (W.map f) (i : Int) = f (Qao W (i : Int)) := fun i hi => by
    show List.getD _ _ _ = f (List.getD _ _ _)
    rw [Int.toNat_natCast]
    exact map_getD f W i [] [] hi
   have hff : ∀ i : Nat, i < W.length → Ev (fun k => Qa0.f k ((Qao W (i : Int)).map (swP (sa + X) (sa + Y)))) (Qao (W.map f) (i : Int)) ∧ Asc (Qao (W.map f) (i : Int)) ∧ Mem (sa + X) (sa + Y) (Qao W (i : Int)) (Qao (W.map f) (i : Int)) := fun i hi => by
    rw [hrd i hi]
    exact hf _ (by have := hB.c3 i hi; omega)
   obtain ⟨K5, h7⟩ := ev_all (g := fun i k => Qa0.f k ((Qao W (i : Int)).map (swP (sa + X) (sa + Y)))) (r := fun i => Qao (W.map f) (i : Int)) W.length (fun i hi => (hff i hi).1)
   obtain ⟨r, hr1, hr2⟩ := check_rn (x := sa + X) (y := sa + Y) hB hO ⟨by omega, by omega⟩ ⟨by omega, by omega⟩ (List.length_map ..) (fun i hi => (hff i hi).2)
   obtain ⟨K6, h8⟩ := CheckS_ev hr1
   obtain ⟨K7, h9⟩ := CheckS_ev hr2
   obtain ⟨K8, h10⟩ := copy16 sa sr SB ta tr ts TB W (by omega) (by omega) (by omega) (fun i hi => by have := n3 i hi; omega) (fun i hi => by have := n7 i hi; omega) (fun i hi => by have := n9 i hi; omega)
   refine ⟨K3 + K4 + K5 + K6 + K7 + K8, fun n hn _ => ⟨⟨u1, u2, h3 n (by omega), h4, h5 n (by omega), h6, hB⟩, fun _ _ => ⟨by omega, W.map f, tupS r, ⟨h10 n (by omega), List.length_map .., by have := hO.2.2.2.1; omega, by have := hO.1.2.1; omega, fun i hi => h7 n (by omega) i hi, h9 n (by omega), h8 n (by omega)⟩⟩⟩⟩
  ·exact ⟨K3 + K4, fun n hn _ => ⟨⟨u1, u2, h3 n (by omega), h4, h5 n (by omega), h6, hB⟩, fun a b => absurd ⟨a, b⟩ hR⟩⟩
end Go.Proofs.YtchpkjgibloleaaGreat.Z
