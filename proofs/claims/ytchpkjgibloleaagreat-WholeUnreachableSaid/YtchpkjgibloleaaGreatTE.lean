/- TE -/
import Derived.Test.YtchpkjgibloleaaGreatTD
import Derived.Test.YtchpkjgibloleaaGreatProg
import Derived.Test.YtchpkjgibloleaaGreatTA
import Derived.Test.YtchpkjgibloleaaGreatTW
import Derived.Deep.Slices
import Derived.ProofKit
import Derived.OpenShut
import Derived.Test.YtchpkjgibloleaaGreatRows
import Derived.WalkKit
import Derived.ShutString
import Derived.ChangeOld
import Derived.Below
import Derived.SizedLaws
import Derived.Carry
namespace Go.Proofs.YtchpkjgibloleaaGreat.V
set_option maxRecDepth 100000
set_option maxHeartbeats 8000000
open Go
set_option linter.unusedVariables false
set_option linter.unusedSimpArgs false
def cellsA : AV → Option (List C1)
 | .c x => some [x]
 | .g l => some l
 | .t _ => none
theorem cellsA_R {ρ : Ren} {v : AV} {V : Value} {cs : List C1} (h : cellsA v = some cs) (hr : v.R ρ V) : ∃ L, All2 (C1.R ρ) cs L ∧ V.cells = L.toArray := by
 cases v with
 | c x =>
  simp [cellsA] at h; subst h
  refine ⟨[V], ⟨hr, trivial⟩, ?_⟩
  have h1 := C1.one hr
  cases V <;> first | rfl | simp [Value.oneCell'] at h1
 | g l => simp [cellsA] at h; subst h; obtain ⟨L, h1, rfl⟩ := hr; exact ⟨L, h1, rfl⟩
 | t l => simp [cellsA] at h
def fillA (place : Nat → Option (Nat × Nat)) (l : List C1) : List (Nat × AV) → Option (List C1)
 | [] => some l
 | (i, v) :: rest => match place i, cellsA v with
  | some (off, size), some cs => if cs.length = size ∧ off + cs.length ≤ l.length then fillA place (spl l off cs) rest else none
  | _, _ => none
theorem fold_spl (L : List Value) (off : Nat) : ∀ (vs : List Value) (k : Nat), off + k + vs.length ≤ L.length →
    ((vs.zipIdx k).foldl (fun (cs : Array Value) (x : Value × Nat) => cs.setIfInBounds (off + x.2) x.1) L.toArray) = (spl L (off + k) vs).toArray := by
 intro vs
 induction vs generalizing L with
 | nil => intro k h; simp [spl]
 | cons v vs ih =>
  intro k h
  simp only [List.length_cons] at h
  simp only [List.zipIdx_cons, List.foldl_cons]
  have h1 : (L.toArray.setIfInBounds (off + k) v) = (L.set (off + k) v).toArray := by simp
  rw [h1, ih _ _ (by simp; omega)]
  congr 1
  apply List.ext_getElem?
  intro j
  rw [spl_get (by simp; omega), spl_get (by simp; omega)]
  simp only [List.length_cons, List.getElem?_set]
  by_cases hj : j < off + k
  ·simp [hj, show j < off + (k + 1) by omega, show ¬ off + k = j by omega]
  ·by_cases hj2 : j = off + k
   ·subst hj2; simp [show off + k < L.length by omega]
   ·have e1 : ¬ j < off + (k + 1) := by omega
    simp only [hj, e1, if_false]
    by_cases hj3 : j < off + k + (vs.length + 1)
    ·have : j - (off + k) = (j - (off + (k + 1))) + 1 := by omega
     simp [show j < off + (k + 1) + vs.length by omega, hj3, this]
    ·simp [show ¬ j < off + (k + 1) + vs.length by omega, hj3, show ¬ off + k = j by omega]
theorem All2.spl {α β : Type} {R : α → β → Prop} {l cs : List α} {m L : List β} (h : All2 R l m) (hc : All2 R cs L) {o : Nat} (ho : o + cs.length ≤ l.length) : All2 R (spl l o cs) (spl m o L) := by
 have e1 := h.len
 have e2 := hc.len
 refine All2.of (by rw [spl_len ho, spl_len (by omega), e1]) fun i x hx => ?_
 rw [spl_get ho] at hx
 rw [spl_get (by omega), ← e2]
 split at hx
 ·rename_i hi; simp only [hi, if_true]; exact h.get i hx
 ·rename_i hi
  simp only [hi, if_false]
  split at hx
  ·rename_i hi2; simp only [hi2, if_true]; exact hc.get _ hx
  ·rename_i hi2; simp only [hi2, if_false]; exact h.get i hx
abbrev PartsR (ρ : Ren) : List (Nat × AV) → List (Nat × Value) → Prop := All2 (fun x y => x.1 = y.1 ∧ x.2.R ρ y.2)
theorem Qen {ρ : Ren} (place : Nat → Option (Nat × Nat)) : ∀ {parts : List (Nat × AV)} {PS : List (Nat × Value)} {l l' : List C1} {L : List Value}, All2 (C1.R ρ) l L → PartsR ρ parts PS → fillA place l parts = some l' →
    ∃ L', Instr.fill place L.toArray PS = some L'.toArray ∧ All2 (C1.R ρ) l' L'
 | [], [], l, l', L, hl, _, h => by
  simp [fillA] at h; subst h; exact ⟨L, rfl, hl⟩
 | (i, v) :: parts, (j, V) :: PS, l, l', L, hl, ⟨⟨h1, h2⟩, h3⟩, h => by
  simp only at h1 h2
  subst h1
  unfold fillA at h
  split at h
  ·rename_i off size cs hp hcs
   split at h
   ·rename_i hb
    obtain ⟨CL, hC, hV⟩ := cellsA_R hcs h2
    have e1 := hC.len
    have e2 := hl.len
    obtain ⟨L', hL', hr⟩ := Qen place (hl.spl hC hb.2) h3 h
    refine ⟨L', ?_, hr⟩
    unfold Instr.fill
    simp only [hp, hV]
    have hsz : CL.toArray.size = size := by simp; omega
    rw [if_neg (by simp; omega)]
    have := fold_spl L off CL 0 (by omega)
    simp only [Nat.add_zero] at this
    rw [← Array.foldl_toList, Array.toList_zipIdx]
    have e3 : (List.foldl (fun (cs : Array Value) (x : Value × Nat) => cs.setIfInBounds (off + x.2) x.1) L.toArray CL.toArray.toList.zipIdx) = (Go.Proofs.YtchpkjgibloleaaGreat.V.spl L off CL).toArray := this
    exact (congrArg (fun z => Instr.fill place z PS) e3).trans hL'
   ·cases h
  ·cases h
 | [], _ :: _, _, _, _, _, hp, _ => hp.elim
 | _ :: _, [], _, _, _, _, hp, _ => hp.elim
noncomputable def partsV (tm : List AV) : List (Nat × Operand) → Option (List (Nat × AV))
 | [] => some []
 | (i, x) :: l => match opV tm x, partsV tm l with
  | some v, some vs => some ((i, v) :: vs)
  | _, _ => none
theorem Qd7 {ρ : Ren} {tm : List AV} {a : Act} (h : RT ρ tm a) : ∀ {l : List (Nat × Operand)} {vs : List (Nat × AV)}, partsV tm l = some vs → PartsR ρ vs (l.map fun (i, x) => (i, a.eval x))
 | [], vs, hv => by simp [partsV] at hv; subst hv; trivial
 | (i, x) :: l, vs, hv => by
  unfold partsV at hv
  split at hv
  ·rename_i v vs' h1 h2
   simp at hv; subst hv
   exact ⟨⟨rfl, Qax h h1⟩, Qd7 h h2⟩
  ·cases hv
section
variable {P : Program} {ρ : Ren}
def zeroA (P : Program) (t : TypeId) : Option (List C1) :=
 match P.info? t with
 | some i => match i.zero with
  | some z => absCs z.cells.toList
  | none => none
 | none => none
def placesA (P : Program) : List Field → Option (List (Nat × Nat))
 | [] => some []
 | f :: fs => match P.info? f.type, placesA P fs with
  | some i, some l => some ((f.offset, i.size) :: l)
  | _, _ => none
theorem placesA_eq : ∀ {fs : List Field} {l : List (Nat × Nat)}, placesA P fs = some l → fs.mapM (fun f => (P.info? f.type).map fun i => (f.offset, i.size)) = some l
 | [], l, h => by simp [placesA] at h; subst h; rfl
 | f :: fs, l, h => by
  unfold placesA at h
  split at h
  ·rename_i i l' hi hl
   simp at h; subst h
   simp [List.mapM_cons, hi, placesA_eq hl]
  ·cases h
def evBuild (P : Program) (t : TypeId) (parts : List (Nat × AV)) : Option AV :=
 match zeroA P t, P.underlying t with
 | some z, some (.struct fields) => match placesA P fields.toList with
  | some pl => (fillA (fun i => pl[i]?) z parts).map .g
  | none => none
 | _, _ => none
theorem evBuild_sound {t : TypeId} {parts : List (Nat × AV)} {PS : Array (Nat × Value)} {r : AV} (hp : PartsR ρ parts PS.toList) (h : evBuild P t parts = some r) :
    ∃ V', r.R ρ V' ∧ ∀ w, (Instr.build t PS).run P w = .ok V' w := by
 unfold evBuild at h
 split at h
 ·rename_i z fields hz hu
  split at h
  ·rename_i pl hpl
   obtain ⟨l', hl', rfl⟩ := Option.map_eq_some_iff.1 h
   unfold zeroA at hz
   split at hz
   ·rename_i i hi
    split at hz
    ·rename_i zv hzv
     obtain ⟨L', hL', hr⟩ := Qen (fun i => pl[i]?) (absCs_R (ρ := ρ) hz) hp hl'
     refine ⟨.agg L'.toArray, ⟨L', hr, rfl⟩, fun w => run_build w t PS _ ?_⟩
     unfold Program.built
     simp only [hi, hu, hzv, placesA_eq hpl]
     simpa using hL'
    ·cases hz
   ·cases hz
  ·cases h
 ·cases h
def aggB (P : Program) (t : TypeId) : Option Bool :=
 match P.underlying t with
 | some (.struct _) | some (.array _ _) => some true
 | some _ => some false
 | none => none
theorem aggB_run {t : TypeId} {b : Bool} (h : aggB P t = some b) (w : World) : (isAgg t).run P w = .ok b w := by
 unfold aggB at h
 split at h
 ·rename_i hu; simp at h; subst h; simp [isAgg, run_underlying hu]
 ·rename_i hu; simp at h; subst h; simp [isAgg, run_underlying hu]
 ·rename_i d h1 h2 hu
  simp at h; subst h
  simp only [isAgg, Sem.run_bind, run_underlying hu, Result.andThen_ok]
  cases d <;> first | rfl | (exact absurd rfl (h1 _)) | (exact absurd rfl (h2 _ _))
 ·cases h
theorem All2.ext {α β : Type} {R : α → β → Prop} {l : List α} {m : List β} (h : All2 R l m) (o n : Nat) : All2 R ((l.drop o).take n) ((m.drop o).take n) := by
 have e := h.len
 refine All2.of (by simp [e]) fun i x hx => ?_
 rw [List.getElem?_take] at hx ⊢
 split at hx
 ·rename_i hi
  simp only [hi, if_true]
  rw [List.getElem?_drop] at hx ⊢
  exact h.get _ hx
 ·cases hx
def evField (P : Program) (t : TypeId) (v : AV) (f : Nat) : Option AV :=
 match v, P.underlying t with
 | .g l, some (.struct fields) => match fields[f]? with
  | some fd => match aggB P fd.type, P.info? fd.type with
   | some true, some i => some (.g ((l.drop fd.offset).take i.size))
   | some false, _ => (l[fd.offset]?).map .c
   | _, _ => none
  | none => none
 | _, _ => none
theorem evField_sound {t : TypeId} {v r : AV} {V : Value} {f : Nat} (hv : v.R ρ V) (h : evField P t v f = some r) :
    ∃ V', r.R ρ V' ∧ ∀ w, (Instr.field t V f).run P w = .ok V' w := by
 unfold evField at h
 split at h
 ·rename_i l fields hu
  obtain ⟨L, hL, rfl⟩ := hv
  split at h
  ·rename_i fd hf
   split at h
   ·rename_i i hag hi
    simp at h; subst h
    refine ⟨.agg ((L.drop fd.offset).take i.size).toArray, ⟨_, hL.ext _ _, rfl⟩, fun w => ?_⟩
    simp [Instr.field, run_underlying hu, hf, asAgg, part, aggB_run hag, Qcp hi]
   ·rename_i hag
    obtain ⟨x, hx, rfl⟩ := Option.map_eq_some_iff.1 h
    obtain ⟨y, hy, hr⟩ := hL.get _ hx
    refine ⟨y, hr, fun w => ?_⟩
    simp [Instr.field, run_underlying hu, hf, asAgg, part, aggB_run hag, hy]
   ·cases h
  ·cases h
 ·cases h
def evExtract (v : AV) (k : Nat) : Option AV :=
 match v with
 | .t l => match l[k]? with
  | some (.c x) => some (.c x)
  | some (.g m) => some (.g m)
  | none => none
 | _ => none
theorem evExtract_sound {v r : AV} {V : Value} {k : Nat} (hv : v.R ρ V) (h : evExtract v k = some r) :
    ∃ V', r.R ρ V' ∧ ∀ w, (Instr.extract V k).run P w = .ok V' w := by
 unfold evExtract at h
 split at h
 ·rename_i l
  obtain ⟨L, hL, rfl⟩ := hv
  split at h
  ·rename_i x hx
   simp at h; subst h
   obtain ⟨y, hy, hr⟩ := hL.get _ hx
   exact ⟨y, hr, fun w => by simp [Instr.extract, hy]⟩
  ·rename_i x hx
   simp at h; subst h
   obtain ⟨y, hy, hr⟩ := hL.get _ hx
   exact ⟨y, hr, fun w => by simp [Instr.extract, hy]⟩
  ·cases h
 ·cases h
def nilA : AV → Option Bool
 | .c (.c (.p none)) => some true
 | .c (.c (.p (some _))) => some false
 | .c (.c (.s none _ _ _ _)) => some true
 | .c (.c (.s (some _) _ _ _ _)) => some false
 | .c (.c .nilF) => some true
 | .c (.f _ _ _) => some false
 | _ => none
def kindOk (P : Program) (t : TypeId) (x y : AV) : Bool :=
 match P.underlying t, x, y with
 | some (.pointer _), .c (.c (.p _)), .c (.c (.p _)) => true
 | some (.slice _), .c (.c (.s ..)), .c (.c (.s ..)) => true
 | _, _, _ => false
def evNil (P : Program) (t : TypeId) (x y : AV) : Option Bool :=
 match nilA x, nilA y with
 | some a, some b => if (a || b) && kindOk P t x y then some (a && b) else none
 | _, _ => none
theorem eq_p1 {t e : TypeId} (hu : P.underlying t = some (.pointer e)) (d : Nat) (b : Option Addr) (w : World) : (Op.equalIn (d + 1) t (.pointer none) (.pointer b)).run P w = .ok b.isNone w := by
 simp only [Op.equalIn, Sem.run_bind, run_underlying hu, Result.andThen_ok]; rfl
theorem eq_p2 {t e : TypeId} (hu : P.underlying t = some (.pointer e)) (d : Nat) (b : Addr) (w : World) : (Op.equalIn (d + 1) t (.pointer (some b)) (.pointer none)).run P w = .ok false w := by
 simp only [Op.equalIn, Sem.run_bind, run_underlying hu, Result.andThen_ok]; rfl
theorem eq_s1 {t e : TypeId} (hu : P.underlying t = some (.slice e)) (d : Nat) (b : Option Addr) (l c l' c' : Nat) (w : World) : (Op.equalIn (d + 1) t (.slice none l c) (.slice b l' c')).run P w = .ok b.isNone w := by
 simp only [Op.equalIn, Sem.run_bind, run_underlying hu, Result.andThen_ok]; rfl
theorem eq_s2 {t e : TypeId} (hu : P.underlying t = some (.slice e)) (d : Nat) (b : Addr) (l c l' c' : Nat) (w : World) : (Op.equalIn (d + 1) t (.slice (some b) l c) (.slice none l' c')).run P w = .ok false w := by
 simp only [Op.equalIn, Sem.run_bind, run_underlying hu, Result.andThen_ok]; rfl
theorem evNil_sound {t : TypeId} {x y : AV} {X Y : Value} {b : Bool} (hx : x.R ρ X) (hy : y.R ρ Y) (h : evNil P t x y = some b) :
    ∀ w, (Op.equal t X Y).run P w = .ok b w := by
 intro w
 show (Op.equalIn (9999 + 1) t X Y).run P w = .ok b w
 unfold evNil at h
 split at h
 ·rename_i p q hp hq
  split at h
  ·rename_i hc
   simp at h; subst h
   simp only [Bool.and_eq_true] at hc
   obtain ⟨hc, hk⟩ := hc
   unfold kindOk at hk
   split at hk
   ·rename_i e a1 a2 hu
    cases a1 <;> cases a2 <;> simp [nilA] at hp hq <;> subst hp <;> subst hq
    ·cases hx; cases hy; exact eq_p1 hu _ _ _
    ·cases hx; obtain ⟨g, z, _, rfl⟩ := hy; exact eq_p1 hu _ _ _
    ·cases hy; obtain ⟨g, z, _, rfl⟩ := hx; exact eq_p2 hu _ _ _
    ·simp at hc
   ·rename_i e a1 _ _ _ _ a2 _ _ _ _ hu
    cases a1 <;> cases a2 <;> simp [nilA] at hp hq <;> subst hp <;> subst hq
    ·cases hx; cases hy; exact eq_s1 hu _ _ _ _ _ _ _
    ·cases hx; obtain ⟨g, z, c, _, rfl, _⟩ := hy; exact eq_s1 hu _ _ _ _ _ _ _
    ·cases hy; obtain ⟨g, z, c, _, rfl, _⟩ := hx; exact eq_s2 hu _ _ _ _ _ _ _
    ·simp at hc
   ·cases hk
  ·cases h
 ·cases h
def c0A : AV → Option C0
 | .c (.c x) => some x
 | _ => none
def c0s : List AV → Option (List C0)
 | [] => some []
 | v :: l => match c0A v, c0s l with
  | some x, some xs => some (x :: xs)
  | _, _ => none
theorem c0s_R : ∀ {l : List AV} {xs : List C0} {L : List Value}, c0s l = some xs → All2 (AV.R ρ) l L → All2 (C0.R ρ) xs L
 | [], xs, [], h, _ => by simp [c0s] at h; subst h; trivial
 | v :: l, xs, V :: L, h, ⟨h1, h2⟩ => by
  unfold c0s at h
  split at h
  ·rename_i x xs' hx hxs
   simp at h; subst h
   refine ⟨?_, c0s_R hxs h2⟩
   unfold c0A at hx
   split at hx
   ·simp at hx; subst hx; exact h1
   ·cases hx
  ·cases h
 | [], _, _ :: _, _, hh => hh.elim
 | _ :: _, _, [], _, hh => hh.elim
noncomputable def evFunc (tm : List AV) (fn : Fn) (first cap : List Operand) : Option AV :=
 match fn, opsV tm first, opsV tm cap with
 | .func f, some a, some b => match c0s a, c0s b with
  | some x, some y => some (.c (.f f x y))
  | _, _ => none
 | _, _, _ => none
def lim : IntKind → Nat
 | .i64 => 9223372036854775808
 | .u64 => 18446744073709551616
 | .u8 => 256
 | _ => 0
noncomputable def forceN {α : Type} (n : Nat) (f : Nat → α) : α := @Nat.rec (fun _ => α) (f 0) (fun p _ => f (p + 1)) n
theorem Qdd {α : Type} (n : Nat) (f : Nat → α) : forceN n f = f n := by cases n <;> rfl
def sameK : IntKind → IntKind → Bool
 | .i64, .i64 => true
 | .u64, .u64 => true
 | .u8, .u8 => true
 | _, _ => false
theorem sameK_eq {k k' : IntKind} (h : sameK k k' = true) : k = k' := by cases k <;> cases k' <;> simp [sameK] at h <;> rfl
noncomputable def fastBin (op : BinOp) (k k' : IntKind) (m n : Nat) : Option C0 :=
 cond (sameK k k') (match op with
  | .add => forceN (m + n) fun r => cond (Nat.blt r (lim k)) (some (.i k (.ofNat r))) none
  | .mul => forceN (m * n) fun r => cond (Nat.blt r (lim k)) (some (.i k (.ofNat r))) none
  | .sub => cond (Nat.ble n m && Nat.blt m (lim k)) (forceN (m - n) fun r => some (.i k (.ofNat r))) none
  | .eql => some (.b (Nat.beq m n))
  | .neq => some (.b (!Nat.beq m n))
  | .lss => some (.b (Nat.blt m n))
  | .leq => some (.b (Nat.ble m n))
  | .gtr => some (.b (Nat.blt n m))
  | .geq => some (.b (Nat.ble n m))
  | _ => none) none
theorem Qed {k : IntKind} {n : Nat} (h : n < lim k) : k.wrap (n : Int) = n := by
 cases k <;> simp [lim] at h <;> simp [IntKind.wrap, IntKind.bits, IntKind.signed] <;> omega
theorem eqGuard_int (op : BinOp) (t : TypeId) (x y : Operand) (k k' : IntKind) (m n : Int) (w : World) : (eqGuard op t x y (.int k m) (.int k' n)).run P w = .ok () w := by
 unfold eqGuard; split <;> rfl
theorem fastBin_sound {op : BinOp} {k k' : IntKind} {m n : Nat} {r : C0} (h : fastBin op k k' m n = some r) (t : TypeId) :
    ∃ V, r.R ρ V ∧ ∀ w, (binOp op t (.int k (.ofNat m)) (.int k' (.ofNat n))).run P w = .ok V w := by
 unfold fastBin at h
 cases hk : sameK k k' with
 | false => simp [hk] at h
 | true =>
  have := sameK_eq hk
  subst this
  rw [hk] at h
  simp only [cond_true, Qdd] at h
  cases op <;> simp only at h
  case add =>
   cases hb : Nat.blt (m + n) (lim k) with
   | false => simp [hb] at h
   | true =>
    simp [hb] at h; subst h
    refine ⟨_, rfl, fun w => ?_⟩
    have h1 : m + n < lim k := by simpa [Nat.blt_eq] using hb
    have h2 : k.wrap ((m : Int) + (n : Int)) = (m : Int) + (n : Int) := by have := Qed h1; simpa using this
    simp [binOp, Op.intArith, h2]
  case mul =>
   cases hb : Nat.blt (m * n) (lim k) with
   | false => simp [hb] at h
   | true =>
    simp [hb] at h; subst h
    refine ⟨_, rfl, fun w => ?_⟩
    have h1 : m * n < lim k := by simpa [Nat.blt_eq] using hb
    have h2 : k.wrap ((m : Int) * (n : Int)) = (m : Int) * (n : Int) := by have := Qed h1; simpa using this
    simp [binOp, Op.intArith, h2]
  case sub =>
   cases hb : (Nat.ble n m && Nat.blt m (lim k)) with
   | false => simp [hb] at h
   | true =>
    rw [hb] at h
    simp at h; subst h
    simp only [Bool.and_eq_true] at hb
    have h0 : n ≤ m := Nat.le_of_ble_eq_true hb.1
    have h1 : m < lim k := by simpa [Nat.blt_eq] using hb.2
    refine ⟨_, rfl, fun w => ?_⟩
    have h2 := Qed (show m - n < lim k by omega)
    have h3 : (m : Int) - (n : Int) = ((m - n : Nat) : Int) := by omega
    simp [binOp, Op.intArith, h3, h2]
  case eql =>
   simp at h; subst h
   refine ⟨_, rfl, fun w => ?_⟩
   have : ((m : Int) == (n : Int)) = Nat.beq m n := by rw [Bool.eq_iff_iff]; simp only [beq_iff_eq, Nat.beq_eq]; omega
   simp [binOp, Op.intCmp, this]
  case neq =>
   simp at h; subst h
   refine ⟨_, rfl, fun w => ?_⟩
   have : ((m : Int) != (n : Int)) = !Nat.beq m n := by
    have h1 : ((m : Int) == (n : Int)) = Nat.beq m n := by rw [Bool.eq_iff_iff]; simp only [beq_iff_eq, Nat.beq_eq]; omega
    simp only [bne, h1]
   simp [binOp, Op.intCmp, this]
  case lss =>
   simp at h; subst h
   refine ⟨_, rfl, fun w => ?_⟩
   have : decide ((m : Int) < (n : Int)) = Nat.blt m n := by rw [Bool.eq_iff_iff]; simp [Nat.blt_eq]
   simp [binOp, Op.intCmp, ← this]
  case leq =>
   simp at h; subst h
   refine ⟨_, rfl, fun w => ?_⟩
   have : decide ((m : Int) ≤ (n : Int)) = Nat.ble m n := by rw [Bool.eq_iff_iff]; simp [Nat.ble_eq]
   simp [binOp, Op.intCmp, ← this]
  case gtr =>
   simp at h; subst h
   refine ⟨_, rfl, fun w => ?_⟩
   have : decide ((n : Int) < (m : Int)) = Nat.blt n m := by rw [Bool.eq_iff_iff]; simp [Nat.blt_eq]
   simp [binOp, Op.intCmp, ← this]
  case geq =>
   simp at h; subst h
   refine ⟨_, rfl, fun w => ?_⟩
   have : decide ((n : Int) ≤ (m : Int)) = Nat.ble n m := by rw [Bool.eq_iff_iff]; simp [Nat.ble_eq]
   simp [binOp, Op.intCmp, ← this]
  all_goals cases h
noncomputable def fastConv (P : Program) (src dst : TypeId) (m : Nat) : Option C0 :=
 match P.underlying src, P.underlying dst with
 | some _, some (.int k) => cond (Nat.blt m (lim k)) (some (.i k (.ofNat m))) none
 | _, _ => none
theorem fastConv_sound {src dst : TypeId} {m : Nat} {r : C0} {k : IntKind} (h : fastConv P src dst m = some r) : ∃ V, r.R ρ V ∧ ∀ w, (convert src dst (.int k (.ofNat m))).run P w = .ok V w := by
 unfold fastConv at h
 split at h
 ·rename_i d k' h1 h2
  cases hb : Nat.blt m (lim k') with
  | false => simp [hb] at h
  | true =>
   simp [hb] at h; subst h
   have h3 : m < lim k' := by simpa [Nat.blt_eq] using hb
   refine ⟨_, rfl, fun w => ?_⟩
   have h4 := Qed h3
   simp [convert, run_underlying h1, run_underlying h2, Conv.intToInt, h4]
 ·cases h
def nilBin (P : Program) (op : BinOp) (t : TypeId) (u v : AV) : Option Bool :=
 match op with
 | .eql => evNil P t u v
 | .neq => (evNil P t u v).map (!·)
 | _ => none
noncomputable def evPure (P : Program) (tm : List AV) (o : Oper) : Option AV :=
 match o.op with
 | .move x | .assign x => opV tm x
 | .pick c x y => match opV tm c with
  | some (.c (.c (.b t))) => if t then opV tm x else opV tm y
  | _ => none
 | .extract x k => (opV tm x).bind fun v => evExtract v k
 | .nilCheck x => match opV tm x with
  | some (.c (.c (.p (some y)))) => some (.c (.c (.p (some y))))
  | some (.c (.f f x y)) => some (.c (.f f x y))
  | _ => none
 | .fieldAddr s x f => (opV tm x).bind fun v => Qep P s v f
 | .field s x f => (opV tm x).bind fun v => evField P s v f
 | .indexAddr t x ix => match opV tm x, opV tm ix with
  | some v, some j => Qeo P t v j
  | _, _ => none
 | .slice t x none none none => (opV tm x).bind fun v => evSlice P t v none none
 | .slice t x (some l) none none => match opV tm x, opV tm l with
  | some v, some l => evSlice P t v (some l) none
  | _, _ => none
 | .slice t x none (some h) none => match opV tm x, opV tm h with
  | some v, some h => evSlice P t v none (some h)
  | _, _ => none
 | .slice t x (some l) (some h) none => match opV tm x, opV tm l, opV tm h with
  | some v, some l, some h => evSlice P t v (some l) (some h)
  | _, _, _ => none
 | .makeFunc fn first cap => evFunc tm fn first.toList cap.toList
 | .build t parts => (partsV tm parts.toList).bind fun ps => evBuild P t ps
 | .binOp op t x y _ => match opV tm x, opV tm y with
  | some (.c (.c (.i k (.ofNat m)))), some (.c (.c (.i k' (.ofNat n)))) => match fastBin op k k' m n with
   | some r => some (.c (.c r))
   | none => runLit P tm o
  | some u, some v => match nilBin P op t u v with
   | some r => some (.c (.c (.b r)))
   | none => runLit P tm o
  | _, _ => runLit P tm o
 | .convert src dst x => match opV tm x with
  | some (.c (.c (.i _ (.ofNat m)))) => match fastConv P src dst m with
   | some r => some (.c (.c r))
   | none => runLit P tm o
  | _ => runLit P tm o
 | .unOp .. | .index .. => runLit P tm o
 | .call { callee := .builtin .max, .. } | .call { callee := .builtin .min, .. } => runLit P tm o
 | .call { callee := .builtin .len, args, argTypes } => match args.toList, argTypes.toList with
  | [x], [t] => match opV tm x, P.underlying t with
   | some (.c (.c (.s (some _) len _ _ _))), some (.slice _) => some (.c (.c (.i .i64 len)))
   | some (.c (.c (.s none _ _ _ _))), some (.slice _) => some (.c (.c (.i .i64 0)))
   | _, _ => none
  | _, _ => none
 | _ => none
theorem Qc8 {o : Oper} {a : Act} {s : Sem Value} {V : Value} (ho : execOp a.eval o = (do pure (.value (← s)))) (hs : ∀ w, s.run P w = .ok V w) : ∀ w, (execOp a.eval o).run P w = .ok (.value V) w := by
 intro w; rw [ho]; simp [hs w]
theorem evFunc_sound {tm : List AV} {a : Act} (h : RT ρ tm a) {fn : Fn} {first cap : Array Operand} {r : AV} (he : evFunc tm fn first.toList cap.toList = some r) :
    r.R ρ (.func fn (first.map a.eval) (cap.map a.eval)) := by
 unfold evFunc at he
 split at he
 ·rename_i f x y hx hy
  split at he
  ·rename_i x' y' hx' hy'
   simp at he; subst he
   refine ⟨first.toList.map a.eval, cap.toList.map a.eval, c0s_R hx' (Qeg h hx), c0s_R hy' (Qeg h hy), ?_⟩
   congr 1 <;> (apply Array.ext'; simp)
  ·cases he
 ·cases he
theorem evNil_shape {t : TypeId} {A B : Value} {av bv : AV} {r : Bool} (h1 : av.R ρ A) (h2 : bv.R ρ B) (h : evNil P t av bv = some r) :
    (∃ x y, A = .pointer x ∧ B = .pointer y) ∨ ∃ x l c x' l' c', A = .slice x l c ∧ B = .slice x' l' c' := by
 unfold evNil at h
 split at h
 ·split at h
  ·rename_i hc
   simp only [Bool.and_eq_true] at hc
   have hk := hc.2
   unfold kindOk at hk
   split at hk
   ·rename_i a1 a2 hu
    left
    have key : ∀ (a : Option (Nat × Nat)) (V : Value), C0.R ρ (.p a) V → ∃ x, V = .pointer x := by
     intro a V hV
     cases a with
     | none => exact ⟨_, hV⟩
     | some a => obtain ⟨g, z, _, hV⟩ := hV; exact ⟨_, hV⟩
    obtain ⟨x, hx⟩ := key _ _ h1
    obtain ⟨y, hy⟩ := key _ _ h2
    exact ⟨x, y, hx, hy⟩
   ·rename_i hu
    right
    have key : ∀ (a : Option (Nat × Nat)) (l : Nat) (c : Option Nat) (s : Nat) (f : Bool) (V : Value), C0.R ρ (.s a l c s f) V → ∃ x l c, V = .slice x l c := by
     intro a l c s f V hV
     cases a with
     | none => exact ⟨_, _, _, hV⟩
     | some a => obtain ⟨g, z, c, _, hV, _⟩ := hV; exact ⟨_, _, _, hV⟩
    obtain ⟨x, l, c, hx⟩ := key _ _ _ _ _ _ h1
    obtain ⟨x', l', c', hy⟩ := key _ _ _ _ _ _ h2
    exact ⟨x, l, c, x', l', c', hx, hy⟩
   ·cases hk
  ·cases h
 ·cases h
theorem eqGuard_nil {op : BinOp} {t : TypeId} {x y : Operand} {A B : Value} {av bv : AV} {r : Bool} (h1 : av.R ρ A) (h2 : bv.R ρ B) (h : evNil P t av bv = some r) (w : World) : (eqGuard op t x y A B).run P w = .ok () w := by
 rcases evNil_shape h1 h2 h with ⟨x, y, rfl, rfl⟩ | ⟨x, l, c, x', l', c', rfl, rfl⟩ <;> unfold eqGuard <;> split <;> rfl
theorem binOp_nil {t : TypeId} {A B : Value} {av bv : AV} {r : Bool} (h1 : av.R ρ A) (h2 : bv.R ρ B) (h : evNil P t av bv = some r) :
    binOp .eql t A B = (do pure (.bool (← Op.equal t A B))) ∧ binOp .neq t A B = (do pure (.bool (!(← Op.equal t A B)))) := by
 rcases evNil_shape h1 h2 h with ⟨x, y, rfl, rfl⟩ | ⟨x, l, c, x', l', c', rfl, rfl⟩ <;> exact ⟨rfl, rfl⟩
theorem evPure_sound {tm : List AV} {a : Act} {o : Oper} {v : AV} (h : RT ρ tm a) (he : evPure P tm o = some v) :
    ∃ V, v.R ρ V ∧ ∀ w, (execOp a.eval o).run P w = .ok (.value V) w := by
 obtain ⟨dst, op, ty, pos, after, guard⟩ := o
 unfold evPure at he
 simp only at he
 split at he
 ·exact ⟨_, Qax h he, fun w => rfl⟩
 ·exact ⟨_, Qax h he, fun w => rfl⟩
 ·rename_i c x y
  split at he
  ·rename_i t hc
   have h1 : a.eval c = .bool t := Qax h hc
   refine ⟨if t then a.eval x else a.eval y, ?_, fun w => ?_⟩
   ·split at he <;> rename_i ht <;> simp only [ht, if_true, if_false] <;> exact Qax h he
   ·simp [execOp, h1, asBool]
  ·cases he
 ·obtain ⟨u, hu, he⟩ := Option.bind_eq_some_iff.1 he
  obtain ⟨V, hV, hr⟩ := evExtract_sound (P := P) (Qax h hu) he
  exact ⟨V, hV, Qc8 rfl hr⟩
 ·rename_i x
  split at he
  ·rename_i y hy
   simp at he; subst he
   obtain ⟨n, o⟩ := y
   obtain ⟨g, z, h1, h2⟩ := Qax h hy
   refine ⟨_, ⟨g, z, h1, rfl⟩, fun w => ?_⟩
   simp only [execOp, h2]; rfl
  ·rename_i f fx fy hy
   simp at he; subst he
   obtain ⟨F, C, h1, h2, h3⟩ := Qax h hy
   refine ⟨_, ⟨F, C, h1, h2, rfl⟩, fun w => ?_⟩
   simp only [execOp, h3]; rfl
  ·cases he
 ·obtain ⟨u, hu, he⟩ := Option.bind_eq_some_iff.1 he
  obtain ⟨V, hV, hr⟩ := evFieldAddr_sound (Qax h hu) he
  exact ⟨V, hV, Qc8 rfl hr⟩
 ·obtain ⟨u, hu, he⟩ := Option.bind_eq_some_iff.1 he
  obtain ⟨V, hV, hr⟩ := evField_sound (Qax h hu) he
  exact ⟨V, hV, Qc8 rfl hr⟩
 ·split at he
  ·rename_i u j hu hj
   obtain ⟨V, hV, hr⟩ := evIndexAddr_sound (Qax h hu) (Qax h hj) he
   exact ⟨V, hV, Qc8 rfl hr⟩
  ·cases he
 ·obtain ⟨u, hu, he⟩ := Option.bind_eq_some_iff.1 he
  obtain ⟨V, hV, hr⟩ := Qdg (lo := none) (hi := none) (LO := none) (HI := none) (Qax h hu) trivial trivial he
  exact ⟨V, hV, Qc8 rfl hr⟩
 ·split at he
  ·rename_i u j hu hj
   obtain ⟨V, hV, hr⟩ := Qdg (lo := some _) (hi := none) (LO := some _) (HI := none) (Qax h hu) (Qax h hj) trivial he
   exact ⟨V, hV, Qc8 rfl hr⟩
  ·cases he
 ·split at he
  ·rename_i u j hu hj
   obtain ⟨V, hV, hr⟩ := Qdg (lo := none) (hi := some _) (LO := none) (HI := some _) (Qax h hu) trivial (Qax h hj) he
   exact ⟨V, hV, Qc8 rfl hr⟩
  ·cases he
 ·split at he
  ·rename_i u j k hu hj hk
   obtain ⟨V, hV, hr⟩ := Qdg (lo := some _) (hi := some _) (LO := some _) (HI := some _) (Qax h hu) (Qax h hj) (Qax h hk) he
   exact ⟨V, hV, Qc8 rfl hr⟩
  ·cases he
 ·rename_i fn first cap
  exact ⟨_, evFunc_sound h he, fun w => rfl⟩
 ·rename_i t parts
  obtain ⟨ps, hps, he⟩ := Option.bind_eq_some_iff.1 he
  obtain ⟨V, hV, hr⟩ := evBuild_sound (PS := parts.map fun (i, x) => (i, a.eval x)) (by simpa using Qd7 h hps) he
  exact ⟨V, hV, Qc8 rfl hr⟩
 ·rename_i op t x y yt
  split at he
  ·rename_i k m k' n hx hy
   split at he
   ·rename_i r hr
    simp at he; subst he
    have e1 : a.eval x = .int k (.ofNat m) := Qax h hx
    have e2 : a.eval y = .int k' (.ofNat n) := Qax h hy
    obtain ⟨V, hV, hrun⟩ := fastBin_sound (P := P) (ρ := ρ) hr t
    refine ⟨V, hV, Qc8 (s := do eqGuard op t x y (a.eval x) (a.eval y); binOp op t (a.eval x) (a.eval y)) rfl fun w => ?_⟩
    rw [e1, e2]
    simp only [Sem.run_bind, eqGuard_int, Result.andThen_ok, hrun]
   ·exact Qc2 h he
  ·rename_i u1 u2 hne h1 h2
   split at he
   ·rename_i r hr
    simp at he; subst he
    unfold nilBin at hr
    split at hr
    ·have e1 := evNil_sound (Qax h h1) (Qax h h2) hr
     have e2 := eqGuard_nil (op := .eql) (x := x) (y := y) (Qax h h1) (Qax h h2) hr
     refine ⟨.bool r, rfl, Qc8 (s := do eqGuard .eql t x y (a.eval x) (a.eval y); binOp .eql t (a.eval x) (a.eval y)) rfl fun w => ?_⟩
     rw [(binOp_nil (Qax h h1) (Qax h h2) hr).1]
     simp [e1, e2]
    ·obtain ⟨r', hr', rfl⟩ := Option.map_eq_some_iff.1 hr
     have e1 := evNil_sound (Qax h h1) (Qax h h2) hr'
     have e2 := eqGuard_nil (op := .neq) (x := x) (y := y) (Qax h h1) (Qax h h2) hr'
     refine ⟨.bool (!r'), rfl, Qc8 (s := do eqGuard .neq t x y (a.eval x) (a.eval y); binOp .neq t (a.eval x) (a.eval y)) rfl fun w => ?_⟩
     rw [(binOp_nil (Qax h h1) (Qax h h2) hr').2]
     simp [e1, e2]
    ·cases hr
   ·exact Qc2 h he
  ·exact Qc2 h he
 ·rename_i src dst x
  split at he
  ·rename_i k m hx
   split at he
   ·rename_i r hr
    simp at he; subst he
    have e1 : a.eval x = .int k (.ofNat m) := Qax h hx
    obtain ⟨V, hV, hrun⟩ := fastConv_sound (P := P) (ρ := ρ) (k := k) hr
    refine ⟨V, hV, Qc8 (s := convert src dst (a.eval x)) rfl fun w => ?_⟩
    rw [e1]; exact hrun w
   ·exact Qc2 h he
  ·exact Qc2 h he
 all_goals first | exact Qc2 h he | skip
 ·rename_i args argTypes
  split at he
  ·rename_i x t hx ht
   split at he
   ·rename_i n len cap sz full el hop hu
    simp at he; subst he
    obtain ⟨g, z, c, _, hlen, _⟩ := Qax h hop
    have ha : args = #[x] := by cases args; simp at hx; subst hx; rfl
    have ht' : argTypes = #[t] := by cases argTypes; simp at ht; subst ht; rfl
    subst ha; subst ht'
    refine ⟨.int .i64 len, rfl, fun w => ?_⟩
    simp [execOp, resolve, invoke, builtin, Builtin.len_, run_underlying hu, hlen, goInt]
   ·rename_i len cap sz full el hop hu
    simp at he; subst he
    have hlen : a.eval x = .slice none 0 0 := Qax h hop
    have ha : args = #[x] := by cases args; simp at hx; subst hx; rfl
    have ht' : argTypes = #[t] := by cases argTypes; simp at ht; subst ht; rfl
    subst ha; subst ht'
    refine ⟨.int .i64 0, rfl, fun w => ?_⟩
    simp [execOp, resolve, invoke, builtin, Builtin.len_, run_underlying hu, hlen, goInt]
   ·cases he
  ·cases he
 ·cases he
end
end Go.Proofs.YtchpkjgibloleaaGreat.V
namespace Go.Proofs.YtchpkjgibloleaaGreat.V
set_option maxRecDepth 100000
set_option maxHeartbeats 8000000
open Go
set_option linter.unusedVariables false
set_option linter.unusedSimpArgs false
abbrev Mem := AV × Hp × List Nat
def ptrA : AV → Option (Nat × Nat)
 | .c (.c (.p (some a))) => some a
 | _ => none
noncomputable def fresh (H : Hp) (dead : List Nat) (n : Nat) : Bool := (get H n).isNone && !dead.contains n
noncomputable def loadA (P : Program) (H : Hp) (t : TypeId) (n o : Nat) : Option AV :=
 match get H n with
 | none => none
 | some e => match aggB P t with
  | some true => match P.info? t with
   | some i => if ((e.cs.drop o).take i.size).length = i.size then some (.g ((e.cs.drop o).take i.size)) else none
   | none => none
  | some false => (e.cs[o]?).map .c
  | none => none
noncomputable def storeA (P : Program) (H : Hp) (t : TypeId) (n o : Nat) (v : AV) : Option Hp :=
 match get H n, cellsA v, P.info? t with
 | some e, some cs, some i => if cs.length = i.size ∧ o + cs.length ≤ e.cs.length then some (upd n { e with cs := spl e.cs o cs } H) else none
 | _, _, _ => none
def madeA (z : List C1) (n : Nat) : List C1 := (List.range n).map fun k => (z[k % z.length]?).getD (.c .nilI)
def intOf (v : AV) : Option Int :=
 match v with
 | .c (.c (.i _ j)) => some j
 | _ => none
noncomputable def rowA (H : Hp) (sz : Nat) : AV → Option (Nat × List C1)
 | .c (.c (.s (some (n, o)) len _ _ _)) => match get H n with
  | some e => if ((e.cs.drop o).take (len * sz)).length = len * sz then some (len, (e.cs.drop o).take (len * sz)) else none
  | none => none
 | .c (.c (.s none _ _ _ _)) => some (0, [])
 | _ => none
noncomputable def appA (P : Program) (nm : Nat) (H : Hp) (dead : List Nat) (t : TypeId) (d s : AV) : Option Mem :=
 match P.underlying t with
 | some (.slice el) => match P.info? el with
  | some i => match i.zero, rowA H i.size s with
   | some z, some (m, news) =>
    if m = 0 then match d with
     | .c (.c (.s a len cap sz full)) => some (.c (.c (.s a len cap sz full)), H, dead)
     | _ => none
    else if z.cells.size = i.size ∧ 0 < i.size ∧ fresh H dead nm = true then match d with
     | .c (.c (.s none _ _ _ _)) => if m ≤ 1000000 ∧ i.bytes ≤ 1000000 then some (.c (.c (.s (some (nm, 0)) m none i.size true)), ins nm ⟨news, el, false⟩ H, dead) else none
     | .c (.c (.s (some (n, 0)) len cap sz true)) => match get H n with
      | some e => if sz = i.size ∧ e.ty = el ∧ e.cs.length = len * sz ∧ len + m ≤ 1000000 ∧ i.bytes ≤ 1000000 then
          some (.c (.c (.s (some (nm, 0)) (len + m) none i.size true)), ins nm ⟨e.cs ++ news, el, false⟩ (del n H), n :: dead) else none
      | none => none
     | _ => none
    else none
   | _, _ => none
  | none => none
 | _ => none
noncomputable def copyA (P : Program) (H : Hp) (dead : List Nat) (t : TypeId) (d s : AV) : Option Mem :=
 match P.underlying t with
 | some (.slice el) => match P.info? el with
  | some i => match rowA H i.size s, d with
   | some (m, news), .c (.c (.s none _ _ _ _)) => some (.c (.c (.i .i64 0)), H, dead)
   | some (m, news), .c (.c (.s (some (n, o)) len _ _ _)) => match get H n with
    | some e => if m ≤ len ∧ o + news.length ≤ e.cs.length then some (.c (.c (.i .i64 m)), upd n { e with cs := spl e.cs o news } H, dead) else none
    | none => none
   | _, _ => none
  | none => none
 | _ => none
noncomputable def evMem (P : Program) (tm : List AV) (nm : Nat) (H : Hp) (dead : List Nat) (o : Oper) : Option Mem :=
 match o.op with
 | .load t x => match (opV tm x).bind ptrA with
  | some (n, o) => (loadA P H t n o).map fun v => (v, H, dead)
  | none => none
 | .store t x y => match (opV tm x).bind ptrA, opV tm y with
  | some (n, o), some v => (storeA P H t n o v).map fun H' => (Qd2, H', dead)
  | _, _ => none
 | .alloc t => match zeroA P t with
  | some z => if fresh H dead nm then some (.c (.c (.p (some (nm, 0)))), ins nm ⟨z, t, true⟩ H, dead) else none
  | none => none
 | .box t x => match (opV tm x).bind cellsA with
  | some z => if fresh H dead nm then some (.c (.c (.p (some (nm, 0)))), ins nm ⟨z, t, true⟩ H, dead) else none
  | none => none
 | .buildSlice t len parts => match P.underlying t, partsV tm parts.toList with
  | some (.slice el), some ps => match P.info? el, zeroA P el with
   | some i, some z => if z.length = i.size ∧ len * i.size ≤ 16777216 ∧ len ≤ 16777216 ∧ fresh H dead nm = true then
       match fillA (fun k => some (k * i.size, i.size)) (madeA z (len * i.size)) ps with
       | some cs => some (.c (.c (.s (some (nm, 0)) len (some len) i.size true)), ins nm ⟨cs, el, true⟩ H, dead)
       | none => none
    else none
   | _, _ => none
  | _, _ => none
 | .makeSlice t l c => match P.underlying t, (opV tm l).bind intOf, (opV tm c).bind intOf with
  | some (.slice el), some l, some c => match P.info? el, zeroA P el with
   | some i, some z => if z.length = i.size ∧ 0 ≤ l ∧ l ≤ c ∧ c ≤ 1000000 ∧ i.bytes ≤ 1000000 ∧ fresh H dead nm = true then
       some (.c (.c (.s (some (nm, 0)) l.toNat (some c.toNat) i.size true)), ins nm ⟨madeA z (c.toNat * i.size), el, true⟩ H, dead)
    else none
   | _, _ => none
  | _, _, _ => none
 | .call { callee := .builtin .append, args, argTypes } => match args.toList, argTypes.toList with
  | [x, y], [t, t'] => match opV tm x, opV tm y with
   | some d, some s => if t = t' then appA P nm H dead t d s else none
   | _, _ => none
  | _, _ => none
 | .call { callee := .builtin .copy, args, argTypes } => match args.toList, argTypes.toList with
  | [x, y], [t, t'] => match opV tm x, opV tm y with
   | some d, some s => copyA P H dead t d s
   | _, _ => none
  | _, _ => none
 | _ => none
section
variable {P : Program} {D : Nat → Prop} {w0 : World} {ρ : Ren} {H : Hp} {dead : List Nat} {w : World}
theorem ptrA_R {v : AV} {V : Value} {a : Nat × Nat} (h : ptrA v = some a) (hr : v.R ρ V) : ∃ g z, ρ a.1 = some (g, z) ∧ V = .pointer (some ⟨g, a.2, none⟩) := by
 unfold ptrA at h
 split at h
 ·rename_i b
  simp at h; subst h; obtain ⟨n, o⟩ := b; exact hr
 ·cases h
theorem Qds {n : Nat} (h : fresh H dead n = true) : get H n = none ∧ n ∉ dead := by
 simp [fresh] at h; exact ⟨h.1, h.2⟩
theorem RH.cell (h : RH D w0 ρ H dead w) {n : Nat} {e : Ent} (he : get H n = some e) {g z : Nat} (hg : ρ n = some (g, z)) {j : Nat} {x : C1} (hx : e.cs[j]? = some x) :
    ∃ y, w.cell? ⟨g, j, none⟩ = some y ∧ x.R ρ y := by
 obtain ⟨g', z', c, h1, h2, h3, h4, h5, h6⟩ := h.hp n e he
 rw [hg] at h1; injection h1 with h1; injection h1 with h1 h1'; subst h1; subst h1'
 obtain ⟨y, hy, hr⟩ := h4 j x hx
 refine ⟨y, ?_, hr⟩
 simp only [World.cell?, h2]
 simpa using hy
theorem cells_run (h : RH D w0 ρ H dead w) {n : Nat} {e : Ent} (he : get H n = some e) {g z : Nat} (hg : ρ n = some (g, z)) {cs : List C1} {o : Nat} (hx : ∀ (j : Nat) x, cs[j]? = some x → e.cs[o + j]? = some x) :
    ∃ L, All2 (C1.R ρ) cs L ∧ ∀ j v, L[j]? = some v → w.cell? ((⟨g, o, none⟩ : Addr).add j) = some v := by
 refine ⟨(List.range cs.length).map fun j => (w.cell? ⟨g, o + j, none⟩).getD undef, All2.of (by simp) fun j x hj => ?_, fun j v hv => ?_⟩
 ·obtain ⟨y, hy, hr⟩ := h.cell he hg (hx j x hj)
  have hlt : j < cs.length := by
   rcases Nat.lt_or_ge j cs.length with h | h
   ·exact h
   ·rw [List.getElem?_eq_none h] at hj; cases hj
  exact ⟨y, by simp [hlt, hy], hr⟩
 ·have hlt : j < cs.length := by
    rcases Nat.lt_or_ge j cs.length with h | h
    ·exact h
    ·rw [List.getElem?_eq_none (by simpa using h)] at hv; cases hv
  obtain ⟨y, hy, hr⟩ := h.cell he hg (hx j _ (List.getElem?_eq_getElem hlt))
  rw [addr_add, hy]
  simpa [hlt, hy] using hv
theorem ext_get {α : Type} {l : List α} {o n : Nat} : ∀ (j : Nat) x, ((l.drop o).take n)[j]? = some x → l[o + j]? = some x := by
 intro j x hx
 rw [List.getElem?_take] at hx
 split at hx
 ·rwa [List.getElem?_drop] at hx
 ·cases hx
theorem loadA_sound (h : RH D w0 ρ H dead w) {t : TypeId} {n o g z : Nat} {v : AV} (hg : ρ n = some (g, z)) (he : loadA P H t n o = some v) :
    ∃ V, v.R ρ V ∧ (Instr.loadAt t (.pointer (some ⟨g, o, none⟩))).run P w = .ok V w := by
 unfold loadA at he
 split at he
 ·cases he
 ·rename_i e hge
  split at he
  ·rename_i hag
   split at he
   ·rename_i i hi
    split at he
    ·rename_i hl
     simp at he; subst he
     obtain ⟨L, hL, hc⟩ := cells_run h hge hg (cs := (e.cs.drop o).take i.size) (o := o) ext_get
     have hLl := hL.len
     have := run_loadCells_list (P := P) (w := w) ⟨g, o, none⟩ L hc
     refine ⟨.agg L.toArray, ⟨L, hL, rfl⟩, ?_⟩
     have e2 : L.length = i.size := by omega
     rw [e2] at this
     simp [Instr.loadAt, Instr.sureAddr, loadVar, aggB_run hag, Qcp hi, this]
    ·cases he
   ·cases he
  ·rename_i hag
   obtain ⟨x, hx, rfl⟩ := Option.map_eq_some_iff.1 he
   obtain ⟨y, hy, hr⟩ := h.cell hge hg hx
   refine ⟨y, hr, ?_⟩
   simp [Instr.loadAt, Instr.sureAddr, loadVar, aggB_run hag, hy]
  ·cases he
theorem storeA_sound (h : RH D w0 ρ H dead w) {t : TypeId} {n o g z : Nat} {v : AV} {V : Value} {H' : Hp} (hg : ρ n = some (g, z)) (hv : v.R ρ V) (he : storeA P H t n o v = some H') :
    ∃ w', (Instr.storeAt t (.pointer (some ⟨g, o, none⟩)) V).run P w = .ok () w' ∧ RH D w0 ρ H' dead w' := by
 unfold storeA at he
 split at he
 ·rename_i e cs i hge hcs hi
  split at he
  ·rename_i hl
   simp at he; subst he
   obtain ⟨L, hL, hVc⟩ := cellsA_R hcs hv
   have hLl := hL.len
   obtain ⟨g', z', c, h1, h2, h3, h4, h5, h6⟩ := h.hp n e hge
   rw [hg] at h1; injection h1 with h1; injection h1 with h1 h1'; subst h1; subst h1'
   have hcl : e.cs.length ≤ c.toList.length := by
    rcases Nat.lt_or_ge c.toList.length e.cs.length with hlt | hge'
    ·obtain ⟨y, hy, _⟩ := h4 c.toList.length _ (List.getElem?_eq_getElem hlt)
     simp at hy
    ·exact hge'
   have hone : ∀ u ∈ L, u.oneCell' = true := hL.left fun a b hr => C1.one hr
   have hst := run_storeCells_at P g o e.ty L 0 c w h2 (by simp at hcl; omega) hone
   simp only [Nat.add_zero] at hst
   refine ⟨_, ?_, h.store hge hg hL hl.2 h2⟩
   have hsz : V.cells.size = i.size := by rw [hVc]; simp; omega
   simp [Instr.storeAt, Instr.sureAddr, storeVar, Qcp hi, hsz, hVc, hst, show L.length = i.size by omega]
  ·cases he
 ·cases he
theorem rowA_sound (h : RH D w0 ρ H dead w) {sz : Nat} {v : AV} {V : Value} {m : Nat} {cs : List C1} (hv : v.R ρ V) (he : rowA H sz v = some (m, cs)) :
    ∃ L, All2 (C1.R ρ) cs L ∧ L.length = m * sz ∧ ((V = .slice none 0 0 ∧ m = 0) ∨ ∃ ad c, V = .slice (some ad) m c ∧ ∀ j v, L[j]? = some v → w.cell? (ad.add j) = some v) := by
 unfold rowA at he
 split at he
 ·rename_i n o len cap sz' full
  split at he
  ·rename_i e hge
   split at he
   ·rename_i hl
    simp at he; obtain ⟨rfl, rfl⟩ := he
    obtain ⟨g, z, c, hg, rfl, _⟩ := hv
    obtain ⟨L, hL, hc⟩ := cells_run h hge hg (cs := (e.cs.drop o).take (len * sz)) (o := o) ext_get
    exact ⟨L, hL, by rw [← hL.len]; exact hl, .inr ⟨_, _, rfl, hc⟩⟩
   ·cases he
  ·cases he
 ·simp at he; obtain ⟨rfl, rfl⟩ := he
  cases hv
  exact ⟨[], trivial, by simp, .inl ⟨rfl, rfl⟩⟩
 ·cases he
theorem madeA_R {z : List C1} {Z : List Value} (hz : All2 (C1.R ρ) z Z) (hp : 0 < z.length) (n : Nat) : All2 (C1.R ρ) (madeA z n) (madeCells Z.toArray n).toList := by
 have e := hz.len
 refine All2.of (by simp [madeA, madeCells]) fun i x hx => ?_
 simp only [madeA, List.getElem?_map] at hx
 cases hr : (List.range n)[i]? with
 | none => rw [hr] at hx; cases hx
 | some k =>
  rw [hr] at hx
  simp only [Option.map_some, Option.some.injEq] at hx
  have hk : i < n ∧ k = i := by
   have := List.getElem?_eq_some_iff.1 hr
   obtain ⟨h1, h2⟩ := this
   simp at h1 h2; exact ⟨h1, h2.symm⟩
  obtain ⟨hi, rfl⟩ := hk
  have hlt : k % z.length < z.length := Nat.mod_lt _ hp
  obtain ⟨y, hy, hR⟩ := hz.get (k % z.length) (List.getElem?_eq_getElem hlt)
  refine ⟨y, ?_, ?_⟩
  ·simp only [madeCells, Array.toList_map, Array.toList_range, List.getElem?_map, hr, Option.map_some]
   congr 1
   have e3 : Z.toArray.size = z.length := by simp [e]
   rw [e3]
   have hl : k % z.length < Z.toArray.size := by rw [e3]; exact hlt
   rw [getElem!_pos Z.toArray _ hl]
   simp only [List.getElem_toArray]
   exact Option.some.inj ((List.getElem?_eq_getElem _).symm.trans hy)
  ·rw [← hx, List.getElem?_eq_getElem hlt]; exact hR
theorem appA_sound (h : RH D w0 ρ H dead w) {nm : Nat} {t ty : TypeId} {d s r : AV} {X Y : Value} {H' : Hp} {dead' : List Nat} (hd : d.R ρ X) (hs : s.R ρ Y) (he : appA P nm H dead t d s = some (r, H', dead')) :
    ∃ ρ' V w', ρ.le ρ' ∧ r.R ρ' V ∧ (Builtin.append_ #[t, t] ty #[X, Y]).run P w = .ok V w' ∧ RH D w0 ρ' H' dead' w' := by
 unfold appA at he
 split at he
 ·rename_i el hu
  split at he
  ·rename_i i hi
   split at he
   ·rename_i z m news hz hrow
    obtain ⟨L, hL, hLl, hY⟩ := rowA_sound h hs hrow
    split at he
    ·rename_i hm
     subst hm
     split at he
     ·rename_i a len cap sz full
      simp at he; obtain ⟨rfl, rfl, rfl⟩ := he
      refine ⟨ρ, X, w, Ren.le_refl ρ, hd, ?_, h⟩
      have hX : ∃ b len' c, X = .slice b len' c ∧ len' ≤ c := by
       cases a with
       | none => exact ⟨none, 0, 0, hd, Nat.le_refl _⟩
       | some a => obtain ⟨g, z, c, _, h1, _, h2, _⟩ := hd; exact ⟨_, _, _, h1, h2⟩
      obtain ⟨b, len', c, rfl, hlc⟩ := hX
      have hl0 : L = [] := List.eq_nil_of_length_eq_zero (by omega)
      rcases hY with ⟨rfl, _⟩ | ⟨ad, c', rfl, _⟩
      ·cases b <;> simp [Builtin.append_, run_underlying hu, Qcp hi, Builtin.lenOf, Builtin.firstCells, hlc, storeCells]
      ·have hf := run_firstCells_some (P := P) w i.size 0 ad 0 c' [] (by simp) (by simp)
       cases b <;> simp [Builtin.append_, run_underlying hu, Qcp hi, Builtin.lenOf, hf, hlc, storeCells]
     ·cases he
    ·rename_i hm
     split at he
     ·rename_i hc
      obtain ⟨hzs, hpos, hfr⟩ := hc
      obtain ⟨hf1, hf2⟩ := Qds hfr
      have hone : ∀ u ∈ L, u.oneCell' = true := hL.left fun a b hr => C1.one hr
      rcases hY with ⟨_, hm0⟩ | ⟨ad, c', rfl, hcells⟩
      ·exact absurd hm0 hm
      split at he
      ·rename_i len cap sz full
       split at he
       ·rename_i hb
        simp at he; obtain ⟨rfl, rfl, rfl⟩ := he
        cases hd
        have hbb : m * i.bytes ≤ 1000000 * 1000000 := Nat.mul_le_mul hb.1 hb.2
        obtain ⟨V', w', hr, hown, hgr, _, hob⟩ := run_append_own_at (P := P) w 0 t ty el i z i.size i.bytes hu hi hz rfl rfl hzs hpos (.slice none 0 0) 0 [] (World.ownsRow_nil w 0 el i.size) ad m c' L hLl hcells hone (by simp [maxLen]; omega) (by simp; omega) (Nat.zero_le _)
        obtain ⟨hx, hh⟩ := hown
        rcases hh with ⟨_, h0⟩ | ⟨g, cap', cur, rfl, _, hg, hn, hmx, hsz, htk⟩
        ·omega
        ·have hgw : g = w.heap.size := by
           rcases hob with hob | hob
           ·simp [Value.ownBlock] at hob
           ·simpa [Value.ownBlock] using hob
         obtain ⟨hRH, hle⟩ := h.moved (n' := nm) hf1 hf2 (w' := w') none (by simp) (by simpa [Value.ownBlock] using hgr) (g := g) (cur := cur) (ty := el) hg (.inr hgw) (cs := news) (fun k x hx => by
          obtain ⟨y, hy, hr⟩ := hL.get k hx
          refine ⟨y, ?_, hr⟩
          have e1 : (cur.toList.take ((0 + m) * i.size))[k]? = some y := by rw [htk]; simpa using hy
          rw [List.getElem?_take] at e1
          split at e1
          ·exact e1
          ·cases e1)
         refine ⟨_, _, w', hle, ⟨g, cur.size, cap', by simp [Ren.add], rfl, by simp, by omega, hmx, by omega, fun _ => by omega⟩, by simpa using hr, hRH⟩
       ·cases he
      ·rename_i n len cap sz
       split at he
       ·rename_i e hge
        split at he
        ·rename_i hb
         obtain ⟨rfl, hty, hel, hb1, hb2⟩ := hb
         simp at he; obtain ⟨rfl, rfl, rfl⟩ := he
         obtain ⟨g0, z0, c0, hρ, rfl, hcap, hlc, hmx0, hz0, hfull⟩ := hd
         obtain ⟨g', z', cur0, q1, q2, q3, q4, q5, q6⟩ := h.hp n e hge
         rw [hρ] at q1; injection q1 with q1; injection q1 with q1 q1'; subst q1; subst q1'
         have hbb : (len + m) * i.bytes ≤ 1000000 * 1000000 := Nat.mul_le_mul hb1 hb2
         have hfl := hfull rfl
         obtain ⟨XS, hXS, hXl⟩ : ∃ XS, All2 (C1.R ρ) e.cs XS ∧ cur0.toList.take (len * i.size) = XS := by
          refine ⟨_, All2.of ?_ fun k x hx => ?_, rfl⟩
          ·rw [List.length_take, hel]
           have : len * i.size ≤ c0 * i.size := Nat.mul_le_mul_right _ hlc
           simp; omega
          ·obtain ⟨y, hy, hr⟩ := q4 k x hx
           refine ⟨y, ?_, hr⟩
           have : k < e.cs.length := by
            rcases Nat.lt_or_ge k e.cs.length with h | h
            ·exact h
            ·rw [List.getElem?_eq_none h] at hx; cases hx
           rw [List.getElem?_take, if_pos (by omega)]; exact hy
         have hXSl := hXS.len
         have hown0 : w.ownsRow 0 el i.size (.slice (some ⟨g0, 0, none⟩) len c0) len XS :=
          ⟨by omega, .inr ⟨g0, c0, cur0, rfl, Nat.zero_le _, by rw [← hty]; exact q2, hlc, hmx0, by omega, hXl⟩⟩
         obtain ⟨V', w', hr, hown, hgr, _, hob⟩ := run_append_own_at (P := P) w 0 t ty el i z i.size i.bytes hu hi hz rfl rfl hzs hpos _ len XS hown0 ad m c' L hLl hcells hone (by simp [maxLen]; omega) (by omega) (Nat.zero_le _)
         obtain ⟨hx, hh⟩ := hown
         rcases hh with ⟨_, h0⟩ | ⟨g, cap', cur, rfl, _, hg, hn, hmx, hsz, htk⟩
         ·omega
         ·have hgw : g0 = g ∨ g = w.heap.size := by
            rcases hob with hob | hob
            ·left; simp [Value.ownBlock] at hob; exact hob.symm
            ·right; simpa [Value.ownBlock] using hob
          obtain ⟨hRH, hle⟩ := h.moved (n' := nm) hf1 hf2 (w' := w') (some n) (fun k hk => by injection hk with hk; subst hk; exact ⟨e, g0, z0, hge, hρ⟩) (by simpa [Value.ownBlock, hρ] using hgr) (g := g) (cur := cur) (ty := el) hg (by simpa [hρ] using hgw) (cs := e.cs ++ news) (fun k x hx => by
           obtain ⟨y, hy, hr⟩ := (hXS.app hL).get k hx
           refine ⟨y, ?_, hr⟩
           have e1 : (cur.toList.take ((len + m) * i.size))[k]? = some y := by rw [htk]; exact hy
           rw [List.getElem?_take] at e1
           split at e1
           ·exact e1
           ·cases e1)
          refine ⟨_, _, w', hle, ⟨g, cur.size, cap', by simp [Ren.add], rfl, by simp, by omega, hmx, by omega, fun _ => by omega⟩, hr, hRH⟩
        ·cases he
       ·cases he
      ·cases he
     ·cases he
   ·cases he
  ·cases he
 ·cases he
theorem copyA_sound (h : RH D w0 ρ H dead w) {t t' ty : TypeId} {d s r : AV} {X Y : Value} {H' : Hp} {dead' : List Nat} (hd : d.R ρ X) (hs : s.R ρ Y) (he : copyA P H dead t d s = some (r, H', dead')) :
    ∃ V w', r.R ρ V ∧ (Builtin.copy_ #[t, t'] ty #[X, Y]).run P w = .ok V w' ∧ RH D w0 ρ H' dead' w' := by
 unfold copyA at he
 split at he
 ·rename_i el hu
  split at he
  ·rename_i i hi
   split at he
   ·rename_i m news _ _ _ _ hrow
    obtain ⟨L, hL, hLl, hY⟩ := rowA_sound h hs hrow
    simp at he; obtain ⟨rfl, rfl, rfl⟩ := he
    cases hd
    refine ⟨goInt 0, w, rfl, ?_, h⟩
    rcases hY with ⟨rfl, _⟩ | ⟨ad, c', rfl, _⟩
    ·simp [Builtin.copy_, run_underlying hu, Qcp hi, Builtin.lenOf, Builtin.firstCells]
    ·have hf := run_firstCells_some (P := P) w i.size 0 ad m c' [] (by simp) (by simp)
     simp [Builtin.copy_, run_underlying hu, Qcp hi, Builtin.lenOf, hf, Nat.min]
   ·rename_i m news n o len _ _ _ hrow
    obtain ⟨L, hL, hLl, hY⟩ := rowA_sound h hs hrow
    split at he
    ·rename_i e hge
     split at he
     ·rename_i hb
      simp at he; obtain ⟨rfl, rfl, rfl⟩ := he
      obtain ⟨g, z, c, hg, rfl, _⟩ := hd
      obtain ⟨g', z', cur, h1, h2, h3, h4, h5, h6⟩ := h.hp n e hge
      rw [hg] at h1; injection h1 with h1; injection h1 with h1 h1'; subst h1; subst h1'
      have hLl2 := hL.len
      have hcl : e.cs.length ≤ cur.toList.length := by
       rcases Nat.lt_or_ge cur.toList.length e.cs.length with hlt | hge'
       ·obtain ⟨y, hy, _⟩ := h4 cur.toList.length _ (List.getElem?_eq_getElem hlt)
        simp at hy
       ·exact hge'
      have hone : ∀ u ∈ L, u.oneCell' = true := hL.left fun a b hr => C1.one hr
      have hst := run_storeCells_at P g o e.ty L 0 cur w h2 (by simp at hcl; omega) hone
      simp only [Nat.add_zero] at hst
      refine ⟨goInt m, _, rfl, ?_, h.store hge hg hL hb.2 h2⟩
      have hmin : Nat.min m len = m := Nat.min_eq_left hb.1
      rcases hY with ⟨rfl, hm0⟩ | ⟨ad, c', rfl, hcells⟩
      ·subst hm0
       have : L = [] := List.eq_nil_of_length_eq_zero (by omega)
       subst this
       simp only [Builtin.copy_, List.getElem?_toArray, List.getElem?_cons_zero, List.getElem?_cons_succ, Sem.run_bind, run_underlying hu, Result.andThen_ok, Qcp hi, Builtin.lenOf, Builtin.firstCells, Sem.run_pure, hst, Nat.min, goInt]
       simp [storeCells] at hst ⊢
      ·have hf := run_firstCells_some (P := P) w i.size m ad m c' L hLl hcells
       simp [Builtin.copy_, run_underlying hu, Qcp hi, Builtin.lenOf, hf, hmin, hst]
     ·cases he
    ·cases he
   ·cases he
  ·cases he
 ·cases he
end
end Go.Proofs.YtchpkjgibloleaaGreat.V
namespace Go.Proofs.YtchpkjgibloleaaGreat.V
set_option maxRecDepth 100000
set_option maxHeartbeats 8000000
open Go
set_option linter.unusedVariables false
set_option linter.unusedSimpArgs false
section
variable {P : Program} {D : Nat → Prop} {w0 : World} {ρ : Ren} {H : Hp} {dead : List Nat} {w : World}
theorem run_buildSlice (t : TypeId) (len : Nat) (PS : Array (Nat × Value)) (el : TypeId) (i : TypeInfo) (z : Value) (hu : P.underlying t = some (.slice el)) (hi : P.info? el = some i) (hz : i.zero = some z) (hmax : len * i.size ≤ 16777216)
    (cs : Array Value) (hf : Instr.fill (fun k => some (k * i.size, i.size)) (madeCells z.cells (len * i.size)) PS.toList = some cs) :
    (Instr.buildSlice t len PS).run P w = .ok (.slice (some ⟨w.heap.size, 0, none⟩) len len) (w.alloc (.cells cs el)) := by
 have h1 : ¬ 16777216 < len * i.size := by omega
 by_cases h0 : len * i.size = 0
 ·have hm : madeCells z.cells (len * i.size) = #[] := by rw [h0]; simp [madeCells]
  rw [hm] at hf
  simp [Instr.buildSlice, run_underlying hu, Qcp hi, h0, newRow, hf, Array.range_zero']
 ·simp only [madeCells] at hf
  simp [Instr.buildSlice, run_underlying hu, Qcp hi, h0, h1, zeroValue, typeInfo, hi, hz, newRow, hf]
theorem evMem_sound (h : RH D w0 ρ H dead w) {tm : List AV} {a : Act} (hT : RT ρ tm a) {nm : Nat} {o : Oper} {v : AV} {H' : Hp} {dead' : List Nat} (he : evMem P tm nm H dead o = some (v, H', dead')) :
    ∃ ρ' n V w', ρ.le ρ' ∧ (execOp a.eval o).run P w = .ok n w' ∧ (n = .value V ∨ n = .skip ∧ V = undef) ∧ v.R ρ' V ∧ RH D w0 ρ' H' dead' w' := by
 obtain ⟨dst, op, ty, pos, after, guard⟩ := o
 unfold evMem at he
 simp only at he
 split at he
 ·rename_i t x
  split at he
  ·rename_i n o hx
   obtain ⟨u, hu, hp⟩ := Option.bind_eq_some_iff.1 hx
   obtain ⟨g, z, hg, hV⟩ := ptrA_R hp (Qax hT hu)
   obtain ⟨v', hv', he⟩ := Option.map_eq_some_iff.1 he
   simp at he; obtain ⟨rfl, rfl, rfl⟩ := he
   obtain ⟨V, hr, hrun⟩ := loadA_sound (P := P) h hg hv'
   refine ⟨ρ, .value V, V, w, Ren.le_refl _, ?_, .inl rfl, hr, h⟩
   simp [execOp, hV, hrun]
  ·cases he
 ·rename_i t x y
  split at he
  ·rename_i n o v' hx hy
   obtain ⟨u, hu, hp⟩ := Option.bind_eq_some_iff.1 hx
   obtain ⟨g, z, hg, hV⟩ := ptrA_R hp (Qax hT hu)
   obtain ⟨H1, hH1, he⟩ := Option.map_eq_some_iff.1 he
   simp at he; obtain ⟨rfl, rfl, rfl⟩ := he
   obtain ⟨w', hrun, hR⟩ := storeA_sound (P := P) h hg (Qax hT hy) hH1
   refine ⟨ρ, .skip, undef, w', Ren.le_refl _, ?_, .inr ⟨rfl, rfl⟩, undef_R ρ, hR⟩
   simp [execOp, hV, hrun]
  ·cases he
 ·rename_i t
  split at he
  ·rename_i z hz
   split at he
   ·rename_i hf
    simp at he; obtain ⟨rfl, rfl, rfl⟩ := he
    obtain ⟨hf1, hf2⟩ := Qds hf
    unfold zeroA at hz
    split at hz
    ·rename_i i hi
     split at hz
     ·rename_i zv hzv
      have hR := absCs_R (ρ := ρ) hz
      obtain ⟨hn, hle⟩ := h.new hf1 hf2 hR t
      refine ⟨_, .value (.pointer (some ⟨w.heap.size, 0, none⟩)), _, _, hle, ?_, .inl rfl, ⟨w.heap.size, _, by simp [Ren.add]; rfl, rfl⟩, hn⟩
      simp [execOp, Instr.alloc, zeroValue, typeInfo, hi, hzv, newVar, newRow]
     ·cases hz
    ·cases hz
   ·cases he
  ·cases he
 ·rename_i t x
  split at he
  ·rename_i z hz
   obtain ⟨u, hu, hc⟩ := Option.bind_eq_some_iff.1 hz
   obtain ⟨L, hL, hV⟩ := cellsA_R hc (Qax hT hu)
   split at he
   ·rename_i hf
    simp at he; obtain ⟨rfl, rfl, rfl⟩ := he
    obtain ⟨hf1, hf2⟩ := Qds hf
    obtain ⟨hn, hle⟩ := h.new hf1 hf2 hL t
    refine ⟨_, .value (.pointer (some ⟨w.heap.size, 0, none⟩)), _, _, hle, ?_, .inl rfl, ⟨w.heap.size, _, by simp [Ren.add]; rfl, rfl⟩, hn⟩
    simp [execOp, Instr.box, newVar, newRow, hV]
   ·cases he
  ·cases he
 ·rename_i t len parts
  split at he
  ·rename_i el ps hu hps
   split at he
   ·rename_i i z hi hz
    split at he
    ·rename_i hc
     obtain ⟨hzl, hmax, hlm, hf⟩ := hc
     obtain ⟨hf1, hf2⟩ := Qds hf
     split at he
     ·rename_i cs hcs
      simp at he; obtain ⟨rfl, rfl, rfl⟩ := he
      unfold zeroA at hz
      rw [hi] at hz
      simp only at hz
      split at hz
      ·rename_i zv hzv
       have hZ := absCs_R (ρ := ρ) hz
       have hPS := Qd7 hT hps
       have hM : All2 (C1.R ρ) (madeA z (len * i.size)) (madeCells zv.cells (len * i.size)).toList := by
        by_cases h0 : len * i.size = 0
        ·rw [h0]; exact All2.of (by simp [madeA, madeCells]) (fun k x hx => by simp [madeA] at hx)
        ·have hpos : 0 < z.length := by
           rw [hzl]; rcases Nat.eq_zero_or_pos i.size with h1 | h1
           ·rw [h1] at h0; simp at h0
           ·exact h1
         simpa using madeA_R hZ hpos (len * i.size)
       obtain ⟨L', hL', hR'⟩ := Qen _ hM hPS hcs
       obtain ⟨hn, hle⟩ := h.new hf1 hf2 hR' el
       have hLl : L'.length = len * i.size := by
        have e1 := hR'.len
        have : ∀ (pl : Nat → Option (Nat × Nat)) (ps : List (Nat × AV)) (l l' : List C1), fillA pl l ps = some l' → l'.length = l.length := by
         intro pl ps
         induction ps with
         | nil => intro l l' hh; simp [fillA] at hh; rw [hh]
         | cons p ps ih =>
          obtain ⟨k, v⟩ := p
          intro l l' hh
          unfold fillA at hh
          split at hh
          ·split at hh
           ·rename_i hb; rw [ih _ _ hh, spl_len hb.2]
           ·cases hh
          ·cases hh
        have e2 := this _ _ _ _ hcs
        rw [← e1, e2]; simp [madeA]
       refine ⟨_, .value (.slice (some ⟨w.heap.size, 0, none⟩) len len), _, _, hle, ?_, .inl rfl, ⟨w.heap.size, L'.length, len, by simp [Ren.add], rfl, by simp, Nat.le_refl _, ?_, by omega, fun _ => by omega⟩, hn⟩
       ·have := run_buildSlice (P := P) (w := w) t len (parts.map fun (i, x) => (i, a.eval x)) el i zv hu hi hzv hmax L'.toArray (by simpa using hL')
        simp [execOp, this]
       ·simp only [maxLen]
        omega
      ·cases hz
     ·cases he
    ·cases he
   ·cases he
  ·cases he
 ·rename_i t l c
  split at he
  ·rename_i el l' c' hu hl hcc
   obtain ⟨u, hu1, hl⟩ := Option.bind_eq_some_iff.1 hl
   obtain ⟨u2, hu2, hcc⟩ := Option.bind_eq_some_iff.1 hcc
   have key : ∀ (v : AV) (V : Value) (j : Int), intOf v = some j → v.R ρ V → ∃ k, V = .int k j := by
    intro v V j hv hr
    unfold intOf at hv
    split at hv
    ·simp at hv; subst hv; exact ⟨_, hr⟩
    ·cases hv
   obtain ⟨kl, hL⟩ := key _ _ _ hl (Qax hT hu1)
   obtain ⟨kc, hC⟩ := key _ _ _ hcc (Qax hT hu2)
   split at he
   ·rename_i i z hi hz
    split at he
    ·rename_i hc
     obtain ⟨hzl, h0, hlc, hcm, hbm, hf⟩ := hc
     obtain ⟨hf1, hf2⟩ := Qds hf
     simp at he; obtain ⟨rfl, rfl, rfl⟩ := he
     unfold zeroA at hz
     rw [hi] at hz
     simp only at hz
     split at hz
     ·rename_i zv hzv
      have hZ := absCs_R (ρ := ρ) hz
      have hM : All2 (C1.R ρ) (madeA z (c'.toNat * i.size)) (madeCells zv.cells (c'.toNat * i.size)).toList := by
       by_cases h0 : c'.toNat * i.size = 0
       ·rw [h0]; exact All2.of (by simp [madeA, madeCells]) (fun k x hx => by simp [madeA] at hx)
       ·have hpos : 0 < z.length := by
          rw [hzl]; rcases Nat.eq_zero_or_pos i.size with h1 | h1
          ·rw [h1] at h0; simp at h0
          ·exact h1
        simpa using madeA_R hZ hpos (c'.toNat * i.size)
      obtain ⟨hn, hle⟩ := h.new hf1 hf2 hM el
      have hLl : (madeCells zv.cells (c'.toNat * i.size)).toList.length = c'.toNat * i.size := by simp [madeCells]
      have hbb : (i.bytes : Int) * c' ≤ 281474976710656 := by
       obtain ⟨n, rfl⟩ := Int.eq_ofNat_of_zero_le (show 0 ≤ c' by omega)
       have : i.bytes * n ≤ 1000000 * 1000000 := Nat.mul_le_mul hbm (by omega)
       rw [← Int.natCast_mul]; omega
      have hrun := run_make (P := P) w t el i zv hu hi hzv kl kc l' c' h0 hlc hbb (by omega)
      rw [hLl] at hn hle
      refine ⟨_, .value (.slice (some ⟨w.heap.size, 0, none⟩) l'.toNat c'.toNat), _, _, hle, ?_, .inl rfl, ⟨w.heap.size, c'.toNat * i.size, c'.toNat, by simp [Ren.add], rfl, by simp, by omega, by simp only [maxLen]; omega, by omega, fun _ => by omega⟩, by simpa using hn⟩
      simp [execOp, hL, hC, hrun]
     ·cases hz
    ·cases he
   ·cases he
  ·cases he
 ·rename_i args argTypes
  split at he
  ·rename_i x y t t' hx ht
   split at he
   ·rename_i d s hd hs
    split at he
    ·rename_i htt
     subst htt
     obtain ⟨ρ', V, w', hle, hr, hrun, hR⟩ := appA_sound (P := P) h (ty := ty) (Qax hT hd) (Qax hT hs) he
     have ha : args = #[x, y] := by cases args; simp at hx; subst hx; rfl
     have ht' : argTypes = #[t, t] := by cases argTypes; simp at ht; subst ht; rfl
     subst ha; subst ht'
     refine ⟨ρ', .value V, V, w', hle, ?_, .inl rfl, hr, hR⟩
     simp [execOp, resolve, invoke, builtin, hrun]
    ·cases he
   ·cases he
  ·cases he
 ·rename_i args argTypes
  split at he
  ·rename_i x y t t' hx ht
   split at he
   ·rename_i d s hd hs
    obtain ⟨V, w', hr, hrun, hR⟩ := copyA_sound (P := P) (t' := t') h (ty := ty) (Qax hT hd) (Qax hT hs) he
    have ha : args = #[x, y] := by cases args; simp at hx; subst hx; rfl
    have ht' : argTypes = #[t, t'] := by cases argTypes; simp at ht; subst ht; rfl
    subst ha; subst ht'
    refine ⟨ρ, .value V, V, w', Ren.le_refl _, ?_, .inl rfl, hr, hR⟩
    simp [execOp, resolve, invoke, builtin, hrun]
   ·cases he
  ·cases he
 ·cases he
end
end Go.Proofs.YtchpkjgibloleaaGreat.V
namespace Go.Proofs.YtchpkjgibloleaaGreat.V
set_option maxRecDepth 100000
set_option maxHeartbeats 8000000
open Go
set_option linter.unusedVariables false
set_option linter.unusedSimpArgs false
structure St where
 tm : List AV
 H : Hp
 dead : List Nat
 df : List (FuncId × List C0)
 r : Nat
 deriving DecidableEq
noncomputable def St.put (s : St) (dst : Option Tmp) (v : AV) : St :=
 match dst with
 | some d => { s with tm := setA s.tm d v }
 | none => s
structure Rel (D : Nat → Prop) (w0 : World) (ρ : Ren) (s : St) (a : Act) (w : World) : Prop where
 tm : RT ρ s.tm a
 df : All2 (fun (x : FuncId × List C0) (d : Deferred) => ∃ C, All2 (C0.R ρ) x.2 C ∧ d = { target := .fn (.func x.1) C.toArray, args := #[] }) s.df a.defers
 rh : RH D w0 ρ s.H s.dead w
abbrev Qdn := FuncId → List AV → Nat → Hp → List Nat → Option Mem
def Qec (P : Program) (D : Nat → Prop) (w0 : World) (call : Qdn) : Prop :=
 ∀ k xs nm H dead r H' dead' ρ vs w, call k xs nm H dead = some (r, H', dead') → RH D w0 ρ H dead w → All2 (AV.R ρ) xs vs →
  (∃ fn, P.funcs[k]? = some fn ∧ (fn.name == "runtime.NumGoroutine") = false ∧ fn.body.isNone = false) ∧
  Calls P k vs.toArray w fun e w' => ∃ ρ' V, ρ.le ρ' ∧ e = .returned V ∧ r.R ρ' V ∧ RH D w0 ρ' H' dead' w'
noncomputable def gA (ops : List Oper) (tm : List AV) (o : Oper) : Option Bool :=
 match o.guard with
 | none => some true
 | some (j, want) => match ops[j]? with
  | some oj => match oj.dst with
   | some d => match nthA tm d with
    | .c (.c (.b x)) => some (x == want)
    | .t _ => some false
    | _ => none
   | none => none
  | none => none
def liftC (l : List C0) : List AV := l.map fun x => .c (.c x)
noncomputable def evCallOp (call : Qdn) (tm : List AV) (nm : Nat) (H : Hp) (dead : List Nat) (o : Oper) : Option Mem :=
 match o.op with
 | .call { callee := .value f, args, .. } => match opV tm f, opsV tm args.toList with
  | some (.c (.f k first cap)), some xs => call k (liftC first ++ xs ++ liftC cap) nm H dead
  | _, _ => none
 | _ => none
noncomputable def evDefer (tm : List AV) (o : Oper) : Option (FuncId × List C0) :=
 match o.op with
 | .defer { callee := .value f, args, .. } => match opV tm f, args.toList with
  | some (.c (.f k [] cap)), [] => some (k, cap)
  | _, _ => none
 | _ => none
noncomputable def quietS (P : Program) (ops : List Oper) (o : Oper) (s : St) : Option St :=
 match gA ops s.tm o with
 | none => none
 | some false => some (s.put o.dst Qd2)
 | some true => match evPure P s.tm o with
  | some v => some (s.put o.dst v)
  | none => none
noncomputable def stepS (P : Program) (call : Qdn) (ops : List Oper) (pre i : Nat) (o : Oper) (s : St) : Option St :=
 match quietS P ops o s with
 | some s' => some s'
 | none => match gA ops s.tm o with
  | some true => match evMem P s.tm (pre * 65536 + s.r * 64 + i) s.H s.dead o with
   | some (v, H, dead) => some { s.put o.dst v with H := H, dead := dead }
   | none => match evCallOp call s.tm (pre * 65536 + s.r * 64 + i) s.H s.dead o with
    | some (v, H, dead) => some { s.put o.dst v with H := H, dead := dead }
    | none => match evDefer s.tm o with
     | some d => some { s.put o.dst Qd2 with df := d :: s.df }
     | none => none
  | _ => none
section
variable {P : Program} {D : Nat → Prop} {w0 : World} {ρ : Ren} {s s' : St} {a : Act} {w : World} {call : Qdn} {ops : Array Oper} {Q : Exit → Act → World → Prop}
theorem RT.put {tm : List AV} (h : RT ρ tm a) {v : AV} {V : Value} (hv : v.R ρ V) (dst : Option Tmp) : RT ρ (match dst with | some d => tm.set d v | none => tm) (a.put dst V) := by
 cases dst with
 | none => exact h
 | some d =>
  show All2 _ (tm.set d v) (a.tmps.setIfInBounds d V).toList
  rw [Array.toList_setIfInBounds]
  exact All2.set hv h d
theorem St.put_tm (s : St) (dst : Option Tmp) (v : AV) : (s.put dst v).tm = (match dst with | some d => s.tm.set d v | none => s.tm) := by
 cases dst with
 | none => rfl
 | some d => exact setA_eq _ _ _
theorem St.put_H (s : St) (dst : Option Tmp) (v : AV) : (s.put dst v).H = s.H ∧ (s.put dst v).dead = s.dead ∧ (s.put dst v).df = s.df ∧ (s.put dst v).r = s.r := by cases dst <;> exact ⟨rfl, rfl, rfl, rfl⟩
theorem put_defers (a : Act) (dst : Option Tmp) (V : Value) : (a.put dst V).defers = a.defers := by cases dst <;> rfl
theorem Rel.put (h : Rel D w0 ρ s a w) {v : AV} {V : Value} (hv : v.R ρ V) (dst : Option Tmp) : Rel D w0 ρ (s.put dst v) (a.put dst V) w := by
 obtain ⟨h1, h2, h3, h4⟩ := St.put_H s dst v
 exact ⟨by rw [St.put_tm]; exact h.tm.put hv dst, by rw [h3, put_defers]; exact h.df, by rw [h1, h2]; exact h.rh⟩
theorem gA_sound (h : RT ρ s.tm a) {o : Oper} {b : Bool} (hg : gA ops.toList s.tm o = some b) : Region.wanted o (yielded ops a.tmps) = b := by
 unfold gA at hg
 unfold Region.wanted
 split at hg
 ·rename_i hn; simp at hg; subst hg; rw [hn]
 ·rename_i j want hn
  rw [hn]
  split at hg
  ·rename_i oj hj
   split at hg
   ·rename_i d hd
    split at hg
    ·rename_i x hx
     simp at hg; subst hg
     have hr := Qdp h d
     rw [hx] at hr
     have hr : a.tmps.getD d undef = .bool x := hr
     have hj' : ops[j]? = some oj := by simpa using hj
     have hy' : a.tmps[d]? = some (.bool x) := by
      rw [Array.getD_eq_getD_getElem?] at hr
      cases hh : a.tmps[d]? with
      | none => rw [hh] at hr; simp [undef] at hr
      | some y => rw [hh] at hr; simpa using hr
     simp only [yielded, hj', Option.bind_some, hd, hy']
     cases x <;> cases want <;> rfl
    ·rename_i l hx
     simp at hg; subst hg
     have hr := Qdp h d
     rw [hx] at hr
     obtain ⟨L, _, hr⟩ := hr
     have hj' : ops[j]? = some oj := by simpa using hj
     rw [Array.getD_eq_getD_getElem?] at hr
     simp only [yielded, hj', Option.bind_some, hd]
     cases hh : a.tmps[d]? with
     | none => rfl
     | some y => rw [hh] at hr; simp at hr; subst hr; rfl
    ·cases hg
   ·cases hg
  ·cases hg
theorem quietS_sound (h : Rel D w0 ρ s a w) {o : Oper} (he : quietS P ops.toList o s = some s') : ∃ V, Yields P ops o V a ∧ Rel D w0 ρ s' (a.put o.dst V) w := by
 unfold quietS at he
 split at he
 ·cases he
 ·rename_i hg
  simp at he; subst he
  exact ⟨undef, .inr ⟨gA_sound h.tm hg, rfl⟩, h.put (undef_R ρ) _⟩
 ·rename_i hg
  split at he
  ·rename_i v hv
   simp at he; subst he
   obtain ⟨V, hr, hrun⟩ := evPure_sound h.tm hv
   exact ⟨V, .inl ⟨gA_sound h.tm hg, hrun⟩, h.put hr _⟩
  ·cases he
theorem liftC_R {l : List C0} {L : List Value} (h : All2 (C0.R ρ) l L) : All2 (AV.R ρ) (liftC l) L := by
 refine All2.of (by simp [liftC, h.len]) fun i x hx => ?_
 simp only [liftC, List.getElem?_map] at hx
 obtain ⟨y, hy, rfl⟩ := Option.map_eq_some_iff.1 hx
 exact h.get i hy
theorem df_mono {ρ' : Ren} (hle : ρ.le ρ') {l : List (FuncId × List C0)} {m : List Deferred}
    (h : All2 (fun (x : FuncId × List C0) (d : Deferred) => ∃ C, All2 (C0.R ρ) x.2 C ∧ d = { target := .fn (.func x.1) C.toArray, args := #[] }) l m) :
    All2 (fun (x : FuncId × List C0) (d : Deferred) => ∃ C, All2 (C0.R ρ') x.2 C ∧ d = { target := .fn (.func x.1) C.toArray, args := #[] }) l m :=
 h.imp fun x d ⟨C, h1, h2⟩ => ⟨C, h1.imp (C0.mono hle), h2⟩
theorem Rel.put' {ρ' : Ren} (h : Rel D w0 ρ s a w) (hle : ρ.le ρ') {H : Hp} {dead : List Nat} {w' : World} (hR : RH D w0 ρ' H dead w') {v : AV} {V : Value} (hv : v.R ρ' V) (dst : Option Tmp) :
    Rel D w0 ρ' { s.put dst v with H := H, dead := dead } (a.put dst V) w' := by
 obtain ⟨h1, h2, h3, h4⟩ := St.put_H s dst v
 refine ⟨?_, ?_, hR⟩
 ·show RT ρ' (s.put dst v).tm _
  rw [St.put_tm]; exact RT.put (All2.imp (AV.mono hle) h.tm) hv dst
 ·show All2 _ (s.put dst v).df _
  rw [h3, put_defers]; exact df_mono hle h.df
theorem stepS_sound (hc : Qec P D w0 call) (h : Rel D w0 ρ s a w) {pre i : Nat} {o : Oper} (hi : ops[i]? = some o) (he : stepS P call ops.toList pre i o s = some s') {K : Act → World → Prop}
    (hK : ∀ ρ' a' w', ρ.le ρ' → Rel D w0 ρ' s' a' w' → K a' w') : wpOp P ops Q i K a w := by
 unfold stepS at he
 split at he
 ·rename_i s1 hq
  simp at he; subst he
  obtain ⟨V, hy, hR⟩ := quietS_sound (P := P) h hq
  exact hy.wpOp hi (hK ρ _ _ (Ren.le_refl _) hR)
 ·split at he
  ·rename_i hg
   have hw := gA_sound (ops := ops) h.tm hg
   unfold wpOp
   simp only [hi, hw, if_true]
   left
   split at he
   ·rename_i v H dead hm
    simp at he; subst he
    obtain ⟨ρ', n, V, w', hle, hrun, hn, hv, hR⟩ := evMem_sound (P := P) h.rh h.tm hm
    unfold Oper.wp
    rw [hrun]
    rcases hn with rfl | ⟨rfl, rfl⟩
    ·exact hK ρ' _ _ hle (h.put' hle hR hv _)
    ·exact hK ρ' _ _ hle (h.put' hle hR hv _)
   ·split at he
    ·rename_i v H dead hm
     simp at he; subst he
     unfold evCallOp at hm
     split at hm
     ·rename_i f args _ hop
      split at hm
      ·rename_i k first cap xs hf has
       obtain ⟨F, C, hF, hC, hfe⟩ := Qax h.tm hf
       have hall := ((liftC_R hF).app (Qeg h.tm has)).app (liftC_R hC)
       obtain ⟨⟨fn, hfn, hnm, hbd⟩, hcall⟩ := hc _ _ _ _ _ _ _ _ _ _ _ hm h.rh hall
       have hrun : (execOp a.eval o).run P w = .ok (.enter k (F ++ args.toList.map a.eval ++ C).toArray) w := by
        simp only [execOp, hop, resolve, hfe, Deferred.ofValue, Sem.run_bind, Sem.run_pure, Result.andThen_ok, invoke, callFunc]
        have hp : (program : Sem Program).run P w = .ok P w := rfl
        rw [hp]
        simp only [Result.andThen_ok, hfn, hnm, hbd, if_false, Bool.false_eq_true, Sem.run_pure]
        simp
       unfold Oper.wp
       rw [hrun]
       refine Calls.mono hcall fun e w' hh => ?_
       obtain ⟨ρ', V, hle, rfl, hv, hR⟩ := hh
       exact hK ρ' _ _ hle (h.put' hle hR hv _)
      ·cases hm
     ·cases hm
    ·split at he
     ·rename_i d hd
      simp at he; subst he
      unfold evDefer at hd
      split at hd
      ·rename_i f args _ hop
       split at hd
       ·rename_i k cap hf ha
        simp at hd; subst hd
        obtain ⟨F, C, hF, hC, hfe⟩ := Qax h.tm hf
        have hF0 : F = [] := List.eq_nil_of_length_eq_zero (hF.len ▸ rfl)
        subst hF0
        have ha' : args = #[] := by cases args; simp at ha; subst ha; rfl
        subst ha'
        have hrun : (execOp a.eval o).run P w = .ok (.defer { target := .fn (.func k) C.toArray, args := #[] }) w := by
         simp [execOp, hop, resolve, hfe, Deferred.ofValue]
        unfold Oper.wp
        rw [hrun]
        refine hK ρ _ _ (Ren.le_refl _) ?_
        obtain ⟨h1, h2, h3, h4⟩ := St.put_H s o.dst Qd2
        refine ⟨?_, ?_, ?_⟩
        ·show RT ρ (s.put o.dst Qd2).tm _
         rw [St.put_tm]
         exact RT.put (a := { a with defers := _ :: a.defers }) h.tm (undef_R ρ) _
        ·show All2 _ ((k, cap) :: s.df) _
         rw [put_defers]
         exact ⟨⟨C, hC, rfl⟩, h.df⟩
        ·show RH D w0 ρ (s.put o.dst Qd2).H (s.put o.dst Qd2).dead w
         rw [h1, h2]; exact h.rh
       ·cases hd
      ·cases hd
     ·cases he
  ·cases he
def evSeq (f : Nat → Oper → St → Option St) : Nat → List Oper → St → Option St
 | _, [], s => some s
 | i, o :: rest, s => match f i o s with
  | some s' => evSeq f (i + 1) rest s'
  | none => none
theorem evSeq_sound (hc : Qec P D w0 call) {pre : Nat} {sF : St} (hQ : ∀ ρ' a' w', ρ.le ρ' → Rel D w0 ρ' sF a' w' → Q .normal a' w') :
    ∀ (l : List Oper) (i : Nat) (ρ1 : Ren) (s : St) (a : Act) (w : World), ρ.le ρ1 → Rel D w0 ρ1 s a w → (∀ j, l[j]? = ops[i + j]?) → evSeq (stepS P call ops.toList pre) i l s = some sF →
     wpOps P ops Q (List.range' i l.length) a w
 | [], i, ρ1, s, a, w, hle, h, hl, he => by
  simp [evSeq] at he; subst he
  exact hQ ρ1 a w hle h
 | o :: rest, i, ρ1, s, a, w, hle, h, hl, he => by
  unfold evSeq at he
  split at he
  ·rename_i s' hs
   have hi : ops[i]? = some o := by have := hl 0; simpa using this.symm
   simp only [List.length_cons, List.range'_succ]
   rw [wpOps_cons]
   refine stepS_sound hc h hi hs fun ρ' a' w' hle' h' => ?_
   exact evSeq_sound hc hQ rest (i + 1) ρ' s' a' w' (hle.trans hle') h' (fun j => by have := hl (j + 1); simpa [Nat.add_assoc, Nat.add_comm 1 j] using this) he
  ·cases he
end
end Go.Proofs.YtchpkjgibloleaaGreat.V
namespace Go.Proofs.YtchpkjgibloleaaGreat.V
set_option maxRecDepth 100000
set_option maxHeartbeats 8000000
open Go
set_option linter.unusedVariables false
set_option linter.unusedSimpArgs false
def Qdv (o : Oper) : List Nat := (o.after.toList.filter fun e => Region.binds .any e).map (·.on)
def rdyL : Nat → List (List Nat) → List Bool → List Bool → List Nat
 | i, d :: ds, b :: bs, l => if !b && d.all (fun j => (l[j]?).getD false) then i :: rdyL (i + 1) ds bs l else rdyL (i + 1) ds bs l
 | _, _, _, _ => []
theorem mem_rdyL {l : List Bool} {i : Nat} : ∀ {k : Nat} {ds : List (List Nat)} {bs : List Bool}, i ∈ rdyL k ds bs l ↔
    ∃ j d, i = k + j ∧ ds[j]? = some d ∧ bs[j]? = some false ∧ d.all (fun j => (l[j]?).getD false) = true
 | k, [], bs => by simp [rdyL]
 | k, d :: ds, [] => by simp [rdyL]
 | k, d :: ds, b :: bs => by
  unfold rdyL
  have ih := mem_rdyL (l := l) (i := i) (k := k + 1) (ds := ds) (bs := bs)
  have shift : (∃ j d', i = k + j ∧ (d :: ds)[j]? = some d' ∧ (b :: bs)[j]? = some false ∧ d'.all (fun j => (l[j]?).getD false) = true) ↔
      (i = k ∧ b = false ∧ d.all (fun j => (l[j]?).getD false) = true) ∨ ∃ j d', i = k + 1 + j ∧ ds[j]? = some d' ∧ bs[j]? = some false ∧ d'.all (fun j => (l[j]?).getD false) = true := by
   constructor
   ·rintro ⟨j, d', h1, h2, h3, h4⟩
    cases j with
    | zero => simp at h2 h3; subst h2; exact .inl ⟨h1, h3, h4⟩
    | succ j => exact .inr ⟨j, d', by omega, by simpa using h2, by simpa using h3, h4⟩
   ·rintro (⟨h1, h2, h3⟩ | ⟨j, d', h1, h2, h3, h4⟩)
    ·exact ⟨0, d, by omega, by simp, by simp [h2], h3⟩
    ·exact ⟨j + 1, d', by omega, by simpa using h2, by simpa using h3, h4⟩
  rw [shift]
  split
  ·rename_i hb
   simp only [Bool.and_eq_true, Bool.not_eq_true'] at hb
   rw [List.mem_cons, ih]
   constructor
   ·rintro (h | h)
    ·exact .inl ⟨h, hb.1, hb.2⟩
    ·exact .inr h
   ·rintro (⟨h, _⟩ | h)
    ·exact .inl h
    ·exact .inr h
  ·rename_i hb
   rw [ih]
   constructor
   ·exact .inr
   ·rintro (⟨h1, h2, h3⟩ | h)
    ·simp [h2, h3] at hb
    ·exact h
theorem mem_rdy {ops : Array Oper} {l : List Bool} (hl : l.length = ops.size) {i : Nat} :
    i ∈ Region.ready .any ops l.toArray ↔ i ∈ rdyL 0 (ops.toList.map Qdv) l l := by
 rw [mem_ready, mem_rdyL]
 constructor
 ·rintro ⟨h1, o, h2, h3⟩
  refine ⟨i, Qdv o, by omega, by simp [h2], ?_, ?_⟩
  ·have hlt : i < l.length := by rw [hl]; exact (Array.getElem?_eq_some_iff.1 h2).1
   simp [hlt] at h1
   simp [List.getElem?_eq_getElem hlt, h1]
  ·rw [List.all_eq_true]
   intro j hj
   simp only [Qdv, List.mem_map, List.mem_filter] at hj
   obtain ⟨e, ⟨he, hb⟩, rfl⟩ := hj
   have := h3 e (by simpa using he) hb
   simpa [Array.getD_eq_getD_getElem?] using this
 ·rintro ⟨j, d, h1, h2, h3, h4⟩
  have hij : i = j := by omega
  subst hij
  simp only [List.getElem?_map, Array.getElem?_toList] at h2
  obtain ⟨o, ho, rfl⟩ := Option.map_eq_some_iff.1 h2
  refine ⟨by simp [Array.getD_eq_getD_getElem?, h3], o, ho, fun e he hb => ?_⟩
  rw [List.all_eq_true] at h4
  have := h4 e.on (List.mem_map.2 ⟨e, List.mem_filter.2 ⟨by simpa using he, hb⟩, rfl⟩)
  simpa [Array.getD_eq_getD_getElem?] using this
def freeL (opsA : Array Oper) (i : Nat) (oi : Oper) : Nat → List Oper → List (List Nat) → List Bool → Bool
 | j, oj :: os, d :: ds, b :: bs => (j == i || b || d.contains i || oi.apart opsA oj) && freeL opsA i oi (j + 1) os ds bs
 | _, _, _, _ => true
theorem freeL_spec {opsA : Array Oper} {i : Nat} {oi : Oper} : ∀ {k : Nat} {os : List Oper} {ds : List (List Nat)} {bs : List Bool}, freeL opsA i oi k os ds bs = true →
    ∀ j oj d, os[j]? = some oj → ds[j]? = some d → bs[j]? = some false → k + j ≠ i → ¬ i ∈ d → oi.apart opsA oj = true
 | k, o :: os, d :: ds, b :: bs, h, j, oj, d', h1, h2, h3, hne, hd => by
  simp only [freeL, Bool.and_eq_true, Bool.or_eq_true] at h
  cases j with
  | zero =>
   simp at h1 h2 h3
   subst h1; subst h2; subst h3
   rcases h.1 with ((hh | hh) | hh) | hh
   ·simp at hh; omega
   ·cases hh
   ·simp at hh; exact absurd hh hd
   ·exact hh
  | succ j =>
   exact freeL_spec h.2 j oj d' (by simpa using h1) (by simpa using h2) (by simpa using h3) (by omega) hd
 | k, [], _, _, _, j, oj, d', h1, _, _, _, _ => by simp at h1
 | k, _ :: _, [], _, _, j, oj, d', _, h2, _, _, _ => by simp at h2
 | k, _ :: _, _ :: _, [], _, j, oj, d', _, _, h3, _, _ => by simp at h3
inductive Nd where
 | tk (i t : Nat)
 | br (l : List (Nat × Nat))
abbrev Lv := List (List Bool × Nd)
def idxOf (m : List Bool) : Nat → List (List Bool) → Nat × List (List Bool)
 | k, [] => (k, [m])
 | k, x :: xs => if x = m then (k, x :: xs) else let r := idxOf m (k + 1) xs; (r.1, x :: r.2)
def quietOp : Op → Bool
 | .move _ | .assign _ | .pick .. | .extract .. | .nilCheck _ | .fieldAddr .. | .field .. | .indexAddr .. | .slice .. | .makeFunc .. | .build .. | .binOp .. | .unOp .. | .convert .. | .index .. => true
 | .call { callee := .builtin .len, .. } | .call { callee := .builtin .max, .. } | .call { callee := .builtin .min, .. } => true
 | _ => false
def firstQ (opsA : Array Oper) (ops : List Oper) (ds : List (List Nat)) (m : List Bool) : List Nat → Option Nat
 | [] => none
 | i :: l => match ops[i]? with
  | some o => if quietOp o.op && freeL opsA i o 0 ops ds m then some i else firstQ opsA ops ds m l
  | none => none
def mkBr (m : List Bool) : List Nat → List (List Bool) → List (Nat × Nat) × List (List Bool)
 | [], acc => ([], acc)
 | i :: l, acc => let r := idxOf (m.set i true) 0 acc; let q := mkBr m l r.2; ((i, r.1) :: q.1, q.2)
def mkLv (opsA : Array Oper) (ops : List Oper) (ds : List (List Nat)) : List (List Bool) → List (List Bool) → Lv × List (List Bool)
 | [], acc => ([], acc)
 | m :: ms, acc => match firstQ opsA ops ds m (rdyL 0 ds m m) with
  | some i => let r := idxOf (m.set i true) 0 acc; let q := mkLv opsA ops ds ms r.2; ((m, .tk i r.1) :: q.1, q.2)
  | none => let r := mkBr m (rdyL 0 ds m m) acc; let q := mkLv opsA ops ds ms r.2; ((m, .br r.1) :: q.1, q.2)
def mkLvs (opsA : Array Oper) (ops : List Oper) (ds : List (List Nat)) : Nat → List (List Bool) → List Lv
 | 0, _ => []
 | n + 1, ms => let r := mkLv opsA ops ds ms []; r.1 :: mkLvs opsA ops ds n r.2
def masksOf (n : Nat) : List Lv → List (List Bool)
 | [] => [List.replicate n true]
 | L :: _ => L.map (·.1)
def chkNd (opsA : Array Oper) (ops : List Oper) (ds : List (List Nat)) (nm : List (List Bool)) (x : List Bool × Nd) : Bool :=
 match x.2 with
 | .tk i t => match ops[i]? with
  | some o => (rdyL 0 ds x.1 x.1).contains i && freeL opsA i o 0 ops ds x.1 && nm[t]? = some (x.1.set i true)
  | none => false
 | .br l => rdyL 0 ds x.1 x.1 = l.map (·.1) && !l.isEmpty && l.all fun p => nm[p.2]? = some (x.1.set p.1 true)
def chkLvs (opsA : Array Oper) (ops : List Oper) (ds : List (List Nat)) (n : Nat) : List Lv → Bool
 | [] => true
 | L :: rest => L.all (chkNd opsA ops ds (masksOf n rest)) && chkLvs opsA ops ds n rest
def Qej : Nat → St → List (Option St) → Option (List (Option St))
 | 0, s, none :: l => some (some s :: l)
 | 0, s, some t :: l => if t = s then some (some t :: l) else none
 | n + 1, s, x :: l => match Qej n s l with
  | some l' => some (x :: l')
  | none => none
 | _, _, [] => none
theorem Qee : ∀ {n : Nat} {s : St} {l l' : List (Option St)}, Qej n s l = some l' → l'[n]? = some (some s) ∧ ∀ (j : Nat) (t : St), l[j]? = some (some t) → l'[j]? = some (some t)
 | 0, s, none :: l, l', h => by
  simp [Qej] at h; subst h
  refine ⟨by simp, fun j t ht => ?_⟩
  cases j with
  | zero => simp at ht
  | succ j => simpa using ht
 | 0, s, some t :: l, l', h => by
  simp only [Qej] at h
  split at h
  ·rename_i he
   simp at h; subst h; subst he
   exact ⟨by simp, fun j t ht => ht⟩
  ·cases h
 | n + 1, s, x :: l, l', h => by
  simp only [Qej] at h
  split at h
  ·rename_i l1 h1
   simp at h; subst h
   obtain ⟨h2, h3⟩ := Qee h1
   refine ⟨by simpa using h2, fun j t ht => ?_⟩
   cases j with
   | zero => simpa using ht
   | succ j => simpa using h3 j t (by simpa using ht)
  ·cases h
 | 0, s, [], l', h => by simp [Qej] at h
 | n + 1, s, [], l', h => by simp [Qej] at h
noncomputable def runBr (P : Program) (call : Qdn) (ops : List Oper) (pre : Nat) (s : St) : List (Nat × Nat) → List (Option St) → Option (List (Option St))
 | [], acc => some acc
 | (i, t) :: l, acc => match ops[i]? with
  | some o => match stepS P call ops pre i o s with
   | some s' => match Qej t s' acc with
    | some acc' => runBr P call ops pre s l acc'
    | none => none
   | none => none
  | none => none
noncomputable def runNd (P : Program) (call : Qdn) (ops : List Oper) (pre : Nat) (s : St) (nd : Nd) (acc : List (Option St)) : Option (List (Option St)) :=
 match nd with
 | .tk i t => match ops[i]? with
  | some o => match quietS P ops o s with
   | some s' => Qej t s' acc
   | none => none
  | none => none
 | .br l => runBr P call ops pre s l acc
noncomputable def runLv (P : Program) (call : Qdn) (ops : List Oper) (pre : Nat) : Lv → List (Option St) → List (Option St) → Option (List (Option St))
 | [], _, acc => some acc
 | x :: L, some s :: ss, acc => match runNd P call ops pre s x.2 acc with
  | some acc' => runLv P call ops pre L ss acc'
  | none => none
 | _ :: _, _, _ => none
noncomputable def runLvs (P : Program) (call : Qdn) (ops : List Oper) (pre n : Nat) : List Lv → List (Option St) → Option (List (Option St))
 | [], ss => some ss
 | L :: rest, ss => match runLv P call ops pre L ss (List.replicate (masksOf n rest).length none) with
  | some ss' => runLvs P call ops pre n rest ss'
  | none => none
theorem runBr_spec {P : Program} {call : Qdn} {ops : List Oper} {pre : Nat} {s : St} : ∀ {l : List (Nat × Nat)} {acc acc' : List (Option St)}, runBr P call ops pre s l acc = some acc' →
    (∀ p ∈ l, ∃ o s', ops[p.1]? = some o ∧ stepS P call ops pre p.1 o s = some s' ∧ acc'[p.2]? = some (some s')) ∧ ∀ (j : Nat) (t : St), acc[j]? = some (some t) → acc'[j]? = some (some t)
 | [], acc, acc', h => by simp [runBr] at h; subst h; exact ⟨by simp, fun j t h => h⟩
 | (i, t) :: l, acc, acc', h => by
  simp only [runBr] at h
  split at h
  ·rename_i o ho
   split at h
   ·rename_i s' hs
    split at h
    ·rename_i acc1 ha
     obtain ⟨h1, h2⟩ := Qee ha
     obtain ⟨h3, h4⟩ := runBr_spec h
     refine ⟨fun p hp => ?_, fun j t ht => h4 j t (h2 j t ht)⟩
     rcases List.mem_cons.1 hp with rfl | hp
     ·exact ⟨o, s', ho, hs, h4 _ _ h1⟩
     ·exact h3 p hp
    ·cases h
   ·cases h
  ·cases h
theorem runNd_keep {P : Program} {call : Qdn} {ops : List Oper} {pre : Nat} {s : St} {nd : Nd} {acc acc' : List (Option St)} (h : runNd P call ops pre s nd acc = some acc') :
    ∀ (j : Nat) (t : St), acc[j]? = some (some t) → acc'[j]? = some (some t) := by
 unfold runNd at h
 split at h
 ·split at h
  ·split at h
   ·exact (Qee h).2
   ·cases h
  ·cases h
 ·exact (runBr_spec h).2
theorem runLv_spec {P : Program} {call : Qdn} {ops : List Oper} {pre : Nat} : ∀ {L : Lv} {ss acc acc' : List (Option St)}, runLv P call ops pre L ss acc = some acc' →
    (∀ (k : Nat) (x : List Bool × Nd) (s : St), L[k]? = some x → ss[k]? = some (some s) → ∃ a1 a2, runNd P call ops pre s x.2 a1 = some a2 ∧ ∀ (j : Nat) (t : St), a2[j]? = some (some t) → acc'[j]? = some (some t)) ∧
     ∀ (j : Nat) (t : St), acc[j]? = some (some t) → acc'[j]? = some (some t)
 | [], ss, acc, acc', h => by simp [runLv] at h; subst h; exact ⟨fun k x s hk => by simp at hk, fun j t h => h⟩
 | x :: L, some s :: ss, acc, acc', h => by
  simp only [runLv] at h
  split at h
  ·rename_i a1 ha
   obtain ⟨h1, h2⟩ := runLv_spec h
   refine ⟨fun k y s' hk hs => ?_, fun j t ht => h2 j t (runNd_keep ha j t ht)⟩
   cases k with
   | zero => simp at hk hs; subst hk; subst hs; exact ⟨acc, a1, ha, h2⟩
   | succ k => exact h1 k y s' (by simpa using hk) (by simpa using hs)
  ·cases h
 | _ :: _, [], _, _, h => by simp [runLv] at h
 | _ :: _, none :: _, _, _, h => by simp [runLv] at h
section
variable {P : Program} {D : Nat → Prop} {w0 : World} {ρ : Ren} {s s' : St} {a : Act} {w : World} {call : Qdn} {ops : Array Oper} {Q : Exit → Act → World → Prop}
def Good (P : Program) (D : Nat → Prop) (w0 : World) (ops : Array Oper) (ρ : Ren) (Q : Exit → Act → World → Prop) (fuel : Nat) (m : List Bool) (s : St) : Prop :=
 m.length = ops.size → ∀ ρ1 a w, ρ.le ρ1 → Rel D w0 ρ1 s a w → wpAny P .any ops Q fuel m.toArray a w
theorem set_toArray (l : List Bool) (i : Nat) : l.toArray.setIfInBounds i true = (l.set i true).toArray := by simp
theorem tk_good (hsel : Region.noSelect ops = true) {fuel i : Nat} {o : Oper} {m : List Bool} (hQ : ∀ c a w, ¬ Q (.panic c) a w) (hi : i ∈ rdyL 0 (ops.toList.map Qdv) m m) (ho : ops[i]? = some o)
    (hq : quietS P ops.toList o s = some s') (hf : freeL ops i o 0 ops.toList (ops.toList.map Qdv) m = true) (hg : Good P D w0 ops ρ Q fuel (m.set i true) s') : Good P D w0 ops ρ Q (fuel + 1) m s := by
 intro hl ρ1 a w hle hR
 obtain ⟨V, hyi, hR'⟩ := quietS_sound (P := P) hR hq
 have hmem : i ∈ Region.ready .any ops m.toArray := (mem_rdy hl).2 hi
 refine wpAny_first ho (Region.noSelect_spec hsel) (fun c a w hh => absurd hh (hQ _ _ _)) fuel _ a w ?_ hmem hyi ?_
 ·intro j oj hj hne hun hno
  have hjl : j < m.length := by rw [hl]; exact (Array.getElem?_eq_some_iff.1 hj).1
  refine freeL_spec hf j oj (Qdv oj) (by simpa using hj) (by simp [hj]) ?_ (by omega) ?_
  ·simp [hjl] at hun
   simp [List.getElem?_eq_getElem hjl, hun]
  ·intro hh
   simp only [Qdv, List.mem_map, List.mem_filter] at hh
   obtain ⟨e, ⟨he, hb⟩, he2⟩ := hh
   exact hno e (by simpa using he) hb he2
 ·rw [set_toArray]
  exact hg (by simpa using hl) ρ1 _ _ hle hR'
theorem br_good (hc : Qec P D w0 call) {pre fuel : Nat} {m : List Bool} (hne : rdyL 0 (ops.toList.map Qdv) m m ≠ [])
    (h : ∀ i ∈ rdyL 0 (ops.toList.map Qdv) m m, ∃ o s', ops[i]? = some o ∧ stepS P call ops.toList pre i o s = some s' ∧ Good P D w0 ops ρ Q fuel (m.set i true) s') : Good P D w0 ops ρ Q (fuel + 1) m s := by
 intro hl ρ1 a w hle hR
 refine ⟨fun h0 => ?_, fun i hi => ?_⟩
 ·obtain ⟨i0, hi0⟩ := List.exists_mem_of_ne_nil _ hne
  have : i0 ∈ Region.ready .any ops m.toArray := (mem_rdy hl).2 hi0
  rw [h0] at this; cases this
 ·obtain ⟨o, s', ho, hs, hg⟩ := h i ((mem_rdy hl).1 hi)
  refine stepS_sound hc hR ho hs fun ρ' a' w' hle' hR' => ?_
  rw [set_toArray]
  exact hg (by simpa using hl) ρ' _ _ (hle.trans hle') hR'
theorem runLvs_good (hc : Qec P D w0 call) (hsel : Region.noSelect ops = true) {pre : Nat} (hQ : ∀ c a w, ¬ Q (.panic c) a w) {sF : St} (hF : Good P D w0 ops ρ Q 0 (List.replicate ops.toList.length true) sF) : ∀ (Ls : List Lv) {ss : List (Option St)},
    chkLvs ops ops.toList (ops.toList.map Qdv) ops.toList.length Ls = true → runLvs P call ops.toList pre ops.toList.length Ls ss = some [some sF] →
    ∀ (k : Nat) (m : List Bool) (s : St), (masksOf ops.toList.length Ls)[k]? = some m → ss[k]? = some (some s) → Good P D w0 ops ρ Q Ls.length m s
 | [], ss, _, h, k, m, s, hm, hs => by
  simp [runLvs] at h; subst h
  cases k with
  | zero => simp [masksOf] at hm hs; subst hm; subst hs; simpa using hF
  | succ k => simp at hs
 | L :: rest, ss, hchk, h, k, m, s, hm, hs => by
  simp only [runLvs] at h
  split at h
  ·rename_i ss' hss
   simp only [chkLvs, Bool.and_eq_true, List.all_eq_true] at hchk
   obtain ⟨hL, hrest⟩ := hchk
   have ih := runLvs_good hc hsel hQ hF rest hrest h
   obtain ⟨h1, _⟩ := runLv_spec hss
   simp only [masksOf, List.getElem?_map] at hm
   obtain ⟨x, hx, rfl⟩ := Option.map_eq_some_iff.1 hm
   obtain ⟨a1, a2, hrun, hkeep⟩ := h1 k x s hx hs
   have hck := hL x (List.mem_of_getElem? hx)
   unfold chkNd at hck
   unfold runNd at hrun
   split at hck
   ·rename_i i t hnd
    rw [hnd] at hrun
    simp only at hrun
    split at hck
    ·rename_i o ho
     rw [ho] at hrun
     simp only at hrun
     simp only [Bool.and_eq_true, decide_eq_true_eq] at hck
     obtain ⟨⟨hr, hf⟩, hnm⟩ := hck
     split at hrun
     ·rename_i s' hq
      have hp := hkeep t s' (Qee hrun).1
      exact tk_good hsel hQ (by simpa using hr) (by simpa using ho) hq hf (ih t _ s' hnm hp)
     ·cases hrun
    ·cases hck
   ·rename_i l hnd
    rw [hnd] at hrun
    simp only [Bool.and_eq_true, decide_eq_true_eq, List.all_eq_true, Bool.not_eq_true'] at hck
    obtain ⟨⟨hr, hne⟩, hall⟩ := hck
    obtain ⟨hb, _⟩ := runBr_spec hrun
    refine br_good (pre := pre) hc ?_ fun i hi => ?_
    ·rw [hr]; intro h0; cases l with
     | nil => simp at hne
     | cons p l => simp at h0
    ·rw [hr] at hi
     obtain ⟨p, hp, rfl⟩ := List.mem_map.1 hi
     obtain ⟨o, s', ho, hs', hacc⟩ := hb p hp
     exact ⟨o, s', by simpa using ho, hs', ih p.2 _ s' (hall p hp) (hkeep _ _ hacc)⟩
  ·cases h
noncomputable def evRegion (P : Program) (call : Qdn) (pre : Nat) (ops : Array Oper) (draw : Bool) (s : St) : Option St :=
 if draw then
  let Ls := mkLvs ops ops.toList (ops.toList.map Qdv) ops.toList.length [List.replicate ops.toList.length false]
  if Region.noSelect ops && chkLvs ops ops.toList (ops.toList.map Qdv) ops.toList.length Ls && decide (masksOf ops.toList.length Ls = [List.replicate ops.toList.length false]) && decide (Ls.length = ops.toList.length) then
   match runLvs P call ops.toList pre ops.toList.length Ls [some s] with
   | some [some s'] => some { s' with r := s'.r + 1 }
   | _ => none
  else none
 else match evSeq (stepS P call ops.toList pre) 0 ops.toList s with
  | some s' => some { s' with r := s'.r + 1 }
  | none => none
theorem Rel.r (h : Rel D w0 ρ s a w) (n : Nat) : Rel D w0 ρ { s with r := n } a w := ⟨h.tm, h.df, h.rh⟩
theorem evRegion_sound (hm : P.follows .mixedOrders = true) (hc : Qec P D w0 call) {pre id : Nat} {draw : Bool} (h : Rel D w0 ρ s a w) (he : evRegion P call pre ops draw s = some s')
    (hQ : ∀ ρ' a' w', ρ.le ρ' → Rel D w0 ρ' s' a' w' → Q .normal a' w') : (Code.region id ops draw).wp P Q a w := by
 unfold evRegion at he
 dsimp only at he
 split at he
 ·rename_i hd
  subst hd
  generalize mkLvs ops ops.toList (ops.toList.map Qdv) ops.toList.length [List.replicate ops.toList.length false] = Ls at he
  split at he
  ·rename_i hsel
   simp only [Bool.and_eq_true, decide_eq_true_eq] at hsel
   obtain ⟨⟨⟨hsel, hchk⟩, hmask⟩, hlen⟩ := hsel
   split at he
   ·rename_i sF hlv
    simp at he; subst he
    let Q1 : Exit → Act → World → Prop := fun e a' w' => e = .normal ∧ ∃ ρ', ρ.le ρ' ∧ Rel D w0 ρ' sF a' w'
    have key : (Code.region id ops true).wp P Q1 a w := by
     refine wp_region_any hm ?_
     have hF : Good P D w0 ops ρ Q1 0 (List.replicate ops.toList.length true) sF := by
      intro hl ρ1 a1 w1 hle hR
      refine ⟨?_, rfl, ρ1, hle, hR⟩
      apply List.eq_nil_iff_forall_not_mem.2
      intro i hi
      obtain ⟨j, d, h1, h2, h3, h4⟩ := mem_rdyL.1 ((mem_rdy hl).1 hi)
      rw [List.getElem?_replicate] at h3
      split at h3 <;> simp at h3
     have h2 := runLvs_good (Q := Q1) (ρ := ρ) hc hsel (fun c a w hh => by cases hh.1) hF Ls hchk hlv 0 (List.replicate ops.toList.length false) s (by rw [hmask]; rfl) (by simp) (by simp) ρ a w.drew (Ren.le_refl _) ⟨h.tm, h.df, h.rh.drew⟩
     have e1 : (List.replicate ops.toList.length false).toArray = Array.replicate ops.size false := by simp
     have e2 : ops.toList.length = ops.size := Array.length_toList
     rw [hlen, e1, e2] at h2
     exact h2
    refine wp_mono key fun e a' w' hh => ?_
    obtain ⟨rfl, ρ', hle, hR⟩ := hh
    exact hQ ρ' a' w' hle (hR.r _)
   ·cases he
  ·cases he
 ·rename_i hd
  simp only [Bool.not_eq_true] at hd
  subst hd
  split at he
  ·rename_i sF hs
   simp at he; subst he
   refine wp_region ?_
   have := evSeq_sound (P := P) (ops := ops) (Q := Q) hc (pre := pre) (sF := sF) (fun ρ' a' w' hle hR => hQ ρ' a' w' hle (hR.r _)) ops.toList 0 ρ s a w (Ren.le_refl _) h (fun j => by simp) hs
   rw [List.range_eq_range']
   simpa using this
  ·cases he
inductive Ex where
 | n
 | x (id : Nat)
 | r
 deriving DecidableEq
def Ex.out : Ex → Exit
 | .n => .normal
 | .x id => .exit id
 | .r => .ret
def loopN (f : St → Option (Ex × St)) : Nat → St → Option (Ex × St)
 | 0, _ => none
 | n + 1, s => match f s with
  | some (.n, s') => loopN f n s'
  | r => r
noncomputable def evCode (P : Program) (call : Qdn) (pre N : Nat) : Code → St → Option (Ex × St)
 | .skip, s => some (.n, s)
 | .label _, s => some (.n, s)
 | .ret, s => some (.r, s)
 | .exit id, s => some (.x id, s)
 | .seq a b, s => match evCode P call pre N a s with
  | some (.n, s') => evCode P call pre N b s'
  | r => r
 | .cond c a b, s => match opV s.tm c with
  | some (.c (.c (.b t))) => if t then evCode P call pre N a s else evCode P call pre N b s
  | _ => none
 | .block id c, s => match evCode P call pre N c s with
  | some (.x j, s') => if j = id then some (.n, s') else some (.x j, s')
  | r => r
 | .loop c, s => loopN (evCode P call pre N c) N s
 | .scope c, s => evCode P call pre N c s
 | .region _ ops draw, s => (evRegion P call pre ops draw s).map fun s' => (.n, s')
 | _, _ => none
theorem evCode_sound (hm : P.follows .mixedOrders = true) (hc : Qec P D w0 call) {pre N : Nat} (c : Code) : ∀ {s s' : St} {e : Ex} {ρ : Ren} {a : Act} {w : World} {Q : Exit → Act → World → Prop},
    evCode P call pre N c s = some (e, s') → Rel D w0 ρ s a w → (∀ ρ' a' w', ρ.le ρ' → Rel D w0 ρ' s' a' w' → Q e.out a' w') → c.wp P Q a w := by
 induction c with
 | skip => intro s s' e ρ a w Q he h hQ; simp [evCode] at he; obtain ⟨rfl, rfl⟩ := he; exact wp_skip (hQ ρ a w (Ren.le_refl _) h)
 | label l => intro s s' e ρ a w Q he h hQ; simp [evCode] at he; obtain ⟨rfl, rfl⟩ := he; exact wp_label (hQ ρ a w (Ren.le_refl _) h)
 | ret => intro s s' e ρ a w Q he h hQ; simp [evCode] at he; obtain ⟨rfl, rfl⟩ := he; exact wp_ret (hQ ρ a w (Ren.le_refl _) h)
 | exit id => intro s s' e ρ a w Q he h hQ; simp [evCode] at he; obtain ⟨rfl, rfl⟩ := he; exact wp_exit (hQ ρ a w (Ren.le_refl _) h)
 | goto l => intro s s' e ρ a w Q he h hQ; simp [evCode] at he
 | refuse l => intro s s' e ρ a w Q he h hQ; simp [evCode] at he
 | rangeFunc f ps x y ih1 ih2 => intro s s' e ρ a w Q he h hQ; simp [evCode] at he
 | region id ops draw =>
  intro s s' e ρ a w Q he h hQ
  simp only [evCode] at he
  obtain ⟨s1, hs1, he⟩ := Option.map_eq_some_iff.1 he
  simp at he; obtain ⟨rfl, rfl⟩ := he
  exact evRegion_sound hm hc h hs1 hQ
 | seq x y ih1 ih2 =>
  intro s s' e ρ a w Q he h hQ
  simp only [evCode] at he
  refine wp_seq ?_
  split at he
  ·rename_i s1 hs1
   exact ih1 hs1 h fun ρ' a' w' hle h' => ih2 he h' fun ρ'' a'' w'' hle' h'' => hQ ρ'' a'' w'' (hle.trans hle') h''
  ·rename_i hn
   refine ih1 he h fun ρ' a' w' hle h' => ?_
   have := hQ ρ' a' w' hle h'
   cases e with
   | n => exact absurd he (hn s')
   | x id => exact this
   | r => exact this
 | cond c x y ih1 ih2 =>
  intro s s' e ρ a w Q he h hQ
  simp only [evCode] at he
  split at he
  ·rename_i t hc'
   have h1 : a.eval c = .bool t := Qax h.tm hc'
   refine wp_cond h1 ?_
   cases t with
   | true => exact ih1 he h hQ
   | false => exact ih2 he h hQ
  ·cases he
 | block id c ih =>
  intro s s' e ρ a w Q he h hQ
  simp only [evCode] at he
  refine wp_block ?_
  split at he
  ·rename_i j s1 hs1
   refine ih hs1 h fun ρ' a' w' hle h' => ?_
   split at he
   ·rename_i hj
    simp at he; obtain ⟨rfl, rfl⟩ := he
    show (if j = id then _ else _)
    rw [if_pos hj]; exact hQ ρ' a' w' hle h'
   ·rename_i hj
    simp at he; obtain ⟨rfl, rfl⟩ := he
    show (if j = id then _ else _)
    rw [if_neg hj]; exact hQ ρ' a' w' hle h'
  ·rename_i hn
   refine ih he h fun ρ' a' w' hle h' => ?_
   have := hQ ρ' a' w' hle h'
   cases e with
   | n => exact this
   | x id => exact absurd he (hn _ _)
   | r => exact this
 | loop c ih =>
  intro s s' e ρ a w Q he h hQ
  simp only [evCode] at he
  refine wp_loop_rounds N ?_
  have key : ∀ (n : Nat) {s : St} {ρ1 : Ren} {a : Act} {w : World}, loopN (evCode P call pre N c) n s = some (e, s') → ρ.le ρ1 → Rel D w0 ρ1 s a w → Code.rounds P c Q n a w := by
   intro n
   induction n with
   | zero => intro s ρ1 a w he _ _; simp [loopN] at he
   | succ n ihn =>
    intro s ρ1 a w he hle h
    unfold loopN at he
    rw [rounds_succ]
    split at he
    ·rename_i s1 hs1
     exact ih hs1 h fun ρ' a' w' hle' h' => ihn he (hle.trans hle') h'
    ·rename_i hn
     refine ih he h fun ρ' a' w' hle' h' => ?_
     have := hQ ρ' a' w' (hle.trans hle') h'
     cases e with
     | n => exact absurd he (hn s')
     | x id => exact this
     | r => exact this
  exact key N he (Ren.le_refl _) h
 | scope c ih =>
  intro s s' e ρ a w Q he h hQ
  simp only [evCode] at he
  refine wp_scope_straight (ih he h fun ρ' a' w' hle h' => ?_)
  have := hQ ρ' a' w' hle h'
  cases e <;> exact this
end
end Go.Proofs.YtchpkjgibloleaaGreat.V
namespace Go.Proofs.YtchpkjgibloleaaGreat.V
set_option maxRecDepth 100000
set_option maxHeartbeats 8000000
open Go
set_option linter.unusedVariables false
set_option linter.unusedSimpArgs false
def C0.names : C0 → List Nat
 | .p (some (n, _)) => [n]
 | .s (some (n, _)) _ _ _ _ => [n]
 | _ => []
def C1.names : C1 → List Nat
 | .c x => x.names
 | .f _ a b => a.flatMap C0.names ++ b.flatMap C0.names
def T1.names : T1 → List Nat
 | .c x => x.names
 | .g l => l.flatMap C1.names
def AV.names : AV → List Nat
 | .c x => x.names
 | .g l => l.flatMap C1.names
 | .t l => l.flatMap T1.names
noncomputable def dfs (H : Hp) : Nat → List Nat → List Nat → List Nat
 | 0, _, seen => seen
 | _ + 1, [], seen => seen
 | k + 1, n :: rest, seen => if seen.contains n then dfs H k rest seen else match get H n with
  | some e => dfs H k (e.cs.flatMap C1.names ++ rest) (n :: seen)
  | none => dfs H k rest (n :: seen)
def gcK (keep : Nat → Bool) (H0 : Hp) (r : AV) (H : Hp) (dead : List Nat) : Hp × List Nat :=
 if r.names.all keep && ((H.filter fun e => keep e.1).all fun e => (e.2.cs.flatMap C1.names).all keep) && (H0.map (·.1)).all keep then (H.filter fun e => keep e.1, dead.filter keep) else (H, dead)
noncomputable def gc (H0 : Hp) (dead0 : List Nat) (r : AV) (H : Hp) (dead : List Nat) : Hp × List Nat :=
 gcK (fun n => (dfs H 4000 (r.names ++ H0.map (·.1)) []).contains n || dead0.contains n) H0 r H dead
def Ren.only (ρ : Ren) (keep : Nat → Bool) : Ren := fun n => if keep n then ρ n else none
section
variable {ρ : Ren} {keep : Nat → Bool}
theorem C0.only {x : C0} {v : Value} (h : x.R ρ v) (hk : ∀ n ∈ x.names, keep n = true) : x.R (ρ.only keep) v := by
 cases x with
 | p a =>
  cases a with
  | none => exact h
  | some a => obtain ⟨g, z, h1, h2⟩ := h; exact ⟨g, z, by simp [Ren.only, hk a.1 (by simp [C0.names]), h1], h2⟩
 | s a len cap sz full =>
  cases a with
  | none => exact h
  | some a => obtain ⟨g, z, c, h1, h2⟩ := h; exact ⟨g, z, c, by simp [Ren.only, hk a.1 (by simp [C0.names]), h1], h2⟩
 | _ => exact h
theorem All2.only {α : Type} {R R' : α → Value → Prop} {names : α → List Nat} (hR : ∀ x v, R x v → (∀ n ∈ names x, keep n = true) → R' x v) :
    ∀ {l : List α} {m : List Value}, All2 R l m → (∀ n ∈ l.flatMap names, keep n = true) → All2 R' l m
 | [], [], _, _ => trivial
 | a :: l, b :: m, ⟨h1, h2⟩, h => ⟨hR a b h1 fun n hn => h n (by simp [hn]), All2.only hR h2 fun n hn => h n (by simp only [List.flatMap_cons, List.mem_append]; exact .inr hn)⟩
 | [], _ :: _, hh, _ => hh.elim
 | _ :: _, [], hh, _ => hh.elim
theorem C1.only {x : C1} {v : Value} (h : x.R ρ v) (hk : ∀ n ∈ x.names, keep n = true) : x.R (ρ.only keep) v := by
 cases x with
 | c x => exact C0.only h hk
 | f fn a b =>
  obtain ⟨F, C, h1, h2, h3⟩ := h
  exact ⟨F, C, All2.only (names := C0.names) (fun x v => C0.only) h1 fun n hn => hk n (by simp only [C1.names, List.mem_append]; exact .inl hn),
   All2.only (names := C0.names) (fun x v => C0.only) h2 fun n hn => hk n (by simp only [C1.names, List.mem_append]; exact .inr hn), h3⟩
theorem T1.only {x : T1} {v : Value} (h : x.R ρ v) (hk : ∀ n ∈ x.names, keep n = true) : x.R (ρ.only keep) v := by
 cases x with
 | c x => exact C1.only h hk
 | g l => obtain ⟨L, h1, h2⟩ := h; exact ⟨L, All2.only (names := C1.names) (fun x v => C1.only) h1 hk, h2⟩
theorem AV.only {x : AV} {v : Value} (h : x.R ρ v) (hk : ∀ n ∈ x.names, keep n = true) : x.R (ρ.only keep) v := by
 cases x with
 | c x => exact C1.only h hk
 | g l => obtain ⟨L, h1, h2⟩ := h; exact ⟨L, All2.only (names := C1.names) (fun x v => C1.only) h1 hk, h2⟩
 | t l => obtain ⟨L, h1, h2⟩ := h; exact ⟨L, All2.only (names := T1.names) (fun x v => T1.only) h1 hk, h2⟩
theorem Qdr : ∀ (H : Hp) (n : Nat), get (H.filter fun e => keep e.1) n = if keep n then get H n else none
 | [], n => by simp [Qd1]
 | (m, e) :: H, n => by
  have ih := Qdr H n
  rw [List.filter_cons]
  split
  ·rename_i hm
   rw [Qb6, Qb6]
   by_cases h1 : m = n
   ·subst h1; simp only at hm; simp [hm]
   ·simp only [h1, if_false]; exact ih
  ·rename_i hm
   rw [ih, Qb6]
   by_cases h1 : m = n
   ·subst h1; simp only at hm; simp [hm]
   ·simp only [h1, if_false]
theorem Qel : ∀ {H : Hp} {n : Nat} {e : Ent}, get H n = some e → (n, e) ∈ H
 | (m, e') :: H, n, e, h => by
  rw [Qb6] at h
  split at h
  ·rename_i hm; injection h with h; subst h; subst hm; simp
  ·exact List.mem_cons_of_mem _ (Qel h)
theorem get_key : ∀ {H : Hp} {n : Nat}, (get H n).isSome = true → n ∈ H.map (·.1) := by
 intro H n h
 obtain ⟨e, he⟩ := Option.isSome_iff_exists.1 h
 exact List.mem_map.2 ⟨(n, e), Qel he, rfl⟩
end
section
variable {P : Program} {D : Nat → Prop} {w0 : World}
theorem gcK_sound {ρ0 ρ : Ren} {H0 H : Hp} {dead0 dead : List Nat} {wb w : World} {r : AV} {V : Value} {keep : Nat → Bool} (hd0 : ∀ n ∈ dead0, keep n = true) (h0 : RH D w0 ρ0 H0 dead0 wb) (hle : ρ0.le ρ) (h : RH D w0 ρ H dead w) (hr : r.R ρ V) :
    ∃ ρ', ρ0.le ρ' ∧ RH D w0 ρ' (gcK keep H0 r H dead).1 (gcK keep H0 r H dead).2 w ∧ r.R ρ' V := by
 unfold gcK
 split
 ·rename_i hc
  simp only [Bool.and_eq_true, List.all_eq_true] at hc
  obtain ⟨⟨hc1, hc2⟩, hc3⟩ := hc
  have hdom : ∀ n x, ρ0 n = some x → keep n = true := fun n x hx => by
   rcases h0.fr n x hx with h1 | h1
   ·exact hc3 n (get_key h1)
   ·exact hd0 n h1
  refine ⟨ρ.only keep, fun n x hx => by simp [Ren.only, hdom n x hx, hle n x hx], ⟨?_, ?_, ?_, h.out⟩, AV.only hr hc1⟩
  ·intro n e he
   rw [Qdr] at he
   split at he
   ·rename_i hk
    obtain ⟨g, z, c, h1, h2, h3, h4, h5⟩ := h.hp n e he
    refine ⟨g, z, c, by simp [Ren.only, hk, h1], h2, h3, fun i x hx => ?_, h5⟩
    obtain ⟨y, hy, hR⟩ := h4 i x hx
    refine ⟨y, hy, C1.only hR fun m hm => ?_⟩
    refine hc2 (n, e) (List.mem_filter.2 ⟨Qel he, hk⟩) m ?_
    exact List.mem_flatMap.2 ⟨x, List.mem_of_getElem? hx, hm⟩
   ·cases he
  ·intro n m e e' g z z' he he' hg hg'
   rw [Qdr] at he he'
   split at he
   ·split at he'
    ·rename_i k1 k2
     simp only [Ren.only, k1, k2, if_true] at hg hg'
     exact h.inj n m e e' g z z' he he' hg hg'
    ·cases he'
   ·cases he
  ·intro n x hx
   unfold Ren.only at hx
   split at hx
   ·rename_i hk
    rw [Qdr, if_pos hk]
    rcases h.fr n x hx with h1 | h1
    ·exact .inl h1
    ·exact .inr (List.mem_filter.2 ⟨h1, hk⟩)
   ·cases hx
 ·exact ⟨ρ, hle, h, hr⟩
theorem gc_sound {ρ0 ρ : Ren} {H0 H : Hp} {dead0 dead : List Nat} {wb w : World} {r : AV} {V : Value} (h0 : RH D w0 ρ0 H0 dead0 wb) (hle : ρ0.le ρ) (h : RH D w0 ρ H dead w) (hr : r.R ρ V) :
    ∃ ρ', ρ0.le ρ' ∧ RH D w0 ρ' (gc H0 dead0 r H dead).1 (gc H0 dead0 r H dead).2 w ∧ r.R ρ' V :=
 gcK_sound (fun n hn => by simp [hn]) h0 hle h hr
section force
variable {α β : Type}
noncomputable def forceB (b : Bool) (f : Bool → α) : α := @Bool.rec (fun _ => α) (f false) (f true) b
theorem forceB_eq (b : Bool) (f : Bool → α) : forceB b f = f b := by cases b <;> rfl
noncomputable def forceI (n : Int) (f : Int → α) : α := @Int.rec (fun _ => α) (fun m => forceN m fun m => f (.ofNat m)) (fun m => forceN m fun m => f (.negSucc m)) n
theorem forceI_eq (n : Int) (f : Int → α) : forceI n f = f n := by cases n <;> simp [forceI, Qdd]
noncomputable def forceK (k : IntKind) (f : IntKind → α) : α := @IntKind.rec (fun _ => α) (f .i8) (f .i16) (f .i32) (f .i64) (f .u8) (f .u16) (f .u32) (f .u64) k
theorem forceK_eq (k : IntKind) (f : IntKind → α) : forceK k f = f k := by cases k <;> rfl
noncomputable def forceO (g : β → (β → α) → α) (x : Option β) (f : Option β → α) : α := @Option.rec β (fun _ => α) (f none) (fun y => g y fun y => f (some y)) x
theorem forceO_eq {g : β → (β → α) → α} (hg : ∀ y f, g y f = f y) (x : Option β) (f : Option β → α) : forceO g x f = f x := by cases x <;> simp [forceO, hg]
noncomputable def forceL (g : β → (β → α) → α) (l : List β) : (List β → α) → α := @List.rec β (fun _ => (List β → α) → α) (fun f => f []) (fun x _ ih f => g x fun x => ih fun l => f (x :: l)) l
theorem Qcs {g : β → (β → α) → α} (hg : ∀ y f, g y f = f y) : ∀ (l : List β) (f : List β → α), forceL g l f = f l
 | [], f => rfl
 | x :: l, f => by show g x (fun x => forceL g l fun l => f (x :: l)) = _; rw [hg, Qcs hg l]
noncomputable def forceA (a : Nat × Nat) (f : Nat × Nat → α) : α := forceN a.1 fun n => forceN a.2 fun o => f (n, o)
theorem forceA_eq (a : Nat × Nat) (f : Nat × Nat → α) : forceA a f = f a := by simp [forceA, Qdd]
noncomputable def forceC0 (x : C0) (f : C0 → α) : α :=
 match x with
 | .b b => forceB b fun b => f (.b b)
 | .i k n => forceK k fun k => forceI n fun n => f (.i k n)
 | .p a => forceO forceA a fun a => f (.p a)
 | .s a len cap sz full => forceO forceA a fun a => forceN len fun len => forceO forceN cap fun cap => forceN sz fun sz => forceB full fun full => f (.s a len cap sz full)
 | .nilI => f .nilI
 | .nilF => f .nilF
theorem forceC0_eq (x : C0) (f : C0 → α) : forceC0 x f = f x := by
 cases x <;> simp only [forceC0, forceB_eq, forceK_eq, forceI_eq, Qdd, forceO_eq forceA_eq, forceO_eq Qdd]
noncomputable def forceC1 (x : C1) (f : C1 → α) : α :=
 match x with
 | .c x => forceC0 x fun x => f (.c x)
 | .f fn a b => forceN fn fun fn => forceL forceC0 a fun a => forceL forceC0 b fun b => f (.f fn a b)
theorem Qdt (x : C1) (f : C1 → α) : forceC1 x f = f x := by
 cases x <;> simp only [forceC1, forceC0_eq, Qdd, Qcs forceC0_eq]
noncomputable def forceT1 (x : T1) (f : T1 → α) : α :=
 match x with
 | .c x => forceC1 x fun x => f (.c x)
 | .g l => forceL forceC1 l fun l => f (.g l)
theorem forceT1_eq (x : T1) (f : T1 → α) : forceT1 x f = f x := by
 cases x <;> simp only [forceT1, Qdt, Qcs Qdt]
noncomputable def forceV (x : AV) (f : AV → α) : α :=
 match x with
 | .c x => forceC1 x fun x => f (.c x)
 | .g l => forceL forceC1 l fun l => f (.g l)
 | .t l => forceL forceT1 l fun l => f (.t l)
theorem forceV_eq (x : AV) (f : AV → α) : forceV x f = f x := by
 cases x <;> simp only [forceV, Qdt, Qcs Qdt, Qcs forceT1_eq]
noncomputable def forceE (x : Nat × Ent) (f : Nat × Ent → α) : α := forceN x.1 fun n => forceL forceC1 x.2.cs fun cs => forceN x.2.ty fun ty => forceB x.2.ex fun ex => f (n, ⟨cs, ty, ex⟩)
theorem forceE_eq (x : Nat × Ent) (f : Nat × Ent → α) : forceE x f = f x := by simp only [forceE, Qdd, Qcs Qdt, forceB_eq]
end force
def Qce (H : Hp) : List Nat := H.map (·.1)
noncomputable def mergeH : Hp → Hp → Option Hp
 | [], X => some X
 | (n, e) :: l, X => match mergeH l X with
  | some Y => match get Y n with
   | none => some (ins n e Y)
   | some _ => none
  | none => none
theorem mergeH_get : ∀ {H X Y : Hp}, mergeH H X = some Y → ∀ m, get Y m = match get H m with | some e => some e | none => get X m
 | [], X, Y, h, m => by simp [mergeH] at h; subst h; simp [Qd1]
 | (n, e) :: l, X, Y, h, m => by
  unfold mergeH at h
  split at h
  ·rename_i Z hZ
   split at h
   ·rename_i hn
    simp at h; subst h
    rw [Qea n e Z hn, Qb6]
    by_cases h1 : m = n
    ·subst h1; simp
    ·have h2 : ¬ n = m := fun h => h1 h.symm
     simp only [h1, h2, if_false]
     exact mergeH_get hZ m
   ·cases h
  ·cases h
noncomputable def framed (call : Qdn) : Qdn := fun k xs nm H dead =>
 let seen := dfs H 4000 (xs.flatMap AV.names) []
 forceL forceE (H.filter fun e => seen.contains e.1) fun Hr => forceL forceV xs fun xs => forceN nm fun nm =>
  if (xs.flatMap AV.names).all (fun n => (Qce Hr).contains n) && Hr.all (fun e => (e.2.cs.flatMap C1.names).all fun n => (Qce Hr).contains n) then
   match call k xs nm Hr [] with
   | some (r, H1, d1) => forceV r fun r => forceL forceE H1 fun H1 =>
    if r.names.all (fun n => (Qce H1).contains n || (Qce Hr).contains n) && H1.all (fun e => (e.2.cs.flatMap C1.names).all fun n => (Qce H1).contains n || (Qce Hr).contains n) &&
        H1.all (fun e => (Qce Hr).contains e.1 || ((get H e.1).isNone && !dead.contains e.1)) then
     match mergeH H1 (H.filter fun e => !(Qce Hr).contains e.1) with
     | some Y => some (r, Y, (Qce Hr).filter (fun n => !(Qce H1).contains n) ++ dead)
     | none => none
    else none
   | none => none
  else none
theorem Qda {H : Hp} {n : Nat} (h : n ∈ Qce H) : (get H n).isSome = true := by
 induction H with
 | nil => simp [Qce] at h
 | cons x H ih =>
  obtain ⟨m, e⟩ := x
  rw [Qb6]
  split
  ·rfl
  ·rename_i hm
   simp only [Qce, List.map_cons, List.mem_cons] at h
   rcases h with h | h
   ·exact absurd h.symm hm
   ·exact ih h
theorem get_of_key' {H : Hp} {n : Nat} : n ∈ Qce H ↔ (get H n).isSome = true := ⟨Qda, get_key⟩
theorem Qem (p : Nat → Bool) (H : Hp) (n : Nat) : get (H.filter fun e => p e.1) n = if p n then get H n else none := Qdr H n
theorem framed_sound {call : Qdn} (hc : ∀ D w0, Qec P D w0 call) : Qec P D w0 (framed call) := by
 intro k xs nm H dead r H' dead' ρ vs w h hR hA
 unfold framed at h
 dsimp only at h
 rw [Qcs forceE_eq, Qcs forceV_eq, Qdd] at h
 generalize hseen : dfs H 4000 (xs.flatMap AV.names) [] = seen at h
 generalize hHr : (H.filter fun e => seen.contains e.1) = Hr at h
 have hgr : ∀ n e, get Hr n = some e → get H n = some e := by
  intro n e he
  rw [← hHr, Qem (fun n => seen.contains n)] at he
  split at he
  ·exact he
  ·cases he
 split at h
 ·rename_i hck
  simp only [Bool.and_eq_true, List.all_eq_true, List.contains_iff_mem] at hck
  obtain ⟨hck1, hck2⟩ := hck
  split at h
  ·rename_i r1 H1 d1 hcall
   rw [forceV_eq, Qcs forceE_eq] at h
   split at h
   ·rename_i hck3
    simp only [Bool.and_eq_true, List.all_eq_true, Bool.or_eq_true, List.contains_iff_mem] at hck3
    obtain ⟨⟨hr1, hH1⟩, hnew⟩ := hck3
    split at h
    ·rename_i Y hY
     simp at h; obtain ⟨rfl, rfl, rfl⟩ := h
     let kp : Nat → Bool := fun n => (Qce Hr).contains n
     let Dr : Nat → Prop := fun g => ∃ n e z, get Hr n = some e ∧ ρ n = some (g, z)
     have hRr : RH Dr w (ρ.only kp) Hr [] w := by
      refine ⟨fun n e he => ?_, fun n m e e' g z z' he he' hg hg' => ?_, fun n x hx => ?_, ⟨rfl, rfl, rfl, Nat.le_refl _, fun _ _ _ => rfl⟩⟩
      ·obtain ⟨g, z, c, h1, h2, h3, h4, h5, _⟩ := hR.hp n e (hgr n e he)
       have hk : kp n = true := by simp only [kp, List.contains_iff_mem]; exact get_of_key'.2 (by rw [he]; rfl)
       refine ⟨g, z, c, by simp [Ren.only, hk, h1], h2, h3, fun i x hx => ?_, h5, .inl ⟨n, e, z, he, h1⟩⟩
       obtain ⟨y, hy, hr⟩ := h4 i x hx
       refine ⟨y, hy, C1.only hr fun m hm => ?_⟩
       simp only [kp, List.contains_iff_mem]
       exact hck2 (n, e) (Qel he) m (List.mem_flatMap.2 ⟨x, List.mem_of_getElem? hx, hm⟩)
      ·unfold Ren.only at hg hg'
       split at hg
       ·split at hg'
        ·exact hR.inj n m e e' g z z' (hgr _ _ he) (hgr _ _ he') hg hg'
        ·cases hg'
       ·cases hg
      ·unfold Ren.only at hx
       split at hx
       ·rename_i hk
        simp only [kp, List.contains_iff_mem] at hk
        exact .inl (Qda hk)
       ·cases hx
     have hAr : All2 (AV.R (ρ.only kp)) xs vs := All2.only (names := AV.names) (fun x v hx hk => AV.only hx hk) hA fun n hn => by
      simp only [kp, List.contains_iff_mem]; exact hck1 n hn
     obtain ⟨hfn, hcl⟩ := hc Dr w k xs nm Hr [] r1 H1 d1 (ρ.only kp) vs w hcall hRr hAr
     refine ⟨hfn, Calls.mono hcl fun e w' hh => ?_⟩
     obtain ⟨ρ1, V, hle, rfl, hV, hR1⟩ := hh
     let ρ' : Ren := fun n => match ρ n with | some x => some x | none => if (Qce H1).contains n then ρ1 n else none
     have hρ1 : ρ.le ρ' := fun n x hx => by simp [ρ', hx]
     have hag1 : ∀ n, n ∈ Qce Hr → ρ' n = ρ n ∧ ∀ x, ρ n = some x → ρ1 n = some x := by
      intro n hn
      have hs : (ρ n).isSome = true := by
       obtain ⟨e, he⟩ := Option.isSome_iff_exists.1 (Qda hn)
       obtain ⟨g, z, c, h1, _⟩ := hR.hp n e (hgr n e he)
       rw [h1]; rfl
      obtain ⟨x, hx⟩ := Option.isSome_iff_exists.1 hs
      refine ⟨by simp [ρ', hx], fun y hy => hle n y (by simp [Ren.only, kp, hn, hy])⟩
     have hag : ∀ n, n ∈ Qce H1 → ρ' n = ρ1 n := by
      intro n hn
      obtain ⟨e, he⟩ := Option.isSome_iff_exists.1 (Qda hn)
      have hnn := hnew (n, e) (Qel he)
      by_cases hk : n ∈ Qce Hr
      ·obtain ⟨h1, h2⟩ := hag1 n hk
       rw [h1]
       cases hh : ρ n with
       | none =>
        obtain ⟨e', he'⟩ := Option.isSome_iff_exists.1 (Qda hk)
        obtain ⟨g, z, c, h3, _⟩ := hR.hp n e' (hgr n e' he')
        rw [h3] at hh; cases hh
       | some x => exact (h2 x hh).symm
      ·have h0 : ρ n = none := by
         rcases hnn with hnn | hnn
         ·exact absurd hnn hk
         ·simp only [Bool.and_eq_true, Bool.not_eq_true', Option.isNone_iff_eq_none] at hnn
          exact hR.unused hnn.1 (by simpa using hnn.2)
       simp [ρ', h0, hn]
     have hle' : (ρ1.only fun n => (Qce H1).contains n || (Qce Hr).contains n).le ρ' := by
      intro n x hx
      unfold Ren.only at hx
      split at hx
      ·rename_i hk
       simp only [Bool.or_eq_true, List.contains_iff_mem] at hk
       rcases hk with hk | hk
       ·rw [hag n hk]; exact hx
       ·obtain ⟨h1, h2⟩ := hag1 n hk
        rw [h1]
        cases hh : ρ n with
        | none =>
         obtain ⟨e', he'⟩ := Option.isSome_iff_exists.1 (Qda hk)
         obtain ⟨g, z, c, h3, _⟩ := hR.hp n e' (hgr n e' he')
         rw [h3] at hh; cases hh
        | some y => rw [h2 y hh] at hx; exact hx
      ·cases hx
     have hmem : ∀ n, ((Qce H1).contains n || (Qce Hr).contains n) = true ↔ n ∈ Qce H1 ∨ n ∈ Qce Hr := fun n => by
      simp only [Bool.or_eq_true, List.contains_iff_mem]
     have hX : ∀ n e, get (H.filter fun e => !(Qce Hr).contains e.1) n = some e → get H n = some e ∧ n ∉ Qce Hr := by
      intro n e he
      rw [Qem (fun n => !(Qce Hr).contains n)] at he
      split at he
      ·rename_i hk; exact ⟨he, by simpa using hk⟩
      ·cases he
     have hfar : ∀ n e g z, get (H.filter fun e => !(Qce Hr).contains e.1) n = some e → ρ n = some (g, z) → ¬ Dr g ∧ g < w.heap.size := by
      intro n e g z he hg
      obtain ⟨h1, h2⟩ := hX n e he
      refine ⟨?_, (hR.hp n e h1).block_lt g z hg⟩
      rintro ⟨m, e', z', hm, hg'⟩
      have := hR.inj n m e e' g z z' h1 (hgr m e' hm) hg hg'
      subst this
      exact h2 (get_of_key'.2 (by rw [hm]; rfl))
     have hDr : ∀ g, Dr g → D g ∨ w0.heap.size ≤ g := by
      rintro g ⟨n, e, z, he, hg⟩
      obtain ⟨g', z', c, h1, _, _, _, _, h6⟩ := hR.hp n e (hgr n e he)
      rw [hg] at h1; injection h1 with h1; injection h1 with h1 _; subst h1; exact h6
     have hget := mergeH_get hY
     have hcases : ∀ n e, get Y n = some e → get H1 n = some e ∨ get H1 n = none ∧ get (H.filter fun e => !(Qce Hr).contains e.1) n = some e := by
      intro n e he
      rw [hget n] at he
      cases hh : get H1 n with
      | some e' => rw [hh] at he; exact .inl he
      | none => rw [hh] at he; exact .inr ⟨rfl, he⟩
     have hkey1 : ∀ n e, get H1 n = some e → n ∈ Qce H1 := fun n e he => get_of_key'.2 (by rw [he]; rfl)
     refine ⟨ρ', V, hρ1, rfl, AV.mono hle' _ _ (AV.only hV fun n hn => (hmem n).2 (hr1 n hn)), ?_, ?_, ?_, ?_⟩
     ·intro n e he
      rcases hcases n e he with h1 | ⟨_, h1⟩
      ·obtain ⟨g, z, c, q1, q2, q3, q4, q5, q6⟩ := hR1.hp n e h1
       refine ⟨g, z, c, by rw [hag n (hkey1 n e h1)]; exact q1, q2, q3, fun i x hx => ?_, q5, ?_⟩
       ·obtain ⟨y, hy, hr⟩ := q4 i x hx
        exact ⟨y, hy, C1.mono hle' _ _ (C1.only hr fun m hm => (hmem m).2 (hH1 (n, e) (Qel h1) m (List.mem_flatMap.2 ⟨x, List.mem_of_getElem? hx, hm⟩)))⟩
       ·rcases q6 with q6 | q6
        ·exact hDr g q6
        ·right; have := hR.out.size; omega
      ·refine (hR.hp n e (hX n e h1).1).mono hρ1 fun g z hg => ?_
       obtain ⟨p1, p2⟩ := hfar n e g z h1 hg
       exact hR1.out.block g p2 p1
     ·have side : ∀ n e g z, get Y n = some e → ρ' n = some (g, z) → (get H1 n = some e ∧ ρ1 n = some (g, z) ∧ (Dr g ∨ w.heap.size ≤ g)) ∨ (get (H.filter fun e => !(Qce Hr).contains e.1) n = some e ∧ ρ n = some (g, z) ∧ ¬ Dr g ∧ g < w.heap.size) := by
        intro n e g z he hg
        rcases hcases n e he with h1 | ⟨_, h1⟩
        ·left
         rw [hag n (hkey1 n e h1)] at hg
         refine ⟨h1, hg, ?_⟩
         obtain ⟨g', z', c, q1, _, _, _, _, q6⟩ := hR1.hp n e h1
         rw [hg] at q1; injection q1 with q1; injection q1 with q1 _; subst q1; exact q6
        ·right
         obtain ⟨g', z', c, q1, _⟩ := hR.hp n e (hX n e h1).1
         have : ρ n = some (g, z) := by rw [← hg]; simp [ρ', q1]
         exact ⟨h1, this, hfar n e g z h1 this⟩
      intro n m e e' g z z' he he' hg hg'
      rcases side n e g z he hg with ⟨a1, a2, a3⟩ | ⟨a1, a2, a3, a4⟩ <;> rcases side m e' g z' he' hg' with ⟨b1, b2, b3⟩ | ⟨b1, b2, b3, b4⟩
      ·exact hR1.inj n m e e' g z z' a1 b1 a2 b2
      ·rcases a3 with a3 | a3
       ·exact absurd a3 b3
       ·omega
      ·rcases b3 with b3 | b3
       ·exact absurd b3 a3
       ·omega
      ·exact hR.inj n m e e' g z z' (hX _ _ a1).1 (hX _ _ b1).1 a2 b2
     ·intro n x hx
      rw [hget n]
      by_cases h1 : n ∈ Qce H1
      ·obtain ⟨e, he⟩ := Option.isSome_iff_exists.1 (Qda h1)
       left; rw [he]; rfl
      ·have h0 : get H1 n = none := by
         cases hh : get H1 n with
         | none => rfl
         | some e => exact absurd (hkey1 n e hh) h1
       rw [h0]
       simp only
       have hx' : ρ n = some x := by
        cases hh : ρ n with
        | some y => simp only [ρ', hh] at hx; exact hx
        | none => simp [ρ', hh, h1] at hx
       rcases hR.fr n x hx' with h2 | h2
       ·by_cases h3 : n ∈ Qce Hr
        ·right; simp [h3, h1]
        ·left
         rw [Qem (fun n => !(Qce Hr).contains n)]
         simp [h3]; exact h2
       ·right; simp [h2]
     ·refine ⟨hR1.out.os.trans hR.out.os, hR1.out.tape.trans hR.out.tape, hR1.out.output.trans hR.out.output, Nat.le_trans hR.out.size hR1.out.size, fun k hk hd => ?_⟩
      have h2 : ¬ Dr k := fun hh => by rcases hDr k hh with h3 | h3; exact hd h3; omega
      rw [hR1.out.block k (Nat.lt_of_lt_of_le hk hR.out.size) h2]
      exact hR.out.block k hk hd
    ·cases h
   ·cases h
  ·cases h
 ·cases h
def C0.map (f : Nat → Nat) : C0 → C0
 | .p (some (n, o)) => .p (some (f n, o))
 | .s (some (n, o)) len cap sz full => .s (some (f n, o)) len cap sz full
 | x => x
def C1.map (f : Nat → Nat) : C1 → C1
 | .c x => .c (x.map f)
 | .f fn a b => .f fn (a.map (C0.map f)) (b.map (C0.map f))
def T1.map (f : Nat → Nat) : T1 → T1
 | .c x => .c (x.map f)
 | .g l => .g (l.map (C1.map f))
def AV.map (f : Nat → Nat) : AV → AV
 | .c x => .c (x.map f)
 | .g l => .g (l.map (C1.map f))
 | .t l => .t (l.map (T1.map f))
section
variable {ρ ρ' : Ren} {f : Nat → Nat}
theorem C0.map_R {x : C0} {v : Value} (h : x.R ρ v) (hf : ∀ n ∈ x.names, ∀ y, ρ n = some y → ρ' (f n) = some y) : (x.map f).R ρ' v := by
 cases x with
 | p a =>
  cases a with
  | none => exact h
  | some a => obtain ⟨g, z, h1, h2⟩ := h; exact ⟨g, z, hf a.1 (by simp [C0.names]) _ h1, h2⟩
 | s a len cap sz full =>
  cases a with
  | none => exact h
  | some a => obtain ⟨g, z, c, h1, h2⟩ := h; exact ⟨g, z, c, hf a.1 (by simp [C0.names]) _ h1, h2⟩
 | _ => exact h
theorem All2.mapR {α : Type} {R R' : α → Value → Prop} {names : α → List Nat} {m : α → α} (hR : ∀ x v, R x v → (∀ n ∈ names x, ∀ y, ρ n = some y → ρ' (f n) = some y) → R' (m x) v) :
    ∀ {l : List α} {L : List Value}, All2 R l L → (∀ n ∈ l.flatMap names, ∀ y, ρ n = some y → ρ' (f n) = some y) → All2 R' (l.map m) L
 | [], [], _, _ => trivial
 | a :: l, b :: L, ⟨h1, h2⟩, h => ⟨hR a b h1 fun n hn => h n (by simp [hn]), All2.mapR hR h2 fun n hn => h n (by simp only [List.flatMap_cons, List.mem_append]; exact .inr hn)⟩
 | [], _ :: _, hh, _ => hh.elim
 | _ :: _, [], hh, _ => hh.elim
theorem C1.map_R {x : C1} {v : Value} (h : x.R ρ v) (hf : ∀ n ∈ x.names, ∀ y, ρ n = some y → ρ' (f n) = some y) : (x.map f).R ρ' v := by
 cases x with
 | c x => exact C0.map_R h hf
 | f fn a b =>
  obtain ⟨F, C, h1, h2, h3⟩ := h
  exact ⟨F, C, All2.mapR (ρ := ρ) (ρ' := ρ') (names := C0.names) (fun x v => C0.map_R) h1 fun n hn => hf n (by simp only [C1.names, List.mem_append]; exact .inl hn),
   All2.mapR (ρ := ρ) (ρ' := ρ') (names := C0.names) (fun x v => C0.map_R) h2 fun n hn => hf n (by simp only [C1.names, List.mem_append]; exact .inr hn), h3⟩
theorem T1.map_R {x : T1} {v : Value} (h : x.R ρ v) (hf : ∀ n ∈ x.names, ∀ y, ρ n = some y → ρ' (f n) = some y) : (x.map f).R ρ' v := by
 cases x with
 | c x => exact C1.map_R h hf
 | g l => obtain ⟨L, h1, h2⟩ := h; exact ⟨L, All2.mapR (ρ := ρ) (ρ' := ρ') (names := C1.names) (fun x v => C1.map_R) h1 hf, h2⟩
theorem AV.map_R {x : AV} {v : Value} (h : x.R ρ v) (hf : ∀ n ∈ x.names, ∀ y, ρ n = some y → ρ' (f n) = some y) : (x.map f).R ρ' v := by
 cases x with
 | c x => exact C1.map_R h hf
 | g l => obtain ⟨L, h1, h2⟩ := h; exact ⟨L, All2.mapR (ρ := ρ) (ρ' := ρ') (names := C1.names) (fun x v => C1.map_R) h1 hf, h2⟩
 | t l => obtain ⟨L, h1, h2⟩ := h; exact ⟨L, All2.mapR (ρ := ρ) (ρ' := ρ') (names := T1.names) (fun x v => T1.map_R) h1 hf, h2⟩
end
def Ent.map (f : Nat → Nat) (e : Ent) : Ent := ⟨e.cs.map (C1.map f), e.ty, e.ex⟩
noncomputable def posOf (l : List Nat) (n : Nat) : Nat := @List.rec Nat (fun _ => Nat) 0 (fun x l ih => cond (Nat.beq x n) (l.length + 1) ih) l
noncomputable def atPos (l : List Nat) (c : Nat) : Nat := @List.rec Nat (fun _ => Nat) 0 (fun x l ih => cond (Nat.beq c (l.length + 1)) x ih) l
theorem posOf_spec : ∀ {l : List Nat} {n : Nat}, n ∈ l → 0 < posOf l n ∧ posOf l n ≤ l.length ∧ atPos l (posOf l n) = n
 | x :: l, n, h => by
  have e1 : posOf (x :: l) n = if x = n then l.length + 1 else posOf l n := beq_if _ _ _ _
  have e2 : ∀ c, atPos (x :: l) c = if c = l.length + 1 then x else atPos l c := fun c => beq_if _ _ _ _
  rw [e1]
  split
  ·rename_i hx; subst hx; exact ⟨by omega, by simp, by rw [e2]; simp⟩
  ·rename_i hx
   have hn : n ∈ l := by
    rcases List.mem_cons.1 h with h | h
    ·exact absurd h.symm hx
    ·exact h
   obtain ⟨h1, h2, h3⟩ := posOf_spec hn
   refine ⟨h1, by simp; omega, ?_⟩
   rw [e2, if_neg (by omega)]; exact h3
theorem atPos_mem : ∀ {l : List Nat} {c : Nat}, 0 < c → c ≤ l.length → atPos l c ∈ l
 | [], c, h0, h => by simp at h; omega
 | x :: l, c, h0, h => by
  have e2 : atPos (x :: l) c = if c = l.length + 1 then x else atPos l c := beq_if _ _ _ _
  rw [e2]
  split
  ·simp
  ·exact List.mem_cons_of_mem _ (atPos_mem h0 (by simp at h; omega))
noncomputable def canonH (f : Nat → Nat) (H : Hp) : List Nat → Hp
 | [] => []
 | n :: l => match get H n with
  | some e => (f n, e.map f) :: canonH f H l
  | none => canonH f H l
noncomputable def backN (stepN : Nat) (seen : List Nat) (nm c : Nat) : Nat := cond (Nat.ble c seen.length) (atPos seen c) (nm + c * stepN)
def nodupB : List Nat → Bool
 | [] => true
 | x :: l => !l.contains x && nodupB l
theorem pos_at : ∀ {l : List Nat} {c : Nat}, nodupB l = true → 0 < c → c ≤ l.length → posOf l (atPos l c) = c
 | [], c, _, h0, h => by simp at h; omega
 | x :: l, c, hd, h0, h => by
  simp only [nodupB, Bool.and_eq_true, Bool.not_eq_true'] at hd
  have e1 : ∀ n, posOf (x :: l) n = if x = n then l.length + 1 else posOf l n := fun n => beq_if _ _ _ _
  have e2 : atPos (x :: l) c = if c = l.length + 1 then x else atPos l c := beq_if _ _ _ _
  rw [e2]
  split
  ·rename_i hc; rw [e1, if_pos rfl, hc]
  ·rename_i hc
   have hm := atPos_mem (l := l) h0 (by simp at h; omega)
   have hne : ¬ x = atPos l c := by rintro rfl; simp [hm] at hd
   rw [e1, if_neg hne]
   exact pos_at hd.2 h0 (by simp at h; omega)
noncomputable def ren (stepN : Nat) (call : Qdn) : Qdn := fun k xs nm H dead =>
 let seen := dfs H 4000 (xs.flatMap AV.names) []
 if dead.isEmpty && nodupB seen && (Qce H).all (fun n => seen.contains n) && seen.all (fun n => (get H n).isSome) && decide (nm < stepN) &&
     (xs.flatMap AV.names).all (fun n => seen.contains n) && H.all (fun e => (e.2.cs.flatMap C1.names).all fun n => seen.contains n) then
  forceL forceE (canonH (posOf seen) H seen) fun H' => forceL forceV (xs.map (AV.map (posOf seen))) fun xs' =>
   match call k xs' 1 H' [] with
   | some (r, H1, d1) =>
    if H1.all (fun e => e.1 != 0 && (Nat.ble e.1 seen.length || !seen.contains (nm + e.1 * stepN))) && d1.all (fun n => n != 0 && (Nat.ble n seen.length || !seen.contains (nm + n * stepN))) then
     some (r.map (backN stepN seen nm), H1.map (fun e => (backN stepN seen nm e.1, e.2.map (backN stepN seen nm))), d1.map (backN stepN seen nm))
    else none
   | none => none
 else none
theorem Qdx {f : Nat → Nat} {H : Hp} : ∀ {l : List Nat} {c : Nat} {e' : Ent}, get (canonH f H l) c = some e' → ∃ n e, n ∈ l ∧ f n = c ∧ get H n = some e ∧ e' = e.map f
 | [], c, e', h => by simp [canonH, Qd1] at h
 | n :: l, c, e', h => by
  unfold canonH at h
  split at h
  ·rename_i e he
   rw [Qb6] at h
   split at h
   ·rename_i hc; injection h with h; exact ⟨n, e, by simp, hc, he, h.symm⟩
   ·obtain ⟨m, e2, h1, h2⟩ := Qdx h; exact ⟨m, e2, List.mem_cons_of_mem _ h1, h2⟩
  ·obtain ⟨m, e2, h1, h2⟩ := Qdx h; exact ⟨m, e2, List.mem_cons_of_mem _ h1, h2⟩
theorem canonH_some {f : Nat → Nat} {H : Hp} : ∀ {l : List Nat} {n : Nat}, n ∈ l → (get H n).isSome = true → (get (canonH f H l) (f n)).isSome = true
 | m :: l, n, h, hs => by
  unfold canonH
  rcases List.mem_cons.1 h with rfl | h
  ·obtain ⟨e, he⟩ := Option.isSome_iff_exists.1 hs
   rw [he]; simp only; rw [Qb6]; simp
  ·have ih := canonH_some (f := f) h hs
   split
   ·rw [Qb6]; split
    ·rfl
    ·exact ih
   ·exact ih
theorem mapH_get {g : Nat → Nat} : ∀ {H : Hp} {n : Nat} {e' : Ent}, get (H.map fun e => (g e.1, e.2.map g)) n = some e' → ∃ c e, get H c = some e ∧ g c = n ∧ e' = e.map g
 | [], n, e', h => by simp [Qd1] at h
 | (m, e) :: H, n, e', h => by
  rw [List.map_cons, Qb6] at h
  split at h
  ·rename_i hm; injection h with h; exact ⟨m, e, by rw [Qb6]; simp, hm, h.symm⟩
  ·rename_i hm
   obtain ⟨c, e2, h1, h2, h3⟩ := mapH_get h
   refine ⟨c, e2, ?_, h2, h3⟩
   rw [Qb6, if_neg]; exact h1
   rintro rfl; exact hm h2
theorem mapH_some {g : Nat → Nat} : ∀ {H : Hp} {c : Nat}, (get H c).isSome = true → (get (H.map fun e => (g e.1, e.2.map g)) (g c)).isSome = true
 | (m, e) :: H, c, h => by
  rw [List.map_cons, Qb6]
  split
  ·rfl
  ·rename_i hm
   rw [Qb6, if_neg (by rintro rfl; exact hm rfl)] at h
   exact mapH_some h
theorem ren_sound {stepN : Nat} (hsp : 0 < stepN) {call : Qdn} (hc : ∀ D w0, Qec P D w0 call) : Qec P D w0 (ren stepN call) := by
 intro k xs nm H dead r H' dead' ρ vs w h hR hA
 unfold ren at h
 dsimp only at h
 generalize hseen : dfs H 4000 (xs.flatMap AV.names) [] = seen at h
 split at h
 ·rename_i hck
  simp only [Bool.and_eq_true, List.all_eq_true, List.contains_iff_mem, decide_eq_true_eq] at hck
  obtain ⟨⟨⟨⟨⟨⟨hde, hnd⟩, hks⟩, hsk⟩, hnm⟩, hxs⟩, hcs⟩ := hck
  have hdead : dead = [] := by simpa using hde
  subst hdead
  rw [Qcs forceE_eq, Qcs forceV_eq] at h
  split at h
  ·rename_i r0 H1 d1 hcall
   split at h
   ·rename_i hck2
    simp only [Bool.and_eq_true, List.all_eq_true, Bool.or_eq_true, bne_iff_ne, Bool.not_eq_true', Nat.ble_eq] at hck2
    obtain ⟨hn1, hn2⟩ := hck2
    simp at h; obtain ⟨rfl, rfl, rfl⟩ := h
    let ρc : Ren := fun c => if 0 < c ∧ c ≤ seen.length then ρ (atPos seen c) else none
    have hρc : ∀ n ∈ seen, ρc (posOf seen n) = ρ n := by
     intro n hn
     obtain ⟨h1, h2, h3⟩ := posOf_spec hn
     simp [ρc, h1, h2, h3]
    have hdom : ∀ n x, ρ n = some x → n ∈ seen := by
     intro n x hx
     rcases hR.fr n x hx with h1 | h1
     ·exact hks n (get_of_key'.2 h1)
     ·cases h1
    have hRc : RH D w0 ρc (canonH (posOf seen) H seen) [] w := by
     refine ⟨?_, ?_, ?_, hR.out⟩
     ·intro c e' he
      obtain ⟨n, e, hn, rfl, hne, rfl⟩ := Qdx he
      obtain ⟨g, z, cc, h1, h2, h3, h4, h5, h6⟩ := hR.hp n e hne
      refine ⟨g, z, cc, by rw [hρc n hn]; exact h1, h2, h3, fun i x hx => ?_, fun hx => by simpa [Ent.map] using h5 hx, h6⟩
      simp only [Ent.map, List.getElem?_map] at hx
      obtain ⟨x0, hx0, rfl⟩ := Option.map_eq_some_iff.1 hx
      obtain ⟨y, hy, hr⟩ := h4 i x0 hx0
      refine ⟨y, hy, C1.map_R hr fun m hm y hmy => ?_⟩
      rw [hρc m (hdom m y hmy)]; exact hmy
     ·intro c c' e1 e2 g z z' he1 he2 hg1 hg2
      obtain ⟨n, e, hn, rfl, hne, rfl⟩ := Qdx he1
      obtain ⟨n', e', hn', rfl, hne', rfl⟩ := Qdx he2
      rw [hρc n hn] at hg1
      rw [hρc n' hn'] at hg2
      rw [hR.inj n n' e e' g z z' hne hne' hg1 hg2]
     ·intro c x hx
      left
      simp only [ρc] at hx
      split at hx
      ·rename_i hc0
       have hm := atPos_mem hc0.1 hc0.2
       have := canonH_some (f := posOf seen) (l := seen) hm (hsk _ hm)
       rw [pos_at hnd hc0.1 hc0.2] at this
       exact this
      ·cases hx
    have hAc : All2 (AV.R ρc) (xs.map (AV.map (posOf seen))) vs := All2.mapR (ρ := ρ) (ρ' := ρc) (f := posOf seen) (names := AV.names) (fun x v => AV.map_R) hA fun n hn y hy => by
     rw [hρc n (hdom n y hy)]; exact hy
    obtain ⟨hfn, hcl⟩ := hc D w0 k _ 1 _ [] r0 H1 d1 ρc vs w hcall hRc hAc
    refine ⟨hfn, Calls.mono hcl fun e w' hh => ?_⟩
    obtain ⟨ρ1, V, hle, rfl, hV, hR1⟩ := hh
    let ρ2 : Ren := fun n => match ρ n with | some x => some x | none => if (n - nm) % stepN = 0 ∧ nm ≤ n ∧ seen.length < (n - nm) / stepN then ρ1 ((n - nm) / stepN) else none
    have hA : ∀ c y, ρ1 c = some y → ρ2 (backN stepN seen nm c) = some y := by
     intro c y hy
     have hk : c ≠ 0 ∧ (c ≤ seen.length ∨ ¬ nm + c * stepN ∈ seen) := by
      rcases hR1.fr c y hy with h1 | h1
      ·obtain ⟨e, he⟩ := Option.isSome_iff_exists.1 h1
       have := hn1 (c, e) (Qel he)
       exact ⟨this.1, this.2.imp id (fun hh => by simpa using hh)⟩
      ·have := hn2 c h1
       exact ⟨this.1, this.2.imp id (fun hh => by simpa using hh)⟩
     have hb : backN stepN seen nm c = if c ≤ seen.length then atPos seen c else nm + c * stepN := by
      unfold backN
      cases hh : Nat.ble c seen.length with
      | true => simp [Nat.le_of_ble_eq_true hh]
      | false =>
       have : ¬ c ≤ seen.length := fun h => by rw [Nat.ble_eq_true_of_le h] at hh; cases hh
       simp [this]
     rw [hb]
     by_cases hcl : c ≤ seen.length
     ·rw [if_pos hcl]
      have hm := atPos_mem (l := seen) (Nat.pos_of_ne_zero hk.1) hcl
      obtain ⟨e, he⟩ := Option.isSome_iff_exists.1 (hsk _ hm)
      obtain ⟨g, z, cc, h1, _⟩ := hR.hp _ e he
      have h2 := hρc _ hm
      rw [pos_at hnd (Nat.pos_of_ne_zero hk.1) hcl, h1] at h2
      have h3 := hle c _ h2
      rw [hy] at h3
      simp [ρ2, h1, h3]
     ·rw [if_neg hcl]
      have hno : ρ (nm + c * stepN) = none := by
       cases hh : ρ (nm + c * stepN) with
       | none => rfl
       | some x => exact absurd (hdom _ x hh) (hk.2.resolve_left hcl)
      have e1 : nm + c * stepN - nm = c * stepN := by omega
      simp only [ρ2, hno, e1, Nat.mul_mod_left, Nat.mul_div_cancel c hsp]
      rw [if_pos ⟨trivial, by omega, by omega⟩]; exact hy
    refine ⟨ρ2, V, fun n x hx => by simp [ρ2, hx], rfl, AV.map_R hV fun n _ y hy => hA n y hy, ?_, ?_, ?_, hR1.out⟩
    ·intro n e' he
     obtain ⟨c, e, h1, rfl, rfl⟩ := mapH_get he
     obtain ⟨g, z, cc, q1, q2, q3, q4, q5, q6⟩ := hR1.hp c e h1
     refine ⟨g, z, cc, hA c _ q1, q2, q3, fun i x hx => ?_, fun hx => by simpa [Ent.map] using q5 hx, q6⟩
     simp only [Ent.map, List.getElem?_map] at hx
     obtain ⟨x0, hx0, rfl⟩ := Option.map_eq_some_iff.1 hx
     obtain ⟨y, hy, hr⟩ := q4 i x0 hx0
     exact ⟨y, hy, C1.map_R hr fun m _ y hmy => hA m y hmy⟩
    ·intro n n' e1 e2 g z z' he1 he2 hg1 hg2
     obtain ⟨c, e, h1, rfl, rfl⟩ := mapH_get he1
     obtain ⟨c', e', h1', rfl, rfl⟩ := mapH_get he2
     obtain ⟨g1, z1, cc, q1, _⟩ := hR1.hp c e h1
     obtain ⟨g2, z2, cc', q1', _⟩ := hR1.hp c' e' h1'
     rw [hA c _ q1] at hg1
     rw [hA c' _ q1'] at hg2
     injection hg1 with hg1; injection hg1 with hg1 hz1; subst hg1
     injection hg2 with hg2; injection hg2 with hg2 hz2; subst hg2
     rw [hR1.inj c c' e e' _ _ _ h1 h1' q1 q1']
    ·intro n x hx
     have put : ∀ c, ρ1 c = some x → backN stepN seen nm c = n → (get (H1.map fun e => (backN stepN seen nm e.1, e.2.map (backN stepN seen nm))) n).isSome = true ∨ n ∈ d1.map (backN stepN seen nm) := by
      intro c hcx hcn
      subst hcn
      rcases hR1.fr c x hcx with h1 | h1
      ·exact .inl (mapH_some h1)
      ·exact .inr (List.mem_map.2 ⟨c, h1, rfl⟩)
     cases hh : ρ n with
     | some y =>
      have hxy : y = x := by simp only [ρ2, hh] at hx; exact Option.some.inj hx
      subst hxy
      have hn := hdom n y hh
      obtain ⟨h1, h2, h3⟩ := posOf_spec hn
      refine put (posOf seen n) (hle _ _ (by rw [hρc n hn]; exact hh)) ?_
      simp only [backN, Nat.ble_eq_true_of_le h2, cond_true, h3]
     | none =>
      simp only [ρ2, hh] at hx
      split at hx
      ·rename_i hq
       obtain ⟨q1, q2, q3⟩ := hq
       refine put _ hx ?_
       have hb : Nat.ble ((n - nm) / stepN) seen.length = false := by
        cases hb : Nat.ble ((n - nm) / stepN) seen.length with
        | false => rfl
        | true => have := Nat.le_of_ble_eq_true hb; omega
       simp only [backN, hb, cond_false]
       have := Nat.div_add_mod (n - nm) stepN
       rw [q1, Nat.mul_comm] at this
       omega
      ·cases hx
   ·cases h
  ·cases h
 ·cases h
noncomputable def resA (P : Program) (s : St) : List ResultVar → Option (List AV)
 | [] => some []
 | .tmp t :: l => match resA P s l with
  | some vs => some (nthA s.tm t :: vs)
  | none => none
 | .cell t ty :: l => match ptrA (nthA s.tm t), resA P s l with
  | some (n, o), some vs => match loadA P s.H ty n o with
   | some v => some (v :: vs)
   | none => none
  | _, _ => none
def toT : AV → Option T1
 | .c x => some (.c x)
 | .g l => some (.g l)
 | .t _ => none
def toTs : List AV → Option (List T1)
 | [] => some []
 | v :: l => match toT v, toTs l with
  | some x, some xs => some (x :: xs)
  | _, _ => none
def finA : List AV → Option AV
 | [v] => some v
 | l => (toTs l).map .t
theorem toTs_R {ρ : Ren} : ∀ {l : List AV} {xs : List T1} {L : List Value}, toTs l = some xs → All2 (AV.R ρ) l L → All2 (T1.R ρ) xs L
 | [], xs, [], h, _ => by simp [toTs] at h; subst h; trivial
 | v :: l, xs, V :: L, h, ⟨h1, h2⟩ => by
  unfold toTs at h
  split at h
  ·rename_i x xs' hx hxs
   simp at h; subst h
   refine ⟨?_, toTs_R hxs h2⟩
   cases v <;> simp [toT] at hx <;> subst hx <;> exact h1
  ·cases h
 | [], _, _ :: _, _, hh => hh.elim
 | _ :: _, _, [], _, hh => hh.elim
theorem resA_sound {ρ : Ren} {s : St} {a : Act} {w : World} (h : Rel D w0 ρ s a w) : ∀ {l : List ResultVar} {vs : List AV}, resA P s l = some vs →
    ∃ VS, All2 (AV.R ρ) vs VS ∧ (l.mapM fun (x : ResultVar) => (match x with | .tmp t => pure (a.tmps.getD t undef) | .cell t ty => do loadVar ty (← asAddr (a.tmps.getD t undef)) : Sem Value)).run P w = .ok VS w
 | [], vs, he => by simp [resA] at he; subst he; exact ⟨[], trivial, by simp⟩
 | .tmp t :: l, vs, he => by
  unfold resA at he
  split at he
  ·rename_i vs' hv
   simp at he; subst he
   obtain ⟨VS, h1, h2⟩ := resA_sound h hv
   exact ⟨a.tmps.getD t undef :: VS, ⟨Qdp h.tm t, h1⟩, by simp only [List.mapM_cons, Sem.run_bind, Sem.run_pure, h2, Result.andThen_ok]⟩
  ·cases he
 | .cell t ty :: l, vs, he => by
  unfold resA at he
  split at he
  ·rename_i n o vs' hp hv
   split at he
   ·rename_i v hl
    simp at he; subst he
    obtain ⟨VS, h1, h2⟩ := resA_sound h hv
    obtain ⟨g, z, hg, hV⟩ := ptrA_R hp (Qdp h.tm t)
    obtain ⟨V, hr, hrun⟩ := loadA_sound (P := P) h.rh hg hl
    simp only [Instr.loadAt, Instr.sureAddr, Sem.run_bind, Sem.run_pure, Result.andThen_ok] at hrun
    exact ⟨V :: VS, ⟨hr, h1⟩, by
     have ha : (asAddr (a.tmps.getD t undef)).run P w = .ok ⟨g, o, none⟩ w := by rw [hV]; rfl
     simp only [List.mapM_cons, Sem.run_bind, Sem.run_pure, h2, ha, hrun, Result.andThen_ok]⟩
   ·cases he
  ·cases he
theorem results_sound {ρ : Ren} {s : St} {a : Act} {w : World} (h : Rel D w0 ρ s a w) {fn : Func} {vs : List AV} {r : AV} (he : resA P s fn.results.toList = some vs) (hf : finA vs = some r) :
    ∃ V, r.R ρ V ∧ (results fn a.tmps).run P w = .ok V w := by
 obtain ⟨VS, h1, h2⟩ := resA_sound h he
 have hrun : ∀ (f : ResultVar → Sem Value), (fn.results.toList.mapM f).run P w = .ok VS w → (do let vs ← fn.results.mapM f; pure (if h : vs.size = 1 then vs[0] else Value.tuple vs) : Sem Value).run P w = .ok (if h : VS.toArray.size = 1 then VS.toArray[0] else .tuple VS.toArray) w := by
  intro f hf
  rw [Array.mapM_eq_mapM_toList]
  simp [hf]
 refine ⟨if h : VS.toArray.size = 1 then VS.toArray[0] else .tuple VS.toArray, ?_, hrun _ h2⟩
 have hl := h1.len
 unfold finA at hf
 split at hf
 ·rename_i v
  simp at hf; subst hf
  cases VS with
  | nil => simp at hl
  | cons V VS =>
   cases VS with
   | nil => exact h1.1
   | cons _ _ => simp at hl
 ·rename_i hn
  obtain ⟨xs, hx, rfl⟩ := Option.map_eq_some_iff.1 hf
  have : ¬ VS.toArray.size = 1 := by
   intro hs
   have hs2 : vs.length = 1 := by simp at hs; omega
   cases vs with
   | nil => simp at hs2
   | cons v vs =>
    cases vs with
    | nil => exact hn v rfl
    | cons _ _ => simp at hs2
  rw [dif_neg this]
  exact ⟨VS, toTs_R hx h1, rfl⟩
noncomputable def evFn (P : Program) (tbl : FuncId → Option Func) (noop : FuncId → Bool) (rk : FuncId → Nat) (N : Nat) : Nat → Qdn
 | 0 => fun _ _ _ _ _ => none
 | d + 1 => fun k xs nm H dead => bif Nat.ble (rk k) d then evFn P tbl noop rk N d k xs nm H dead else match tbl k with
  | none => none
  | some fn => match fn.body with
   | none => none
   | some c => match evCode P (framed (ren 4294967296 (evFn P tbl noop rk N d))) nm N c { tm := xs ++ List.replicate (fn.ntmps - xs.length) Qd2, H := H, dead := dead, df := [], r := 0 } with
    | some (.x _, _) => none
    | none => none
    | some (_, s) => if s.df.all (fun x => noop x.1 && Nat.beq x.2.length 2) then match resA P s fn.results.toList with
        | some vs => match finA vs with
         | some r => if s.H.length ≤ H.length then some (r, s.H, s.dead) else some (r, gc H dead r s.H s.dead)
         | none => none
        | none => none
     else none
def NoopOK (P : Program) (noop : FuncId → Bool) : Prop :=
 ∀ f, noop f = true → (∃ fn, P.funcs[f]? = some fn ∧ (fn.name == "runtime.NumGoroutine") = false ∧ fn.body.isNone = false) ∧
  ∀ p q w, CallsD P f #[p, q] .returning w fun e u w' => (∃ v, e = .returned v) ∧ u = .returning ∧ w' = w
theorem leaves_noop {noop : FuncId → Bool} (hn : NoopOK P noop) {ρ : Ren} {fn : Func} {tmps : Array Value} {R : Ending → World → Prop} {w : World} {V : Value} (hres : (results fn tmps).run P w = .ok V w) (hR : R (.returned V) w) :
    ∀ {l : List (FuncId × List C0)} {m : List Deferred}, All2 (fun (x : FuncId × List C0) (d : Deferred) => ∃ C, All2 (C0.R ρ) x.2 C ∧ d = { target := .fn (.func x.1) C.toArray, args := #[] }) l m →
     l.all (fun x => noop x.1 && Nat.beq x.2.length 2) = true → Leaves P fn tmps R m .returning w
 | [], [], _, _ => ⟨V, hres, hR⟩
 | x :: l, d :: m, ⟨⟨C, h1, h2⟩, h3⟩, h => by
  simp only [List.all_cons, Bool.and_eq_true] at h
  subst h2
  obtain ⟨⟨f, hf1, hf2, hf3⟩, hcall⟩ := hn x.1 h.1.1
  have hl := h1.len
  rw [Nat.eq_of_beq_eq_true h.1.2] at hl
  obtain ⟨p, q, rfl⟩ : ∃ p q, C = [p, q] := by
   cases C with
   | nil => simp at hl
   | cons p C => cases C with
    | nil => simp at hl
    | cons q C => cases C with
     | nil => exact ⟨p, q, rfl⟩
     | cons _ _ => simp at hl
  refine leaves_cons (f := x.1) (args := #[p, q]) (by simp) ?_ ?_
  ·simp only [invoke, callFunc, Sem.run_bind]
   have hp : (program : Sem Program).run P w = .ok P w := rfl
   rw [hp]
   simp only [Result.andThen_ok, hf1, hf2, hf3, if_false, Bool.false_eq_true, Sem.run_pure]
   simp
  ·refine (hcall p q w).mono fun e u w' hh => ?_
   obtain ⟨⟨v, rfl⟩, rfl, rfl⟩ := hh
   exact leaves_noop hn hres hR h3 h.2
 | [], _ :: _, hh, _ => hh.elim
 | _ :: _, [], hh, _ => hh.elim
def TblOK (P : Program) (tbl : FuncId → Option Func) : Prop := ∀ k fn, tbl k = some fn → P.funcs[k]? = some fn ∧ (fn.name == "runtime.NumGoroutine") = false
theorem evFn_sound (hm : P.follows .mixedOrders = true) {tbl : FuncId → Option Func} (ht : TblOK P tbl) {noop : FuncId → Bool} (hn : NoopOK P noop) (rk : FuncId → Nat) (N : Nat) : ∀ d D w0, Qec P D w0 (evFn P tbl noop rk N d) := by
 intro d
 induction d with
 | zero => intro D w0 k xs nm H dead r H' dead' ρ vs w h; simp [evFn] at h
 | succ d ih =>
  intro D w0 k xs nm H dead r H' dead' ρ vs w h hR hA
  simp only [evFn] at h
  cases hrk : Nat.ble (rk k) d with
  | true => rw [hrk] at h; exact ih D w0 k xs nm H dead r H' dead' ρ vs w h hR hA
  | false =>
  rw [hrk] at h
  simp only [cond_false] at h
  split at h
  ·cases h
  ·rename_i fn hfn
   obtain ⟨hP, hnm⟩ := ht k fn hfn
   split at h
   ·cases h
   ·rename_i c hb
    refine ⟨⟨fn, hP, hnm, by simp [hb]⟩, ?_⟩
    have hl := hA.len
    have hrel : Rel D w0 ρ { tm := xs ++ List.replicate (fn.ntmps - xs.length) Qd2, H := H, dead := dead, df := [], r := 0 } { tmps := vs.toArray ++ Array.replicate (fn.ntmps - vs.toArray.size) undef, defers := [] } w := by
     refine ⟨?_, trivial, hR⟩
     show All2 _ _ (vs.toArray ++ Array.replicate (fn.ntmps - vs.toArray.size) undef).toList
     rw [Array.toList_append, Array.toList_replicate]
     have e1 : vs.toArray.size = xs.length := by simp [hl]
     rw [e1]
     exact hA.app (All2.rep (undef_R ρ) _)
    refine calls_of_wp_defers hP hb ?_
    split at h
    ·cases h
    ·cases h
    ·rename_i e s he hne
     split at h
     ·rename_i hdf
      split at h
      ·rename_i vs' hres
       split at h
       ·rename_i r' hfin
        refine evCode_sound (Q := bodyPostD P fn _) hm (framed_sound fun D w0 => ren_sound (by decide) ih) c hne hrel fun ρ' a' w' hle h' => ?_
        have key : Leaves P fn a'.tmps (fun e w' => ∃ ρ' V, ρ.le ρ' ∧ e = .returned V ∧ r.R ρ' V ∧ RH D w0 ρ' H' dead' w') a'.defers .returning w' := by
         obtain ⟨V, hr, hrun⟩ := results_sound (P := P) h' hres hfin
         refine leaves_noop hn hrun ?_ h'.df hdf
         split at h
         ·simp at h; obtain ⟨rfl, rfl, rfl⟩ := h
          exact ⟨ρ', V, hle, rfl, hr, h'.rh⟩
         ·simp at h; obtain ⟨rfl, hgc⟩ := h
          obtain ⟨ρ2, h1, h2, h3⟩ := gc_sound hR hle h'.rh hr
          rw [hgc] at h2
          exact ⟨ρ2, V, h1, rfl, h3, h2⟩
        cases e with
        | n => exact key
        | r => exact key
        | x id => exact (he id rfl).elim
       ·cases h
      ·cases h
     ·cases h
end
end Go.Proofs.YtchpkjgibloleaaGreat.V
namespace Go.Proofs.YtchpkjgibloleaaGreat.V
set_option maxRecDepth 100000
set_option maxHeartbeats 8000000
open Go Go.RowKit
set_option linter.unusedVariables false
set_option linter.unusedSimpArgs false
noncomputable def tbl : FuncId → Option Func
 | 7 => some Tryz.f7
 | 14 => some Tryz.f14
 | 17 => some Tryz.f17
 | 18 => some Tryz.f18
 | 19 => some Tryz.f19
 | 20 => some Tryz.f20
 | 21 => some Tryz.f21
 | 31 => some Tryz.f31
 | 32 => some Tryz.f32
 | 33 => some Tryz.f33
 | 34 => some Tryz.f34
 | 35 => some Tryz.f35
 | 36 => some Tryz.f36
 | 37 => some Tryz.f37
 | 38 => some Tryz.f38
 | 39 => some Tryz.f39
 | 40 => some Tryz.f40
 | 41 => some Tryz.f41
 | 42 => some Tryz.f42
 | 43 => some Tryz.f43
 | 44 => some Tryz.f44
 | 45 => some Tryz.f45
 | 46 => some Tryz.f46
 | 47 => some Tryz.f47
 | 48 => some Tryz.f48
 | 49 => some Tryz.f49
 | 50 => some Tryz.f50
 | 51 => some Tryz.f51
 | 59 => some Tryz.f59
 | 60 => some Tryz.f60
 | 61 => some Tryz.f61
 | 62 => some Tryz.f62
 | 63 => some Tryz.f63
 | 64 => some Tryz.f64
 | 65 => some Tryz.f65
 | 66 => some Tryz.f66
 | 67 => some Tryz.f67
 | 68 => some Tryz.f68
 | 69 => some Tryz.f69
 | 70 => some Tryz.f70
 | 71 => some Tryz.f71
 | 72 => some Tryz.f72
 | 73 => some Tryz.f73
 | 74 => some Tryz.f74
 | 75 => some Tryz.f75
 | 76 => some Tryz.f76
 | 77 => some Tryz.f77
 | 79 => some Tryz.f79
 | 80 => some Tryz.f80
 | 81 => some Tryz.f81
 | 83 => some Tryz.f83
 | 84 => some Tryz.f84
 | 85 => some Tryz.f85
 | 86 => some Tryz.f86
 | 87 => some Tryz.f87
 | 88 => some Tryz.f88
 | 89 => some Tryz.f89
 | 90 => some Tryz.f90
 | 91 => some Tryz.f91
 | 92 => some Tryz.f92
 | 93 => some Tryz.f93
 | 94 => some Tryz.f94
 | 95 => some Tryz.f95
 | 96 => some Tryz.f96
 | 97 => some Tryz.f97
 | 98 => some Tryz.f98
 | 103 => some Tryz.f103
 | 104 => some Tryz.f104
 | 105 => some Tryz.f105
 | 106 => some Tryz.f106
 | 107 => some Tryz.f107
 | 108 => some Tryz.f108
 | 109 => some Tryz.f109
 | 110 => some Tryz.f110
 | 111 => some Tryz.f111
 | 112 => some Tryz.f112
 | 113 => some Tryz.f113
 | 114 => some Tryz.f114
 | 115 => some Tryz.f115
 | 116 => some Tryz.f116
 | 117 => some Tryz.f117
 | 118 => some Tryz.f118
 | 119 => some Tryz.f119
 | 120 => some Tryz.f120
 | 121 => some Tryz.f121
 | 122 => some Tryz.f122
 | 123 => some Tryz.f123
 | 124 => some Tryz.f124
 | 125 => some Tryz.f125
 | 126 => some Tryz.f126
 | 127 => some Tryz.f127
 | 130 => some Tryz.f130
 | 131 => some Tryz.f131
 | 132 => some Tryz.f132
 | 135 => some Tryz.f135
 | 136 => some Tryz.f136
 | 137 => some Tryz.f137
 | 138 => some Tryz.f138
 | 139 => some Tryz.f139
 | 141 => some Tryz.f141
 | 143 => some Tryz.f143
 | 145 => some Tryz.f145
 | 147 => some Tryz.f147
 | 148 => some Tryz.f148
 | 149 => some Tryz.f149
 | 150 => some Tryz.f150
 | 151 => some Tryz.f151
 | 152 => some Tryz.f152
 | 153 => some Tryz.f153
 | 154 => some Tryz.f154
 | 155 => some Tryz.f155
 | 156 => some Tryz.f156
 | 160 => some Tryz.f160
 | 161 => some Tryz.f161
 | 163 => some Tryz.f163
 | 164 => some Tryz.f164
 | 170 => some Tryz.f170
 | 171 => some Tryz.f171
 | 172 => some Tryz.f172
 | 173 => some Tryz.f173
 | 174 => some Tryz.f174
 | 183 => some Tryz.f183
 | 190 => some Tryz.f190
 | 191 => some Tryz.f191
 | 195 => some Tryz.f195
 | 197 => some Tryz.f197
 | _ => none
def rk : FuncId → Nat
 | 7 => 16
 | 14 => 13
 | 17 => 12
 | 18 => 11
 | 19 => 15
 | 20 => 1
 | 21 => 14
 | 31 => 9
 | 32 => 4
 | 33 => 12
 | 34 => 1
 | 35 => 3
 | 36 => 1
 | 37 => 2
 | 38 => 5
 | 39 => 1
 | 40 => 1
 | 41 => 11
 | 42 => 10
 | 43 => 9
 | 44 => 10
 | 45 => 9
 | 46 => 8
 | 47 => 7
 | 48 => 10
 | 49 => 7
 | 50 => 8
 | 51 => 3
 | 59 => 5
 | 60 => 8
 | 61 => 4
 | 62 => 3
 | 63 => 3
 | 64 => 1
 | 65 => 7
 | 66 => 11
 | 67 => 2
 | 68 => 1
 | 69 => 4
 | 70 => 1
 | 71 => 1
 | 72 => 4
 | 73 => 1
 | 74 => 4
 | 75 => 2
 | 76 => 5
 | 77 => 7
 | 79 => 8
 | 80 => 1
 | 81 => 7
 | 83 => 8
 | 84 => 1
 | 85 => 4
 | 86 => 6
 | 87 => 8
 | 88 => 8
 | 89 => 5
 | 90 => 5
 | 91 => 1
 | 92 => 1
 | 93 => 1
 | 94 => 6
 | 95 => 1
 | 96 => 7
 | 97 => 1
 | 98 => 2
 | 103 => 1
 | 104 => 4
 | 105 => 1
 | 106 => 7
 | 107 => 1
 | 108 => 3
 | 109 => 2
 | 110 => 2
 | 111 => 1
 | 112 => 2
 | 113 => 1
 | 114 => 1
 | 115 => 1
 | 116 => 6
 | 117 => 2
 | 118 => 1
 | 119 => 1
 | 120 => 10
 | 121 => 4
 | 122 => 1
 | 123 => 3
 | 124 => 1
 | 125 => 2
 | 126 => 1
 | 127 => 1
 | 130 => 5
 | 131 => 5
 | 132 => 6
 | 135 => 1
 | 136 => 2
 | 137 => 5
 | 138 => 2
 | 139 => 4
 | 141 => 5
 | 143 => 2
 | 145 => 1
 | 147 => 1
 | 148 => 3
 | 149 => 2
 | 150 => 6
 | 151 => 1
 | 152 => 1
 | 153 => 5
 | 154 => 2
 | 155 => 1
 | 156 => 1
 | 160 => 3
 | 161 => 1
 | 163 => 1
 | 164 => 3
 | 170 => 1
 | 171 => 1
 | 172 => 5
 | 173 => 4
 | 174 => 3
 | 183 => 1
 | 190 => 2
 | 191 => 2
 | 195 => 4
 | 197 => 3
 | _ => 0
def noop : FuncId → Bool
 | 36 | 119 => true
 | _ => false
theorem tbl_ok : TblOK Tryz.prog tbl := by
 intro k fn h
 unfold tbl at h
 split at h
 ·injection h with h; subst h; exact ⟨Tryz.func7, by kernel_rfl⟩
 ·injection h with h; subst h; exact ⟨Tryz.func14, by kernel_rfl⟩
 ·injection h with h; subst h; exact ⟨Tryz.func17, by kernel_rfl⟩
 ·injection h with h; subst h; exact ⟨Tryz.func18, by kernel_rfl⟩
 ·injection h with h; subst h; exact ⟨Tryz.func19, by kernel_rfl⟩
 ·injection h with h; subst h; exact ⟨Tryz.func20, by kernel_rfl⟩
 ·injection h with h; subst h; exact ⟨Tryz.func21, by kernel_rfl⟩
 ·injection h with h; subst h; exact ⟨Tryz.func31, by kernel_rfl⟩
 ·injection h with h; subst h; exact ⟨Tryz.func32, by kernel_rfl⟩
 ·injection h with h; subst h; exact ⟨Tryz.func33, by kernel_rfl⟩
 ·injection h with h; subst h; exact ⟨Tryz.func34, by kernel_rfl⟩
 ·injection h with h; subst h; exact ⟨Tryz.func35, by kernel_rfl⟩
 ·injection h with h; subst h; exact ⟨Tryz.func36, by kernel_rfl⟩
 ·injection h with h; subst h; exact ⟨Tryz.func37, by kernel_rfl⟩
 ·injection h with h; subst h; exact ⟨Tryz.func38, by kernel_rfl⟩
 ·injection h with h; subst h; exact ⟨Tryz.func39, by kernel_rfl⟩
 ·injection h with h; subst h; exact ⟨Tryz.func40, by kernel_rfl⟩
 ·injection h with h; subst h; exact ⟨Tryz.func41, by kernel_rfl⟩
 ·injection h with h; subst h; exact ⟨Tryz.func42, by kernel_rfl⟩
 ·injection h with h; subst h; exact ⟨Tryz.func43, by kernel_rfl⟩
 ·injection h with h; subst h; exact ⟨Tryz.func44, by kernel_rfl⟩
 ·injection h with h; subst h; exact ⟨Tryz.func45, by kernel_rfl⟩
 ·injection h with h; subst h; exact ⟨Tryz.func46, by kernel_rfl⟩
 ·injection h with h; subst h; exact ⟨Tryz.func47, by kernel_rfl⟩
 ·injection h with h; subst h; exact ⟨Tryz.func48, by kernel_rfl⟩
 ·injection h with h; subst h; exact ⟨Tryz.func49, by kernel_rfl⟩
 ·injection h with h; subst h; exact ⟨Tryz.func50, by kernel_rfl⟩
 ·injection h with h; subst h; exact ⟨Tryz.func51, by kernel_rfl⟩
 ·injection h with h; subst h; exact ⟨Tryz.func59, by kernel_rfl⟩
 ·injection h with h; subst h; exact ⟨Tryz.func60, by kernel_rfl⟩
 ·injection h with h; subst h; exact ⟨Tryz.func61, by kernel_rfl⟩
 ·injection h with h; subst h; exact ⟨Tryz.func62, by kernel_rfl⟩
 ·injection h with h; subst h; exact ⟨Tryz.func63, by kernel_rfl⟩
 ·injection h with h; subst h; exact ⟨Tryz.func64, by kernel_rfl⟩
 ·injection h with h; subst h; exact ⟨Tryz.func65, by kernel_rfl⟩
 ·injection h with h; subst h; exact ⟨Tryz.func66, by kernel_rfl⟩
 ·injection h with h; subst h; exact ⟨Tryz.func67, by kernel_rfl⟩
 ·injection h with h; subst h; exact ⟨Tryz.func68, by kernel_rfl⟩
 ·injection h with h; subst h; exact ⟨Tryz.func69, by kernel_rfl⟩
 ·injection h with h; subst h; exact ⟨Tryz.func70, by kernel_rfl⟩
 ·injection h with h; subst h; exact ⟨Tryz.func71, by kernel_rfl⟩
 ·injection h with h; subst h; exact ⟨Tryz.func72, by kernel_rfl⟩
 ·injection h with h; subst h; exact ⟨Tryz.func73, by kernel_rfl⟩
 ·injection h with h; subst h; exact ⟨Tryz.func74, by kernel_rfl⟩
 ·injection h with h; subst h; exact ⟨Tryz.func75, by kernel_rfl⟩
 ·injection h with h; subst h; exact ⟨Tryz.func76, by kernel_rfl⟩
 ·injection h with h; subst h; exact ⟨Tryz.func77, by kernel_rfl⟩
 ·injection h with h; subst h; exact ⟨Tryz.func79, by kernel_rfl⟩
 ·injection h with h; subst h; exact ⟨Tryz.func80, by kernel_rfl⟩
 ·injection h with h; subst h; exact ⟨Tryz.func81, by kernel_rfl⟩
 ·injection h with h; subst h; exact ⟨Tryz.func83, by kernel_rfl⟩
 ·injection h with h; subst h; exact ⟨Tryz.func84, by kernel_rfl⟩
 ·injection h with h; subst h; exact ⟨Tryz.func85, by kernel_rfl⟩
 ·injection h with h; subst h; exact ⟨Tryz.func86, by kernel_rfl⟩
 ·injection h with h; subst h; exact ⟨Tryz.func87, by kernel_rfl⟩
 ·injection h with h; subst h; exact ⟨Tryz.func88, by kernel_rfl⟩
 ·injection h with h; subst h; exact ⟨Tryz.func89, by kernel_rfl⟩
 ·injection h with h; subst h; exact ⟨Tryz.func90, by kernel_rfl⟩
 ·injection h with h; subst h; exact ⟨Tryz.func91, by kernel_rfl⟩
 ·injection h with h; subst h; exact ⟨Tryz.func92, by kernel_rfl⟩
 ·injection h with h; subst h; exact ⟨Tryz.func93, by kernel_rfl⟩
 ·injection h with h; subst h; exact ⟨Tryz.func94, by kernel_rfl⟩
 ·injection h with h; subst h; exact ⟨Tryz.func95, by kernel_rfl⟩
 ·injection h with h; subst h; exact ⟨Tryz.func96, by kernel_rfl⟩
 ·injection h with h; subst h; exact ⟨Tryz.func97, by kernel_rfl⟩
 ·injection h with h; subst h; exact ⟨Tryz.func98, by kernel_rfl⟩
 ·injection h with h; subst h; exact ⟨Tryz.func103, by kernel_rfl⟩
 ·injection h with h; subst h; exact ⟨Tryz.func104, by kernel_rfl⟩
 ·injection h with h; subst h; exact ⟨Tryz.func105, by kernel_rfl⟩
 ·injection h with h; subst h; exact ⟨Tryz.func106, by kernel_rfl⟩
 ·injection h with h; subst h; exact ⟨Tryz.func107, by kernel_rfl⟩
 ·injection h with h; subst h; exact ⟨Tryz.func108, by kernel_rfl⟩
 ·injection h with h; subst h; exact ⟨Tryz.func109, by kernel_rfl⟩
 ·injection h with h; subst h; exact ⟨Tryz.func110, by kernel_rfl⟩
 ·injection h with h; subst h; exact ⟨Tryz.func111, by kernel_rfl⟩
 ·injection h with h; subst h; exact ⟨Tryz.func112, by kernel_rfl⟩
 ·injection h with h; subst h; exact ⟨Tryz.func113, by kernel_rfl⟩
 ·injection h with h; subst h; exact ⟨Tryz.func114, by kernel_rfl⟩
 ·injection h with h; subst h; exact ⟨Tryz.func115, by kernel_rfl⟩
 ·injection h with h; subst h; exact ⟨Tryz.func116, by kernel_rfl⟩
 ·injection h with h; subst h; exact ⟨Tryz.func117, by kernel_rfl⟩
 ·injection h with h; subst h; exact ⟨Tryz.func118, by kernel_rfl⟩
 ·injection h with h; subst h; exact ⟨Tryz.func119, by kernel_rfl⟩
 ·injection h with h; subst h; exact ⟨Tryz.func120, by kernel_rfl⟩
 ·injection h with h; subst h; exact ⟨Tryz.func121, by kernel_rfl⟩
 ·injection h with h; subst h; exact ⟨Tryz.func122, by kernel_rfl⟩
 ·injection h with h; subst h; exact ⟨Tryz.func123, by kernel_rfl⟩
 ·injection h with h; subst h; exact ⟨Tryz.func124, by kernel_rfl⟩
 ·injection h with h; subst h; exact ⟨Tryz.func125, by kernel_rfl⟩
 ·injection h with h; subst h; exact ⟨Tryz.func126, by kernel_rfl⟩
 ·injection h with h; subst h; exact ⟨Tryz.func127, by kernel_rfl⟩
 ·injection h with h; subst h; exact ⟨Tryz.func130, by kernel_rfl⟩
 ·injection h with h; subst h; exact ⟨Tryz.func131, by kernel_rfl⟩
 ·injection h with h; subst h; exact ⟨Tryz.func132, by kernel_rfl⟩
 ·injection h with h; subst h; exact ⟨Tryz.func135, by kernel_rfl⟩
 ·injection h with h; subst h; exact ⟨Tryz.func136, by kernel_rfl⟩
 ·injection h with h; subst h; exact ⟨Tryz.func137, by kernel_rfl⟩
 ·injection h with h; subst h; exact ⟨Tryz.func138, by kernel_rfl⟩
 ·injection h with h; subst h; exact ⟨Tryz.func139, by kernel_rfl⟩
 ·injection h with h; subst h; exact ⟨Tryz.func141, by kernel_rfl⟩
 ·injection h with h; subst h; exact ⟨Tryz.func143, by kernel_rfl⟩
 ·injection h with h; subst h; exact ⟨Tryz.func145, by kernel_rfl⟩
 ·injection h with h; subst h; exact ⟨Tryz.func147, by kernel_rfl⟩
 ·injection h with h; subst h; exact ⟨Tryz.func148, by kernel_rfl⟩
 ·injection h with h; subst h; exact ⟨Tryz.func149, by kernel_rfl⟩
 ·injection h with h; subst h; exact ⟨Tryz.func150, by kernel_rfl⟩
 ·injection h with h; subst h; exact ⟨Tryz.func151, by kernel_rfl⟩
 ·injection h with h; subst h; exact ⟨Tryz.func152, by kernel_rfl⟩
 ·injection h with h; subst h; exact ⟨Tryz.func153, by kernel_rfl⟩
 ·injection h with h; subst h; exact ⟨Tryz.func154, by kernel_rfl⟩
 ·injection h with h; subst h; exact ⟨Tryz.func155, by kernel_rfl⟩
 ·injection h with h; subst h; exact ⟨Tryz.func156, by kernel_rfl⟩
 ·injection h with h; subst h; exact ⟨Tryz.func160, by kernel_rfl⟩
 ·injection h with h; subst h; exact ⟨Tryz.func161, by kernel_rfl⟩
 ·injection h with h; subst h; exact ⟨Tryz.func163, by kernel_rfl⟩
 ·injection h with h; subst h; exact ⟨Tryz.func164, by kernel_rfl⟩
 ·injection h with h; subst h; exact ⟨Tryz.func170, by kernel_rfl⟩
 ·injection h with h; subst h; exact ⟨Tryz.func171, by kernel_rfl⟩
 ·injection h with h; subst h; exact ⟨Tryz.func172, by kernel_rfl⟩
 ·injection h with h; subst h; exact ⟨Tryz.func173, by kernel_rfl⟩
 ·injection h with h; subst h; exact ⟨Tryz.func174, by kernel_rfl⟩
 ·injection h with h; subst h; exact ⟨Tryz.func183, by kernel_rfl⟩
 ·injection h with h; subst h; exact ⟨Tryz.func190, by kernel_rfl⟩
 ·injection h with h; subst h; exact ⟨Tryz.func191, by kernel_rfl⟩
 ·injection h with h; subst h; exact ⟨Tryz.func195, by kernel_rfl⟩
 ·injection h with h; subst h; exact ⟨Tryz.func197, by kernel_rfl⟩
 ·cases h
theorem noop_ok : NoopOK Tryz.prog noop := by
 intro f hf
 have hu20 := Tryz.underlying20
 unfold noop at hf
 split at hf
 ·refine ⟨⟨Tryz.f36, Tryz.func36, by kernel_rfl, by kernel_rfl⟩, fun p q w => ?_⟩
  refine callsD_of_wpS Tryz.func36 rfl fun c₀ cs hu => ?_
  apply wpS_seq
  apply wpS_region
  simp [wpOpsS, go_sem, recoverD, hu, Tryz.ntmps36, Exit.thenS]
  apply wpS_seq
  apply wpS_region
  simp [wpOpsS, go_sem, Exit.thenS]
  refine wpS_cond (t := false) (by simp [Act.eval, Array.replicate]) ?_
  simp only [Bool.false_eq_true, if_false]
  refine wpS_of_wp (wp_skip ?_)
  cases c₀
  simp_all [bodyPostS, results, Tryz.results36, Exit.thenS]
 ·refine ⟨⟨Tryz.f119, Tryz.func119, by kernel_rfl, by kernel_rfl⟩, fun p q w => ?_⟩
  refine callsD_of_wpS Tryz.func119 rfl fun c₀ cs hu => ?_
  apply wpS_seq
  apply wpS_region
  simp [wpOpsS, go_sem, recoverD, hu, Tryz.ntmps119, Exit.thenS]
  apply wpS_seq
  apply wpS_region
  simp [wpOpsS, go_sem, Exit.thenS]
  refine wpS_cond (t := false) (by simp [Act.eval, Array.replicate]) ?_
  simp only [Bool.false_eq_true, if_false]
  refine wpS_of_wp (wp_skip ?_)
  cases c₀
  simp_all [bodyPostS, results, Tryz.results119, Exit.thenS]
 ·cases hf
noncomputable def isYes (x : Option Mem) : Bool :=
 match x with
 | some (.c (.c (.b true)), _, _) => true
 | _ => false
theorem awake_reckoned : isYes (evFn Tryz.prog tbl noop rk 100 40 7 [] 1 [] []) = true := by kernel_rfl
theorem awake_calls (w : World) : Calls Tryz.prog 7 #[] w fun e w' => e = .returned (.bool true) ∧ Below w.heap.size w w' := by
 have h := awake_reckoned
 unfold isYes at h
 split at h
 ·rename_i H d he
  have hc := evFn_sound (P := Tryz.prog) (by kernel_rfl) tbl_ok noop_ok rk 100 40 (fun _ => False) w
  have hR : RH (fun _ => False) w (fun _ => none) [] [] w :=
   ⟨fun n e h => by simp [Qd1] at h, fun n m e e' g z z' h => by simp [Qd1] at h, fun n x h => (by cases h), ⟨rfl, rfl, rfl, Nat.le_refl _, fun _ _ _ => rfl⟩⟩
  refine Calls.mono (hc 7 [] 1 [] [] _ _ _ _ [] w he hR trivial).2 fun e w' hh => ?_
  obtain ⟨ρ', V, _, rfl, hV, hR'⟩ := hh
  have hV : V = .bool true := hV
  subst hV
  exact ⟨rfl, hR'.out.os, hR'.out.tape, hR'.out.output, hR'.out.size, fun k hk => hR'.out.block k hk (fun h => h)⟩
 ·cases h
end Go.Proofs.YtchpkjgibloleaaGreat.V
namespace Go.Proofs.YtchpkjgibloleaaGreat.Z
set_option maxRecDepth 100000
set_option maxHeartbeats 8000000
open Go.RowKit Go.Proofs.YtchpkjgibloleaaGreatW.PrintWords Go.Proofs.YtchpkjgibloleaaGreatW.PrintLast Go.Proofs.YtchpkjgibloleaaGreatW.PrintMore
attribute [local go_sem] Qb2 Qb9
set_option linter.unusedVariables false
set_option linter.unusedSimpArgs false
def Qbh.f (k : Nat) : Option Bool := some true
theorem Qbh.calls (k : Nat) (r : Bool) (w : World) (h : Qbh.f k = some r) : Calls Tryz.prog 7 #[] w fun e w' => e = .returned (.bool r) ∧ Below w.heap.size w w' := by
 obtain rfl := Option.some.inj h
 exact V.awake_calls w
def Qac.j0 : Nat → Int → Int → Bool → Int → Int → List (S39) → Int → Int → Int → List (S57) → List (List (S47)) → Option (Bool)
 | 0, _, _, _, _, _, _, _, _, _, _, _ => none
 | k + 1, x1, x2, x36, x525000, x525001, x525002, x525003, x525004, x525005, x525006, x525007 => if x36 = true then ((Qbh.f k).bind fun t534 => (some t534)) else ((Qae.f k x525000 x525001 x525002 x525003 x525004 x525005 x525006 x525007).bind fun bt535 => (if x525001 = 0 then (none) else (if x525004 = 0 then (none) else (if bt535.2.2.1.length < 2513169434916 then ((some (bt535.2.2.1 ++ [(⟨([] : List (S41)), (⟨3, Int.tmod (wrap64 (x1)) x525001, 0, 0⟩ : S37)⟩ : S39)] : List (S39))).bind fun y550 => (if bt535.2.2.2.2.2.2.1.length < 2513169434916 then ((some (bt535.2.2.2.2.2.2.1 ++ [(⟨([] : List (S59)), (⟨3, Int.tmod (wrap64 (x2)) x525004, 0, 0⟩ : S37)⟩ : S57)] : List (S57))).bind fun y553 => (if bt535.2.2.2.2.2.2.2.length < 5864062014805 then ((some (bt535.2.2.2.2.2.2.2 ++ [(([(⟨Int.tmod (wrap64 (x1)) x525001, wrap64 (2 * (Int.tmod (wrap64 (x2)) x525004))⟩ : S47)] : List (S47)))] : List (List (S47)))).bind fun y559 => ((Qa8.f k bt535.1 bt535.2.1 y550 bt535.2.2.2.1 bt535.2.2.2.2.1 bt535.2.2.2.2.2.1 y553 y559).bind fun bt562 => (if 0 ≤ (x525007.length : Int) then (if (x525007.length : Int) < (y559.length : Int) then ((Qa8.f k bt535.1 bt535.2.1 y550 bt535.2.2.2.1 bt535.2.2.2.2.1 bt535.2.2.2.2.2.1 y553 (y559.set ((x525007.length : Int) : Int).toNat ([] : List (S47)))).bind fun bt571 => (if bt562.1 = 0 then (if bt562.2.2.2.1 = (wrap64 ((x525007.length : Int) + 1)) then (if bt571.1 = 21 then (some (bt571.2.1 == (x525007.length : Int))) else (none)) else (none)) else (none))) else (none)) else (none)))) else (none))) else (none))) else (none)))))
def Qac.f (k : Nat) (a0_0 : Int) (a0_1 : Int) (l0_2 : List (S39)) (a0_3 : Int) (a0_4 : Int) (a0_5 : Int) (l0_6 : List (S57)) (l0_7 : List (List (S47))) (a1 : Int) (a2 : Int) : Option (Bool) := (Qbh.f k).bind fun t525 => (if t525 = true then ((regcertref16_Few.f k a0_0 a0_1 l0_2 a0_3 a0_4 a0_5 l0_6 l0_7).bind fun t526 => (if t526 = true then (if a0_1 ≤ 0 then (Qac.j0 k a1 a2 true a0_0 a0_1 l0_2 a0_3 a0_4 a0_5 l0_6 l0_7) else (if a0_4 ≤ 0 then (Qac.j0 k a1 a2 true a0_0 a0_1 l0_2 a0_3 a0_4 a0_5 l0_6 l0_7) else ((Qa8.f k a0_0 a0_1 l0_2 a0_3 a0_4 a0_5 l0_6 l0_7).bind fun bt527 => (Qac.j0 k a1 a2 (bt527.1 != 0) a0_0 a0_1 l0_2 a0_3 a0_4 a0_5 l0_6 l0_7)))) else (Qac.j0 k a1 a2 true a0_0 a0_1 l0_2 a0_3 a0_4 a0_5 l0_6 l0_7))) else (Qac.j0 k a1 a2 true a0_0 a0_1 l0_2 a0_3 a0_4 a0_5 l0_6 l0_7))
end Go.Proofs.YtchpkjgibloleaaGreat.Z
namespace Go.Proofs.YtchpkjgibloleaaGreat.Z
set_option maxRecDepth 100000
set_option maxHeartbeats 8000000
open Go.RowKit Go.Proofs.YtchpkjgibloleaaGreatW.PrintWords Go.Proofs.YtchpkjgibloleaaGreatW.PrintLast Go.Proofs.YtchpkjgibloleaaGreatW.PrintMore
attribute [local go_sem] Qb2 Qb9
set_option linter.unusedVariables false
set_option linter.unusedSimpArgs false
attribute [local go_sem high] eqA47
theorem fld51_0 (v0 v1 v2 v3 v4 v5 v6 : Value) (w : World) : (Instr.field 51 (.agg #[v0, v1, v2, v3, v4, v5, v6]) 0).run Tryz.prog w = .ok v0 w := by kernel_rfl
attribute [local go_sem ↓ high] fld51_0
theorem Qac.calls (k : Nat) (a0_0 : Int) (a0_1 : Int) (A0_2 : Option Addr) (c0_2 : Nat) (l0_2 : List (S39)) (a0_3 : Int) (a0_4 : Int) (a0_5 : Int) (A0_6 : Option Addr) (c0_6 : Nat) (l0_6 : List (S57)) (A0_7 : Option Addr) (c0_7 : Nat) (l0_7 : List (List (S47))) (a1 : Int) (a2 : Int) (r : Bool) (w : World) (hr0_2 : Kd.C k39 w A0_2 l0_2.length l0_2) (hc0_2 : l0_2.length ≤ c0_2) (hr0_6 : Kd.C k57 w A0_6 l0_6.length l0_6) (hc0_6 : l0_6.length ≤ c0_6) (hr0_7 : Kd.C (Kd.slice 47 k47) w A0_7 l0_7.length l0_7) (hc0_7 : l0_7.length ≤ c0_7) (h : Qac.f k a0_0 a0_1 l0_2 a0_3 a0_4 a0_5 l0_6 l0_7 a1 a2 = some r) :
  Calls Tryz.prog 6 #[.agg #[.int .i64 a0_0, .int .i64 a0_1, .slice A0_2 l0_2.length c0_2, .int .i64 a0_3, .int .i64 a0_4, .int .i64 a0_5, .slice A0_6 l0_6.length c0_6, .slice A0_7 l0_7.length c0_7], .int .u8 a1, .int .u8 a2] w fun e w' => e = .returned (.bool r) ∧ Below w.heap.size w w' := by
 have hu30 := Tryz.underlying30
 have hu37 := Tryz.underlying37
 have hu39 := Tryz.underlying39
 have hu57 := Tryz.underlying57
 have hu47 := Tryz.underlying47
 have hu49 := Tryz.underlying49
 have hu51 := Tryz.underlying51
 have HR0_2 := As0 hr0_2
 have HC0_2 := As0 hc0_2
 clear hr0_2 hc0_2
 have HR0_6 := As0 hr0_6
 have HC0_6 := As0 hc0_6
 clear hr0_6 hc0_6
 have HR0_7 := As0 hr0_7
 have HC0_7 := As0 hc0_7
 clear hr0_7 hc0_7
 have HB := As0 (Below.refl w.heap.size w)
 have H : ((Qbh.f k).bind fun t525 => (if t525 = true then ((regcertref16_Few.f k a0_0 a0_1 l0_2 a0_3 a0_4 a0_5 l0_6 l0_7).bind fun t526 => (if t526 = true then (if a0_1 ≤ 0 then (Qac.j0 k a1 a2 true a0_0 a0_1 l0_2 a0_3 a0_4 a0_5 l0_6 l0_7) else (if a0_4 ≤ 0 then (Qac.j0 k a1 a2 true a0_0 a0_1 l0_2 a0_3 a0_4 a0_5 l0_6 l0_7) else ((Qa8.f k a0_0 a0_1 l0_2 a0_3 a0_4 a0_5 l0_6 l0_7).bind fun bt527 => (Qac.j0 k a1 a2 (bt527.1 != 0) a0_0 a0_1 l0_2 a0_3 a0_4 a0_5 l0_6 l0_7)))) else (Qac.j0 k a1 a2 true a0_0 a0_1 l0_2 a0_3 a0_4 a0_5 l0_6 l0_7))) else (Qac.j0 k a1 a2 true a0_0 a0_1 l0_2 a0_3 a0_4 a0_5 l0_6 l0_7))) = some r := h
 clear h
 have HC4 := As0 H
 clear H
 go_enter Tryz.func6, Tryz.ntmps6
 go_upto_region 1 with (first | ((with_reducible refine Qbn (N := 3) rfl ?_); (try (refine Qb7 (by rfl) ?_; dsimp only)); refine bX (N := 3) (cs := #[.int .i64 a0_0, .int .i64 a0_1, .slice A0_2 l0_2.length c0_2, .int .i64 a0_3, .int .i64 a0_4, .int .i64 a0_5, .slice A0_6 l0_6.length c0_6, .slice A0_7 l0_7.length c0_7]) (t := 30) ?_; intro gb524 hg w5 hbox hb; have BK524 := As0 (hbox); have GW524 := gW hg HB.out; have GE524 := GW524; replace HB := As0 (Qbj (BU HB.out) hb); clear hb hbox hg))
 (try simp only [Act.put, sL1, sL2, sL3])
 go_cut [36] (fun v36 wc => ∃ (kq : Nat) (x36_3 : Bool), v36 = .bool x36_3 ∧ Qbm (Qac.j0 kq a1 a2 x36_3 a0_0 a0_1 l0_2 a0_3 a0_4 a0_5 l0_6 l0_7 = some r) ∧ Qbm (kq ≤ k) ∧ Qbm (wc.heap[gb524]? = some (.cells #[.int .i64 a0_0, .int .i64 a0_1, (.slice A0_2 l0_2.length c0_2), .int .i64 a0_3, .int .i64 a0_4, .int .i64 a0_5, (.slice A0_6 l0_6.length c0_6), (.slice A0_7 l0_7.length c0_7)] 30 (0, 0))) ∧ Qbm (Below w.heap.size w wc))
 case first =>
  have H := HC4.out
  clear HC4
  replace H := Option.bind_eq_some_iff.mp H
  obtain ⟨t525, A60, H⟩ := H
  have A6 := As0 A60
  clear A60
  by_cases c7 : t525 = true
  rotate_left
  ·replace c7 := Bool.eq_false_iff.mpr c7
   subst c7
   rw [if_neg bF] at H
   have H' := As0 H
   clear H
   go_wp2_with (first | ((with_reducible refine Qbq (f := 7) rfl ?_); refine gL (some 12) Tryz.func7 #[] ?_; (with_reducible refine (Qbh.calls k  false _ A6.out).mono ?_); rintro e w29 ⟨rfl, hb⟩; refine ⟨_, rfl, ?_⟩; replace BK524 := kB BK524 hb; replace HB := As0 (Qbj (BU HB.out) hb); (try clear hb)))
   go_meet
   case rel => exact ⟨_, (true), eR, H', ⟨by first | omega | exact Nat.le_refl _⟩, ⟨bU BK524.out⟩, ⟨BU HB.out⟩⟩
  subst c7
  rw [if_pos rfl] at H
  replace H := Option.bind_eq_some_iff.mp H
  obtain ⟨t526, A80, H⟩ := H
  have A8 := As0 A80
  clear A80
  by_cases c9 : t526 = true
  rotate_left
  ·replace c9 := Bool.eq_false_iff.mpr c9
   subst c9
   rw [if_neg bF] at H
   have H' := As0 H
   clear H
   go_wp2_with (first | ((with_reducible refine Qbq (f := 7) rfl ?_); refine gL (some 12) Tryz.func7 #[] ?_; (with_reducible refine (Qbh.calls k  true _ A6.out).mono ?_); rintro e w26 ⟨rfl, hb⟩; refine ⟨_, rfl, ?_⟩; replace BK524 := kB BK524 hb; replace HB := As0 (Qbj (BU HB.out) hb); (try clear hb); obtain ⟨z27_0, z27_1, z27_2, z27_3, z27_4, z27_5, z27_6, z27_7, y_27_0, y_27_1, y_27_2, y_27_3, y_27_4, y_27_5, y_27_6, y_27_7⟩ := cN8 BK524.out) | (go_at_call 8; (with_reducible refine (regcertref16_Few.calls k a0_0 a0_1 _ _ l0_2 a0_3 a0_4 a0_5 _ _ l0_6 _ _ l0_7 false _ ?side1 ?side2 ?side3 ?side4 ?side5 ?side6 A8.out).mono ?_); (case side1 => exact CU (Kd.C_below HR0_2.out HB.out)); (case side2 => exact HC0_2.out); (case side3 => exact CU (Kd.C_below HR0_6.out HB.out)); (case side4 => exact HC0_6.out); (case side5 => exact CU (Kd.C_below HR0_7.out HB.out)); (case side6 => exact HC0_7.out); rintro e w28 ⟨rfl, hb⟩; replace BK524 := kB BK524 hb; replace HB := As0 (Qbj (BU HB.out) hb); (try clear hb)))
   go_meet
   case rel => exact ⟨_, (true), eR, H', ⟨by first | omega | exact Nat.le_refl _⟩, ⟨bU BK524.out⟩, ⟨BU HB.out⟩⟩
  subst c9
  rw [if_pos rfl] at H
  by_cases c10 : a0_1 ≤ 0
  ·rw [if_pos c10] at H
   have c10b0 := decide_eq_true c10
   clear c10
   (first | rw [c10b0] | (simp only [Qbw, Qbx]; rw [c10b0]) | skip)
   have H' := As0 H
   clear H
   go_wp2_with (first | ((with_reducible refine Qbq (f := 7) rfl ?_); refine gL (some 12) Tryz.func7 #[] ?_; (with_reducible refine (Qbh.calls k  true _ A6.out).mono ?_); rintro e w11 ⟨rfl, hb⟩; refine ⟨_, rfl, ?_⟩; replace BK524 := kB BK524 hb; replace HB := As0 (Qbj (BU HB.out) hb); (try clear hb); obtain ⟨z12_0, z12_1, z12_2, z12_3, z12_4, z12_5, z12_6, z12_7, y_12_0, y_12_1, y_12_2, y_12_3, y_12_4, y_12_5, y_12_6, y_12_7⟩ := cN8 BK524.out) | (go_at_call 8; (with_reducible refine (regcertref16_Few.calls k a0_0 a0_1 _ _ l0_2 a0_3 a0_4 a0_5 _ _ l0_6 _ _ l0_7 true _ ?side1 ?side2 ?side3 ?side4 ?side5 ?side6 A8.out).mono ?_); (case side1 => exact CU (Kd.C_below HR0_2.out HB.out)); (case side2 => exact HC0_2.out); (case side3 => exact CU (Kd.C_below HR0_6.out HB.out)); (case side4 => exact HC0_6.out); (case side5 => exact CU (Kd.C_below HR0_7.out HB.out)); (case side6 => exact HC0_7.out); rintro e w13 ⟨rfl, hb⟩; replace BK524 := kB BK524 hb; replace HB := As0 (Qbj (BU HB.out) hb); (try clear hb); obtain ⟨z14_0, z14_1, z14_2, z14_3, z14_4, z14_5, z14_6, z14_7, y_14_0, y_14_1, y_14_2, y_14_3, y_14_4, y_14_5, y_14_6, y_14_7⟩ := cN8 BK524.out))
   go_meet
   case rel => exact ⟨_, (true), eR, H', ⟨by first | omega | exact Nat.le_refl _⟩, ⟨bU BK524.out⟩, ⟨BU HB.out⟩⟩
  rw [if_neg c10] at H
  have c10b0 := decide_eq_false c10
  clear c10
  (first | rw [c10b0] | (simp only [Qbw, Qbx]; rw [c10b0]) | skip)
  by_cases c15 : a0_4 ≤ 0
  ·rw [if_pos c15] at H
   have c15b0 := decide_eq_true c15
   clear c15
   have H' := As0 H
   clear H
   go_wp2_with (first | ((with_reducible refine Qbq (f := 7) rfl ?_); refine gL (some 12) Tryz.func7 #[] ?_; (with_reducible refine (Qbh.calls k  true _ A6.out).mono ?_); rintro e w16 ⟨rfl, hb⟩; refine ⟨_, rfl, ?_⟩; replace BK524 := kB BK524 hb; replace HB := As0 (Qbj (BU HB.out) hb); (try clear hb); obtain ⟨z17_0, z17_1, z17_2, z17_3, z17_4, z17_5, z17_6, z17_7, y_17_0, y_17_1, y_17_2, y_17_3, y_17_4, y_17_5, y_17_6, y_17_7⟩ := cN8 BK524.out) | (go_at_call 8; (with_reducible refine (regcertref16_Few.calls k a0_0 a0_1 _ _ l0_2 a0_3 a0_4 a0_5 _ _ l0_6 _ _ l0_7 true _ ?side1 ?side2 ?side3 ?side4 ?side5 ?side6 A8.out).mono ?_); (case side1 => exact CU (Kd.C_below HR0_2.out HB.out)); (case side2 => exact HC0_2.out); (case side3 => exact CU (Kd.C_below HR0_6.out HB.out)); (case side4 => exact HC0_6.out); (case side5 => exact CU (Kd.C_below HR0_7.out HB.out)); (case side6 => exact HC0_7.out); rintro e w18 ⟨rfl, hb⟩; replace BK524 := kB BK524 hb; replace HB := As0 (Qbj (BU HB.out) hb); (try clear hb); obtain ⟨z19_0, z19_1, z19_2, z19_3, z19_4, z19_5, z19_6, z19_7, y_19_0, y_19_1, y_19_2, y_19_3, y_19_4, y_19_5, y_19_6, y_19_7⟩ := cN8 BK524.out))
   go_meet
   case rel => exact ⟨_, (true), eR, H', ⟨by first | omega | exact Nat.le_refl _⟩, ⟨bU BK524.out⟩, ⟨BU HB.out⟩⟩
  rw [if_neg c15] at H
  have c15b0 := decide_eq_false c15
  clear c15
  replace H := Option.bind_eq_some_iff.mp H
  obtain ⟨⟨t527, t528, t529, t530, t531, t532, t533⟩, A200, H⟩ := H
  have A20 := As0 A200
  clear A200
  have H' := As0 H
  clear H
  go_wp2_with (first | ((with_reducible refine Qbq (f := 7) rfl ?_); refine gL (some 12) Tryz.func7 #[] ?_; (with_reducible refine (Qbh.calls k  true _ A6.out).mono ?_); rintro e w21 ⟨rfl, hb⟩; refine ⟨_, rfl, ?_⟩; replace BK524 := kB BK524 hb; replace HB := As0 (Qbj (BU HB.out) hb); (try clear hb); obtain ⟨z22_0, z22_1, z22_2, z22_3, z22_4, z22_5, z22_6, z22_7, y_22_0, y_22_1, y_22_2, y_22_3, y_22_4, y_22_5, y_22_6, y_22_7⟩ := cN8 BK524.out) | (go_at_call 8; (with_reducible refine (regcertref16_Few.calls k a0_0 a0_1 _ _ l0_2 a0_3 a0_4 a0_5 _ _ l0_6 _ _ l0_7 true _ ?side1 ?side2 ?side3 ?side4 ?side5 ?side6 A8.out).mono ?_); (case side1 => exact CU (Kd.C_below HR0_2.out HB.out)); (case side2 => exact HC0_2.out); (case side3 => exact CU (Kd.C_below HR0_6.out HB.out)); (case side4 => exact HC0_6.out); (case side5 => exact CU (Kd.C_below HR0_7.out HB.out)); (case side6 => exact HC0_7.out); rintro e w23 ⟨rfl, hb⟩; replace BK524 := kB BK524 hb; replace HB := As0 (Qbj (BU HB.out) hb); (try clear hb); obtain ⟨z24_0, z24_1, z24_2, z24_3, z24_4, z24_5, z24_6, z24_7, y_24_0, y_24_1, y_24_2, y_24_3, y_24_4, y_24_5, y_24_6, y_24_7⟩ := cN8 BK524.out) | (go_at_call 14; (with_reducible refine (Qa8.calls k a0_0 a0_1 _ _ l0_2 a0_3 a0_4 a0_5 _ _ l0_6 _ _ l0_7 t527 t528 t529 t530 t531 t532 t533 _ ?side1 ?side2 ?side3 ?side4 ?side5 ?side6 A20.out).mono ?_); (case side1 => exact CU (Kd.C_below HR0_2.out HB.out)); (case side2 => exact HC0_2.out); (case side3 => exact CU (Kd.C_below HR0_6.out HB.out)); (case side4 => exact HC0_6.out); (case side5 => exact CU (Kd.C_below HR0_7.out HB.out)); (case side6 => exact HC0_7.out); rintro e w25 ⟨rfl, hb⟩; replace BK524 := kB BK524 hb; replace HB := As0 (Qbj (BU HB.out) hb); (try clear hb)))
  go_meet
  case rel => exact ⟨_, ((t527 != 0)), eR, H', ⟨by first | omega | exact Nat.le_refl _⟩, ⟨bU BK524.out⟩, ⟨BU HB.out⟩⟩
 case rest =>
  clear HC4
  obtain ⟨kq, x36_3, rfl, HA, HJ3, BK524, HB⟩ := hcut
  cases kq with
  | zero => exact absurd HA.out (by simp [Qac.j0])
  | succ kj3 =>
   have H := HA.out
   clear HA
   simp only [Qac.j0] at H
   by_cases c30 : x36_3 = true
   ·subst c30
    rw [if_pos rfl] at H
    replace H := Option.bind_eq_some_iff.mp H
    obtain ⟨t534, A310, H⟩ := H
    have A31 := As0 A310
    clear A310
    obtain rfl := Option.some.inj H
    go_wp2_with (first | ((with_reducible refine Qbq (f := 7) rfl ?_); refine gL (some 37) Tryz.func7 #[] ?_; (with_reducible refine (Qbh.calls kj3  t534 _ A31.out).mono ?_); rintro e w32 ⟨rfl, hb⟩; refine ⟨_, rfl, ?_⟩; replace BK524 := kB BK524 hb; replace HB := As0 (Qbj (BU HB.out) hb); (try clear hb)))
    go_ret
    exact ⟨oR, BU HB.out⟩
   replace c30 := Bool.eq_false_iff.mpr c30
   subst c30
   rw [if_neg bF] at H
   replace H := Option.bind_eq_some_iff.mp H
   obtain ⟨⟨t535, t536, t537, t540, t541, t542, t543, t546⟩, A330, H⟩ := H
   have A33 := As0 A330
   clear A330
   by_cases c34 : a0_1 = 0
   ·rw [if_pos c34] at H
    exact absurd H (by simp)
   rw [if_neg c34] at H
   have c34b0 : (a0_1 == 0) = false := beq_eq_false_iff_ne.mpr c34
   have c34b1 : (a0_1 != 0) = true := bne_iff_ne.mpr c34
   by_cases c35 : a0_4 = 0
   ·rw [if_pos c35] at H
    exact absurd H (by simp)
   rw [if_neg c35] at H
   have c35b0 : (a0_4 == 0) = false := beq_eq_false_iff_ne.mpr c35
   have c35b1 : (a0_4 != 0) = true := bne_iff_ne.mpr c35
   by_cases c36 : t537.length < 2513169434916
   rotate_left
   ·rw [if_neg c36] at H
    exact absurd H (by simp)
   rw [if_pos c36] at H
   have LMc36 := As0 c36
   clear c36
   obtain ⟨y550, hy550⟩ : ∃ y_ : List (S39), y_ = (t537 ++ [(⟨([] : List (S41)), (⟨3, Int.tmod (wrap64 (a1)) a0_1, 0, 0⟩ : S37)⟩ : S39)]) := ⟨_, rfl⟩
   replace H : (if t543.length < 2513169434916 then ((some (t543 ++ [(⟨([] : List (S59)), (⟨3, Int.tmod (wrap64 (a2)) a0_4, 0, 0⟩ : S37)⟩ : S57)] : List (S57))).bind fun y553 => (if t546.length < 5864062014805 then ((some (t546 ++ [(([(⟨Int.tmod (wrap64 (a1)) a0_1, wrap64 (2 * (Int.tmod (wrap64 (a2)) a0_4))⟩ : S47)] : List (S47)))] : List (List (S47)))).bind fun y559 => ((Qa8.f kj3 t535 t536 y550 t540 t541 t542 y553 y559).bind fun bt562 => (if 0 ≤ (l0_7.length : Int) then (if (l0_7.length : Int) < (y559.length : Int) then ((Qa8.f kj3 t535 t536 y550 t540 t541 t542 y553 (y559.set ((l0_7.length : Int) : Int).toNat ([] : List (S47)))).bind fun bt571 => (if bt562.1 = 0 then (if bt562.2.2.2.1 = (wrap64 ((l0_7.length : Int) + 1)) then (if bt571.1 = 21 then (some (bt571.2.1 == (l0_7.length : Int))) else (none)) else (none)) else (none))) else (none)) else (none)))) else (none))) else (none)) = some r := by first | (rw [hy550]; with_reducible exact H) | (have H2_ := (Option.bind_some _ _).symm.trans H; rw [hy550]; with_reducible exact H2_) | (have H2_ := (Option.bind_some _ _).symm.trans H; with_reducible exact H2_) | with_reducible exact H | (rw [hy550]; exact H) | exact H
   have Ny550 := As0 hy550
   clear hy550
   by_cases c37 : t543.length < 2513169434916
   rotate_left
   ·rw [if_neg c37] at H
    exact absurd H (by simp)
   rw [if_pos c37] at H
   have LMc37 := As0 c37
   clear c37
   obtain ⟨y553, hy553⟩ : ∃ y_ : List (S57), y_ = (t543 ++ [(⟨([] : List (S59)), (⟨3, Int.tmod (wrap64 (a2)) a0_4, 0, 0⟩ : S37)⟩ : S57)]) := ⟨_, rfl⟩
   replace H : (if t546.length < 5864062014805 then ((some (t546 ++ [(([(⟨Int.tmod (wrap64 (a1)) a0_1, wrap64 (2 * (Int.tmod (wrap64 (a2)) a0_4))⟩ : S47)] : List (S47)))] : List (List (S47)))).bind fun y559 => ((Qa8.f kj3 t535 t536 y550 t540 t541 t542 y553 y559).bind fun bt562 => (if 0 ≤ (l0_7.length : Int) then (if (l0_7.length : Int) < (y559.length : Int) then ((Qa8.f kj3 t535 t536 y550 t540 t541 t542 y553 (y559.set ((l0_7.length : Int) : Int).toNat ([] : List (S47)))).bind fun bt571 => (if bt562.1 = 0 then (if bt562.2.2.2.1 = (wrap64 ((l0_7.length : Int) + 1)) then (if bt571.1 = 21 then (some (bt571.2.1 == (l0_7.length : Int))) else (none)) else (none)) else (none))) else (none)) else (none)))) else (none)) = some r := by first | (rw [hy553]; with_reducible exact H) | (have H2_ := (Option.bind_some _ _).symm.trans H; rw [hy553]; with_reducible exact H2_) | (have H2_ := (Option.bind_some _ _).symm.trans H; with_reducible exact H2_) | with_reducible exact H | (rw [hy553]; exact H) | exact H
   have Ny553 := As0 hy553
   clear hy553
   obtain ⟨y556, hy556⟩ : ∃ y_ : List (S47), y_ = (([(⟨Int.tmod (wrap64 (a1)) a0_1, wrap64 (2 * (Int.tmod (wrap64 (a2)) a0_4))⟩ : S47)] : List (S47))) := ⟨_, rfl⟩
   replace H : (if t546.length < 5864062014805 then ((some (t546 ++ [y556] : List (List (S47)))).bind fun y559 => ((Qa8.f kj3 t535 t536 y550 t540 t541 t542 y553 y559).bind fun bt562 => (if 0 ≤ (l0_7.length : Int) then (if (l0_7.length : Int) < (y559.length : Int) then ((Qa8.f kj3 t535 t536 y550 t540 t541 t542 y553 (y559.set ((l0_7.length : Int) : Int).toNat ([] : List (S47)))).bind fun bt571 => (if bt562.1 = 0 then (if bt562.2.2.2.1 = (wrap64 ((l0_7.length : Int) + 1)) then (if bt571.1 = 21 then (some (bt571.2.1 == (l0_7.length : Int))) else (none)) else (none)) else (none))) else (none)) else (none)))) else (none)) = some r := by first | (rw [hy556]; with_reducible exact H) | (have H2_ := (Option.bind_some _ _).symm.trans H; rw [hy556]; with_reducible exact H2_) | (have H2_ := (Option.bind_some _ _).symm.trans H; with_reducible exact H2_) | with_reducible exact H | (rw [hy556]; exact H) | exact H
   have Ny556 := As0 hy556
   clear hy556
   by_cases c38 : t546.length < 5864062014805
   rotate_left
   ·rw [if_neg c38] at H
    exact absurd H (by simp)
   rw [if_pos c38] at H
   have LMc38 := As0 c38
   clear c38
   obtain ⟨y559, hy559⟩ : ∃ y_ : List (List (S47)), y_ = (t546 ++ [y556]) := ⟨_, rfl⟩
   replace H : ((Qa8.f kj3 t535 t536 y550 t540 t541 t542 y553 y559).bind fun bt562 => (if 0 ≤ (l0_7.length : Int) then (if (l0_7.length : Int) < (y559.length : Int) then ((Qa8.f kj3 t535 t536 y550 t540 t541 t542 y553 (y559.set ((l0_7.length : Int) : Int).toNat ([] : List (S47)))).bind fun bt571 => (if bt562.1 = 0 then (if bt562.2.2.2.1 = (wrap64 ((l0_7.length : Int) + 1)) then (if bt571.1 = 21 then (some (bt571.2.1 == (l0_7.length : Int))) else (none)) else (none)) else (none))) else (none)) else (none))) = some r := by first | (rw [hy559]; with_reducible exact H) | (have H2_ := (Option.bind_some _ _).symm.trans H; rw [hy559]; with_reducible exact H2_) | (have H2_ := (Option.bind_some _ _).symm.trans H; with_reducible exact H2_) | with_reducible exact H | (rw [hy559]; exact H) | exact H
   have Ny559 := As0 hy559
   clear hy559
   replace H := Option.bind_eq_some_iff.mp H
   obtain ⟨⟨t562, t563, t564, t565, t566, t567, t568⟩, A390, H⟩ := H
   have A39 := As0 A390
   clear A390
   by_cases c40 : 0 ≤ (l0_7.length : Int)
   rotate_left
   ·rw [if_neg c40] at H
    exact absurd H (by simp)
   rw [if_pos c40] at H
   have c40b0 := decide_eq_true c40
   have c40b1 : decide (0 ≤ l0_7.length) = true := decide_eq_true (by omega)
   clear c40
   by_cases c41 : (l0_7.length : Int) < (y559.length : Int)
   rotate_left
   ·rw [if_neg c41] at H
    exact absurd H (by simp)
   rw [if_pos c41] at H
   have c41b0 := decide_eq_true c41
   have c41b1 : decide (l0_7.length < y559.length) = true := decide_eq_true (Int.ofNat_lt.mp c41)
   clear c41
   obtain ⟨y570, hy570⟩ : ∃ y_ : List (List (S47)), y_ = (y559.set ((l0_7.length : Int) : Int).toNat ([] : List (S47))) := ⟨_, rfl⟩
   replace H : ((Qa8.f kj3 t535 t536 y550 t540 t541 t542 y553 y570).bind fun bt571 => (if t562 = 0 then (if t565 = (wrap64 ((l0_7.length : Int) + 1)) then (if bt571.1 = 21 then (some (bt571.2.1 == (l0_7.length : Int))) else (none)) else (none)) else (none))) = some r := by first | (rw [hy570]; with_reducible exact H) | (have H2_ := (Option.bind_some _ _).symm.trans H; rw [hy570]; with_reducible exact H2_) | (have H2_ := (Option.bind_some _ _).symm.trans H; with_reducible exact H2_) | with_reducible exact H | (rw [hy570]; exact H) | exact H
   have Ny570 := As0 hy570
   clear hy570
   replace H := Option.bind_eq_some_iff.mp H
   obtain ⟨⟨t571, t572, t573, t574, t575, t576, t577⟩, A430, H⟩ := H
   have A43 := As0 A430
   clear A430
   by_cases c44 : t562 = 0
   rotate_left
   ·rw [if_neg c44] at H
    exact absurd H (by simp)
   rw [if_pos c44] at H
   have c44b0 : (t562 == 0) = true := beq_iff_eq.mpr c44
   have c44b1 : (t562 != 0) = false := bne_eq_false_iff_eq.mpr c44
   clear c44
   by_cases c45 : t565 = (wrap64 ((l0_7.length : Int) + 1))
   rotate_left
   ·rw [if_neg c45] at H
    exact absurd H (by simp)
   rw [if_pos c45] at H
   have c45b0 : (t565 == (wrap64 ((l0_7.length : Int) + 1))) = true := beq_iff_eq.mpr c45
   have c45b1 : (t565 != (wrap64 ((l0_7.length : Int) + 1))) = false := bne_eq_false_iff_eq.mpr c45
   clear c45
   by_cases c46 : t571 = 21
   rotate_left
   ·rw [if_neg c46] at H
    exact absurd H (by simp)
   rw [if_pos c46] at H
   have c46b0 : (t571 == 21) = true := beq_iff_eq.mpr c46
   have c46b1 : (t571 != 21) = false := bne_eq_false_iff_eq.mpr c46
   clear c46
   obtain rfl := Option.some.inj H
   obtain ⟨z47_0, z47_1, z47_2, z47_3, z47_4, z47_5, z47_6, z47_7, y_47_0, y_47_1, y_47_2, y_47_3, y_47_4, y_47_5, y_47_6, y_47_7⟩ := cN8 BK524.out
   go_upto_region 4 with (first | ((with_reducible refine Qbq (f := 10) rfl ?_); refine gL (some 39) Tryz.func10 #[.agg #[.int .i64 a0_0, .int .i64 a0_1, .slice A0_2 l0_2.length c0_2, .int .i64 a0_3, .int .i64 a0_4, .int .i64 a0_5, .slice A0_6 l0_6.length c0_6, .slice A0_7 l0_7.length c0_7]] ?_; (with_reducible refine (Qae.calls kj3 a0_0 a0_1 _ _ l0_2 a0_3 a0_4 a0_5 _ _ l0_6 _ _ l0_7 t535 t536 t537 t540 t541 t542 t543 t546 _ ?side1 ?side2 ?side3 ?side4 ?side5 ?side6 A33.out).mono ?_); (case side1 => exact CU (Kd.C_below HR0_2.out HB.out)); (case side2 => exact HC0_2.out); (case side3 => exact CU (Kd.C_below HR0_6.out HB.out)); (case side4 => exact HC0_6.out); (case side5 => exact CU (Kd.C_below HR0_7.out HB.out)); (case side6 => exact HC0_7.out); rintro e w48 ⟨v538, v544, v547, rfl, ho0, ho1, ho2, hb⟩; refine ⟨_, rfl, ?_⟩; have HO539 := As0 (Kd.S_lower ho0 (Qbp (BU HB.out))); have HO545 := As0 (Kd.S_lower ho1 (Qbp (BU HB.out))); have HO548 := As0 (Kd.S_lower ho2 (Qbp (BU HB.out))); replace BK524 := kB BK524 hb; replace HB := As0 (Qbj (BU HB.out) hb); (try clear hb); (try clear ho0); (try clear ho1); (try clear ho2)) | ((with_reducible refine Qbn (N := 7) rfl ?_); (try (refine Qb7 (by rfl) ?_; dsimp only)); refine bX (N := 7) (cs := #[.int .i64 0, .int .i64 0, .slice none 0 0, .int .i64 0, .int .i64 0, .int .i64 0, .slice none 0 0, .slice none 0 0]) (t := 30) ?_; intro gb549 hg w49 hbox hb; replace HO539 := As0 (Kd.S_below (SU HO539.out) hb); replace HO545 := As0 (Kd.S_below (SU HO545.out) hb); replace HO548 := As0 (Kd.S_below (SU HO548.out) hb); have BK549 := As0 (hbox); have GW549 := gW hg HB.out; have GE549 := GW549; replace HB := As0 (Qbj (BU HB.out) hb); have NB524_549 := nL hg BK524; have NB549_524 := nR hg BK524; replace BK524 := kB BK524 hb; clear hb hbox hg; have hnb50 := NB549_524.out; have hnc50 := NB524_549.out; obtain ⟨z51_0, z51_1, z51_2, z51_3, z51_4, z51_5, z51_6, z51_7, y_51_0, y_51_1, y_51_2, y_51_3, y_51_4, y_51_5, y_51_6, y_51_7⟩ := cN8 BK549.out; obtain ⟨Ao52, co52, eo52⟩ := Kd.S_slice HO539.out; subst eo52; obtain ⟨Ao53, co53, eo53⟩ := Kd.S_slice HO545.out; subst eo53; obtain ⟨Ao54, co54, eo54⟩ := Kd.S_slice HO548.out; subst eo54; obtain ⟨z55_0, z55_1, z55_2, z55_3, z55_4, z55_5, z55_6, z55_7, y_55_0, y_55_1, y_55_2, y_55_3, y_55_4, y_55_5, y_55_6, y_55_7⟩ := cN8 BK524.out))
   go_upto_region 6 with fail
   go_upto_region 7 with (first | ((with_reducible refine Qca (b := .append) (xs := #[.tmp 54, .tmp 58]) rfl ?_); (try (refine Qb7 (by rfl) ?_; dsimp only)); at_builtin; refine Kd.S_append k39 (w0 := w) w.heap.size rfl (.tmp 54) (.tmp 58) 22 39 (.agg #[(.slice none 0 0), (.int .i64 0), (.int .i64 0), (.int .i64 0), (.int .i64 0)]) 56 rfl Tryz.underlying22 info39 rfl (by decide) (by omega) (.slice Ao52 t537.length co52) t537 (⟨([] : List (S41)), (⟨3, Int.tmod (wrap64 (a1)) a0_1, 0, 0⟩ : S37)⟩ : S39) [.slice none 0 0, .int .i64 3, .int .i64 (Int.tmod (wrap64 (a1)) a0_1), .int .i64 0, .int .i64 0] (fun _ => True) (fun _ => False) rfl (by first | (go_simp; done) | (go_simp; rfl)) ?aP (fun k_ hk_ => hk_.elim) ?aF ?aO ?aB ?aS ?aL ?_; (case aP => exact k39_mkM _ _ _ (⟨([] : List (S41)), (⟨3, Int.tmod (wrap64 (a1)) a0_1, 0, 0⟩ : S37)⟩ : S39) (Kd.R_nil _ _ _ _ _)); (case aB => exact (BU HB.out)); (case aF => exact (fun _ _ => trivial)); (case aO => exact (SU (Kd.S_mono (Kd.S_far (p := ⟨gb549, 7, none⟩) (Kd.S_far (p := ⟨gb549, 6, none⟩) (Kd.S_far (p := ⟨gb549, 5, none⟩) (Kd.S_far (p := ⟨gb549, 4, none⟩) (Kd.S_far (p := ⟨gb549, 3, none⟩) (Kd.S_far (p := ⟨gb549, 2, none⟩) (Kd.S_far (p := ⟨gb549, 1, none⟩) (Kd.S_far (p := ⟨gb549, 0, none⟩) (Kd.S_types HO539.out BK549.out (by decide)) (fun _ hk => hk.2) (.int .i64 t535)) (fun _ hk => hk.2) (.int .i64 t536)) (fun _ hk => hk.2) (.slice Ao52 t537.length co52)) (fun _ hk => hk.2) (.int .i64 t540)) (fun _ hk => hk.2) (.int .i64 t541)) (fun _ hk => hk.2) (.int .i64 t542)) (fun _ hk => hk.2) (.slice Ao53 t543.length co53)) (fun _ hk => hk.2) (.slice Ao54 t546.length co54)) (fun k_ hk => ⟨trivial, fun e_ => e_⟩)))); (case aS => exact (Qbp (BU HB.out))); (case aL => have := LMc36.out; omega); intro v551 w56 ho hb hg hat; rw [← Ny550.out] at ho; replace BK524 := As0 (Qby (g := gb524) (o := .cells #[.int .i64 a0_0, .int .i64 a0_1, .slice A0_2 l0_2.length c0_2, .int .i64 a0_3, .int .i64 a0_4, .int .i64 a0_5, .slice A0_6 l0_6.length c0_6, .slice A0_7 l0_7.length c0_7] 30 (0, 0)) (kV BK524) hg (Kd.S_ne HO539.out BK524.out (by decide))); replace HO545 := As0 (Kd.S_over' (SU ((Kd.S_mono (Kd.S_far (p := ⟨gb549, 7, none⟩) (Kd.S_far (p := ⟨gb549, 6, none⟩) (Kd.S_far (p := ⟨gb549, 5, none⟩) (Kd.S_far (p := ⟨gb549, 4, none⟩) (Kd.S_far (p := ⟨gb549, 3, none⟩) (Kd.S_far (p := ⟨gb549, 2, none⟩) (Kd.S_far (p := ⟨gb549, 1, none⟩) (Kd.S_far (p := ⟨gb549, 0, none⟩) (Kd.S_types HO545.out BK549.out (by decide)) (fun _ hk => hk.2) (.int .i64 t535)) (fun _ hk => hk.2) (.int .i64 t536)) (fun _ hk => hk.2) (.slice Ao52 t537.length co52)) (fun _ hk => hk.2) (.int .i64 t540)) (fun _ hk => hk.2) (.int .i64 t541)) (fun _ hk => hk.2) (.int .i64 t542)) (fun _ hk => hk.2) (.slice Ao53 t543.length co53)) (fun _ hk => hk.2) (.slice Ao54 t546.length co54)) (fun _ h_ => h_.1)))) (Kd.S_typed (SU ((Kd.S_mono (Kd.S_far (p := ⟨gb549, 7, none⟩) (Kd.S_far (p := ⟨gb549, 6, none⟩) (Kd.S_far (p := ⟨gb549, 5, none⟩) (Kd.S_far (p := ⟨gb549, 4, none⟩) (Kd.S_far (p := ⟨gb549, 3, none⟩) (Kd.S_far (p := ⟨gb549, 2, none⟩) (Kd.S_far (p := ⟨gb549, 1, none⟩) (Kd.S_far (p := ⟨gb549, 0, none⟩) (Kd.S_types HO539.out BK549.out (by decide)) (fun _ hk => hk.2) (.int .i64 t535)) (fun _ hk => hk.2) (.int .i64 t536)) (fun _ hk => hk.2) (.slice Ao52 t537.length co52)) (fun _ hk => hk.2) (.int .i64 t540)) (fun _ hk => hk.2) (.int .i64 t541)) (fun _ hk => hk.2) (.int .i64 t542)) (fun _ hk => hk.2) (.slice Ao53 t543.length co53)) (fun _ hk => hk.2) (.slice Ao54 t546.length co54)) (fun _ h_ => h_.1))))) (by decide) hg); replace HO548 := As0 (Kd.S_over' (SU ((Kd.S_mono (Kd.S_far (p := ⟨gb549, 7, none⟩) (Kd.S_far (p := ⟨gb549, 6, none⟩) (Kd.S_far (p := ⟨gb549, 5, none⟩) (Kd.S_far (p := ⟨gb549, 4, none⟩) (Kd.S_far (p := ⟨gb549, 3, none⟩) (Kd.S_far (p := ⟨gb549, 2, none⟩) (Kd.S_far (p := ⟨gb549, 1, none⟩) (Kd.S_far (p := ⟨gb549, 0, none⟩) (Kd.S_types HO548.out BK549.out (by decide)) (fun _ hk => hk.2) (.int .i64 t535)) (fun _ hk => hk.2) (.int .i64 t536)) (fun _ hk => hk.2) (.slice Ao52 t537.length co52)) (fun _ hk => hk.2) (.int .i64 t540)) (fun _ hk => hk.2) (.int .i64 t541)) (fun _ hk => hk.2) (.int .i64 t542)) (fun _ hk => hk.2) (.slice Ao53 t543.length co53)) (fun _ hk => hk.2) (.slice Ao54 t546.length co54)) (fun _ h_ => h_.1)))) (Kd.S_typed (SU ((Kd.S_mono (Kd.S_far (p := ⟨gb549, 7, none⟩) (Kd.S_far (p := ⟨gb549, 6, none⟩) (Kd.S_far (p := ⟨gb549, 5, none⟩) (Kd.S_far (p := ⟨gb549, 4, none⟩) (Kd.S_far (p := ⟨gb549, 3, none⟩) (Kd.S_far (p := ⟨gb549, 2, none⟩) (Kd.S_far (p := ⟨gb549, 1, none⟩) (Kd.S_far (p := ⟨gb549, 0, none⟩) (Kd.S_types HO539.out BK549.out (by decide)) (fun _ hk => hk.2) (.int .i64 t535)) (fun _ hk => hk.2) (.int .i64 t536)) (fun _ hk => hk.2) (.slice Ao52 t537.length co52)) (fun _ hk => hk.2) (.int .i64 t540)) (fun _ hk => hk.2) (.int .i64 t541)) (fun _ hk => hk.2) (.int .i64 t542)) (fun _ hk => hk.2) (.slice Ao53 t543.length co53)) (fun _ hk => hk.2) (.slice Ao54 t546.length co54)) (fun _ h_ => h_.1))))) (by decide) hg); replace BK549 := As0 (Qby (g := gb549) (o := .cells #[.int .i64 t535, .int .i64 t536, .slice Ao52 t537.length co52, .int .i64 t540, .int .i64 t541, .int .i64 t542, .slice Ao53 t543.length co53, .slice Ao54 t546.length co54] 30 (0, 0)) (kV BK549) hg (Kd.S_ne HO539.out BK549.out (by decide))); replace HB := As0 (hb); have HO552 := As0 (ho); clear HO539 ho hb hg hat; obtain ⟨Ao57, co57, eo57⟩ := Kd.S_slice HO552.out; subst eo57; obtain ⟨z58_0, z58_1, z58_2, z58_3, z58_4, z58_5, z58_6, z58_7, y_58_0, y_58_1, y_58_2, y_58_3, y_58_4, y_58_5, y_58_6, y_58_7⟩ := cN8 BK549.out))
   go_upto_region 8 with (first | ((with_reducible refine Qca (b := .append) (xs := #[.tmp 64, .tmp 68]) rfl ?_); (try (refine Qb7 (by rfl) ?_; dsimp only)); at_builtin; refine Kd.S_append k57 (w0 := w) w.heap.size rfl (.tmp 64) (.tmp 68) 25 57 (.agg #[(.slice none 0 0), (.int .i64 0), (.int .i64 0), (.int .i64 0), (.int .i64 0)]) 56 rfl Tryz.underlying25 info57 rfl (by decide) (by omega) (.slice Ao53 t543.length co53) t543 (⟨([] : List (S59)), (⟨3, Int.tmod (wrap64 (a2)) a0_4, 0, 0⟩ : S37)⟩ : S57) [.slice none 0 0, .int .i64 3, .int .i64 (Int.tmod (wrap64 (a2)) a0_4), .int .i64 0, .int .i64 0] (fun _ => True) (fun _ => False) rfl (by first | (go_simp; done) | (go_simp; rfl)) ?aP (fun k_ hk_ => hk_.elim) ?aF ?aO ?aB ?aS ?aL ?_; (case aP => exact k57_mkM _ _ _ (⟨([] : List (S59)), (⟨3, Int.tmod (wrap64 (a2)) a0_4, 0, 0⟩ : S37)⟩ : S57) (Kd.R_nil _ _ _ _ _)); (case aB => exact (BU HB.out)); (case aF => exact (fun _ _ => trivial)); (case aO => exact (SU (Kd.S_mono (Kd.S_far (p := ⟨gb549, 2, none⟩) (Kd.S_types HO545.out BK549.out (by decide)) (fun _ hk => hk.2) (.slice Ao57 y550.length co57)) (fun k_ hk => ⟨trivial, fun e_ => e_⟩)))); (case aS => exact (Qbp (BU HB.out))); (case aL => have := LMc37.out; omega); intro v554 w59 ho hb hg hat; rw [← Ny553.out] at ho; replace BK524 := As0 (Qby (g := gb524) (o := .cells #[.int .i64 a0_0, .int .i64 a0_1, .slice A0_2 l0_2.length c0_2, .int .i64 a0_3, .int .i64 a0_4, .int .i64 a0_5, .slice A0_6 l0_6.length c0_6, .slice A0_7 l0_7.length c0_7] 30 (0, 0)) (kV BK524) hg (Kd.S_ne HO545.out BK524.out (by decide))); replace HO548 := As0 (Kd.S_over' (SU ((Kd.S_mono (Kd.S_far (p := ⟨gb549, 2, none⟩) (Kd.S_types HO548.out BK549.out (by decide)) (fun _ hk => hk.2) (.slice Ao57 y550.length co57)) (fun _ h_ => h_.1)))) (Kd.S_typed (SU ((Kd.S_mono (Kd.S_far (p := ⟨gb549, 2, none⟩) (Kd.S_types HO545.out BK549.out (by decide)) (fun _ hk => hk.2) (.slice Ao57 y550.length co57)) (fun _ h_ => h_.1))))) (by decide) hg); replace HO552 := As0 (Kd.S_over' (SU ((Kd.S_mono (Kd.S_far (p := ⟨gb549, 2, none⟩) (Kd.S_types HO552.out BK549.out (by decide)) (fun _ hk => hk.2) (.slice Ao57 y550.length co57)) (fun _ h_ => h_.1)))) (Kd.S_typed (SU ((Kd.S_mono (Kd.S_far (p := ⟨gb549, 2, none⟩) (Kd.S_types HO545.out BK549.out (by decide)) (fun _ hk => hk.2) (.slice Ao57 y550.length co57)) (fun _ h_ => h_.1))))) (by decide) hg); replace BK549 := As0 (Qby (g := gb549) (o := .cells #[.int .i64 t535, .int .i64 t536, .slice Ao57 y550.length co57, .int .i64 t540, .int .i64 t541, .int .i64 t542, .slice Ao53 t543.length co53, .slice Ao54 t546.length co54] 30 (0, 0)) (kV BK549) hg (Kd.S_ne HO545.out BK549.out (by decide))); replace HB := As0 (hb); have HO555 := As0 (ho); clear HO545 ho hb hg hat; obtain ⟨Ao60, co60, eo60⟩ := Kd.S_slice HO555.out; subst eo60; obtain ⟨z61_0, z61_1, z61_2, z61_3, z61_4, z61_5, z61_6, z61_7, y_61_0, y_61_1, y_61_2, y_61_3, y_61_4, y_61_5, y_61_6, y_61_7⟩ := cN8 BK549.out))
   go_upto_region 9 with (first | ((with_reducible refine Qbn (N := 78) rfl ?_); (try (refine Qb7 (by rfl) ?_; dsimp only)); refine Kd.R_lit k47 _ 47 ?hg (N := 78) ?hd (xs := ([(⟨Int.tmod (wrap64 (a1)) a0_1, wrap64 (2 * (Int.tmod (wrap64 (a2)) a0_4))⟩ : S47)] : List (S47))) (inner := [.int .i64 (Int.tmod (wrap64 (a1)) a0_1), .int .i64 (wrap64 (2 * (Int.tmod (wrap64 (a2)) a0_4)))]) (ok := fun _ => True) (okp := fun _ => True) ?hr ?hp (fun _ hk => hk) trivial (Below.refl _ _) (Nat.le_refl _) (by simp) ?_; (case hd => rfl); (case hg => rfl); (case hr => first | (go_simp; done) | (go_simp; rfl)); (case hp => exact (Reps.c2 (show Kd.M k47 _ _ _ (⟨Int.tmod (wrap64 (a1)) a0_1, wrap64 (2 * (Int.tmod (wrap64 (a2)) a0_4))⟩ : S47) [.int .i64 (Int.tmod (wrap64 (a1)) a0_1), .int .i64 (wrap64 (2 * (Int.tmod (wrap64 (a2)) a0_4)))] from (Qd0 _ _ _ (⟨Int.tmod (wrap64 (a1)) a0_1, wrap64 (2 * (Int.tmod (wrap64 (a2)) a0_4))⟩ : S47) )) (Reps.none _ _))); intro v557 w62 ho63 hb hg_ hnew_; clear hg_ hnew_; (first | rw [← Ny556.out] at ho63 | (simp only [Int.reduceToNat] at ho63; rw [← Ny556.out] at ho63)); replace HO548 := As0 (Kd.S_elder' (SU ((Kd.S_mono (Kd.S_far (p := ⟨gb549, 6, none⟩) (Kd.S_types HO548.out BK549.out (by decide)) (fun _ hk => hk.2) (.slice Ao60 y553.length co60)) (fun _ h_ => h_.1)))) (Kd.R_base ho63) hb); replace HO552 := As0 (Kd.S_below (SU ((Kd.S_mono (Kd.S_far (p := ⟨gb549, 6, none⟩) (Kd.S_types HO552.out BK549.out (by decide)) (fun _ hk => hk.2) (.slice Ao60 y553.length co60)) (fun _ h_ => h_.1)))) hb); replace HO555 := As0 (Kd.S_below (SU ((Kd.S_mono (Kd.S_far (p := ⟨gb549, 6, none⟩) (Kd.S_types HO555.out BK549.out (by decide)) (fun _ hk => hk.2) (.slice Ao60 y553.length co60)) (fun _ h_ => h_.1)))) hb); have HO558 := As0 (Kd.R_lower ho63 (Qbp (BU HB.out))); replace BK524 := kF BK524 hb; replace BK549 := kP (.cells #[.int .i64 t535, .int .i64 t536, .slice Ao57 y550.length co57, .int .i64 t540, .int .i64 t541, .int .i64 t542, .slice Ao60 y553.length co60, .slice Ao54 t546.length co54] 30 (0, 0)) BK549 hb; replace HB := As0 (Qbj (BU HB.out) hb); clear hb ho63; obtain ⟨Ao65, co65, eo65⟩ := Kd.R_slice HO558.out; subst eo65) | ((with_reducible refine Qca (b := .append) (xs := #[.tmp 73, .tmp 79]) rfl ?_); (try (refine Qb7 (by rfl) ?_; dsimp only)); at_builtin; refine Kd.S_append (Kd.slice 47 k47) (w0 := w) w.heap.size rfl (.tmp 73) (.tmp 79) 28 44 (.slice none 0 0) 24 rfl Tryz.underlying28 info44 rfl (by decide) (by omega) (.slice Ao54 t546.length co54) t546 y556 [.slice Ao65 y556.length co65] (fun _ => True) (fun k_ => some k_ = (.slice Ao65 y556.length co65 : Value).ownBlock) rfl rfl ?aP (fun k_ hk_ => ((Kd.R_mono (ok' := fun k_ => ((fun _ => True)) k_ ∧ some k_ ≠ (.slice Ao54 t546.length co54 : Value).ownBlock) (Kd.R_apart' (HO558.out) (Kd.S_typed HO548.out) (by decide)) (fun k_ hk => ⟨trivial, hk.2⟩))).1 k_ hk_.symm) ?aF ?aO ?aB ?aS ?aL ?_; (case aP => exact Kd.M_row (Kd.R_mono (Kd.R_tight rfl (Kd.R_mono (ok' := fun k_ => ((fun _ => True)) k_ ∧ some k_ ≠ (.slice Ao54 t546.length co54 : Value).ownBlock) (Kd.R_apart' (HO558.out) (Kd.S_typed HO548.out) (by decide)) (fun k_ hk => ⟨trivial, hk.2⟩))) (fun _ h_ => h_))); (case aB => exact (BU HB.out)); (case aF => exact (fun _ _ => trivial)); (case aO => exact (SU (Kd.S_mono HO548.out (fun k_ hk => ⟨trivial, fun e_ => hk.2 e_⟩)))); (case aS => exact (Qbp (BU HB.out))); (case aL => have := LMc38.out; omega); intro v560 w64 ho hb hg hat; rw [← Ny559.out] at ho; replace BK524 := As0 (Qby (bU BK524.out) hg (Kd.S_ne HO548.out BK524.out (by decide))); replace BK549 := As0 (Qby (bU BK549.out) hg (Kd.S_ne HO548.out BK549.out (by decide))); replace HO552 := As0 (Kd.S_over' (SU HO552.out) (Kd.S_typed (SU HO548.out)) (by decide) hg); replace HO555 := As0 (Kd.S_over' (SU HO555.out) (Kd.S_typed (SU HO548.out)) (by decide) hg); replace HB := As0 (hb); have HO561 := As0 (ho); clear HO548 HO558 ho hb hg hat; obtain ⟨Ao66, co66, eo66⟩ := Kd.S_slice HO561.out; subst eo66; obtain ⟨z67_0, z67_1, z67_2, z67_3, z67_4, z67_5, z67_6, z67_7, y_67_0, y_67_1, y_67_2, y_67_3, y_67_4, y_67_5, y_67_6, y_67_7⟩ := cN8 BK549.out))
   go_upto_region 10 with (first | ((with_reducible refine Qbq (f := 14) rfl ?_); refine gL (some 83) Tryz.func14 #[.agg #[.int .i64 t535, .int .i64 t536, .slice Ao57 y550.length co57, .int .i64 t540, .int .i64 t541, .int .i64 t542, .slice Ao60 y553.length co60, .slice Ao66 y559.length co66]] ?_; (with_reducible refine (Qa8.calls kj3 t535 t536 _ _ y550 t540 t541 t542 _ _ y553 _ _ y559 t562 t563 t564 t565 t566 t567 t568 _ ?side1 ?side2 ?side3 ?side4 ?side5 ?side6 A39.out).mono ?_); (case side1 => refine (Kd.S_reads' (e := 39) (base := w.heap.size) (ok := fun k_ => True) (n := y550.length) (c := co57) ?_).2.2; exact (SU ((Kd.S_mono (Kd.S_far (p := ⟨gb549, 7, none⟩) (Kd.S_types HO552.out BK549.out (by decide)) (fun _ hk => hk.2) (.slice Ao66 y559.length co66)) (fun _ h_ => h_.1))))); (case side2 => exact (Kd.S_reads' HO552.out).2.1); (case side3 => refine (Kd.S_reads' (e := 57) (base := w.heap.size) (ok := fun k_ => True) (n := y553.length) (c := co60) ?_).2.2; exact (SU ((Kd.S_mono (Kd.S_far (p := ⟨gb549, 7, none⟩) (Kd.S_types HO555.out BK549.out (by decide)) (fun _ hk => hk.2) (.slice Ao66 y559.length co66)) (fun _ h_ => h_.1))))); (case side4 => exact (Kd.S_reads' HO555.out).2.1); (case side5 => refine (Kd.S_reads' (e := 44) (base := w.heap.size) (ok := fun k_ => True) (n := y559.length) (c := co66) ?_).2.2; exact (SU ((Kd.S_mono (Kd.S_far (p := ⟨gb549, 7, none⟩) (Kd.S_types HO561.out BK549.out (by decide)) (fun _ hk => hk.2) (.slice Ao66 y559.length co66)) (fun _ h_ => h_.1))))); (case side6 => exact (Kd.S_reads' HO561.out).2.1); rintro e w68 ⟨rfl, hb⟩; refine ⟨_, rfl, ?_⟩; replace HO552 := As0 (Kd.S_below (SU ((Kd.S_mono (Kd.S_far (p := ⟨gb549, 7, none⟩) (Kd.S_types HO552.out BK549.out (by decide)) (fun _ hk => hk.2) (.slice Ao66 y559.length co66)) (fun _ h_ => h_.1)))) hb); replace HO555 := As0 (Kd.S_below (SU ((Kd.S_mono (Kd.S_far (p := ⟨gb549, 7, none⟩) (Kd.S_types HO555.out BK549.out (by decide)) (fun _ hk => hk.2) (.slice Ao66 y559.length co66)) (fun _ h_ => h_.1)))) hb); replace HO561 := As0 (Kd.S_below (SU ((Kd.S_mono (Kd.S_far (p := ⟨gb549, 7, none⟩) (Kd.S_types HO561.out BK549.out (by decide)) (fun _ hk => hk.2) (.slice Ao66 y559.length co66)) (fun _ h_ => h_.1)))) hb); replace BK524 := kF BK524 hb; replace BK549 := kP (.cells #[.int .i64 t535, .int .i64 t536, .slice Ao57 y550.length co57, .int .i64 t540, .int .i64 t541, .int .i64 t542, .slice Ao60 y553.length co60, .slice Ao66 y559.length co66] 30 (0, 0)) BK549 hb; replace HB := As0 (Qbj (BU HB.out) hb); (try clear hb)) | ((with_reducible refine Qbn (N := 10) rfl ?_); (try (refine Qb7 (by rfl) ?_; dsimp only)); refine bX (N := 10) (cs := #[.int .i64 0, .int .i64 0, .int .i64 0, .int .i64 0, .int .i64 0, .int .i64 0, .int .i64 0]) (t := 51) ?_; intro gb569 hg w69 hbox hb; replace HO552 := As0 (Kd.S_below (SU HO552.out) hb); replace HO555 := As0 (Kd.S_below (SU HO555.out) hb); replace HO561 := As0 (Kd.S_below (SU HO561.out) hb); have BK569 := As0 (hbox); have GW569 := gW hg HB.out; have GE569 := GW569; replace HB := As0 (Qbj (BU HB.out) hb); have NB524_569 := nL hg BK524; have NB569_524 := nR hg BK524; replace BK524 := kB BK524 hb; have NB549_569 := nL hg BK549; have NB569_549 := nR hg BK549; replace BK549 := kB BK549 hb; clear hb hbox hg; have hnb70 := NB569_524.out; have hnc70 := NB524_569.out; have hnb71 := NB569_549.out; have hnc71 := NB549_569.out; obtain ⟨z72_0, z72_1, z72_2, z72_3, z72_4, z72_5, z72_6, y_72_0, y_72_1, y_72_2, y_72_3, y_72_4, y_72_5, y_72_6⟩ := cN7 BK569.out) | ((with_reducible refine gate_store (t := 51) (p := 10) rfl ?_); refine store_event (t := 51) (p := 10) (v := ?vo_w73) (w1 := (((((((w69.setCell ⟨gb569, 0, none⟩ (.int .i64 t562)).setCell ⟨gb569, 1, none⟩ (.int .i64 t563)).setCell ⟨gb569, 2, none⟩ (.int .i64 t564)).setCell ⟨gb569, 3, none⟩ (.int .i64 t565)).setCell ⟨gb569, 4, none⟩ (.int .i64 t566)).setCell ⟨gb569, 5, none⟩ (.int .i64 t567)).setCell ⟨gb569, 6, none⟩ (.int .i64 t568))) ?hg ?ho ?hn ?hr ?_; (case ho => rfl); (case hg => rfl); (case hn => rfl); (case hr => first | (go_simp; done) | (go_simp; rfl)); intro w73 hw; replace HO552 : Qbm (Kd.S k39 39 w73 w.heap.size (fun _ => True) (.slice Ao57 y550.length co57) y550) := ⟨(by rw [hw]; exact (SU (Kd.S_mono (Kd.S_far (p := ⟨gb569, 6, none⟩) (Kd.S_far (p := ⟨gb569, 5, none⟩) (Kd.S_far (p := ⟨gb569, 4, none⟩) (Kd.S_far (p := ⟨gb569, 3, none⟩) (Kd.S_far (p := ⟨gb569, 2, none⟩) (Kd.S_far (p := ⟨gb569, 1, none⟩) (Kd.S_far (p := ⟨gb569, 0, none⟩) (Kd.S_types HO552.out BK569.out (by decide)) (fun _ hk => hk.2) (.int .i64 t562)) (fun _ hk => hk.2) (.int .i64 t563)) (fun _ hk => hk.2) (.int .i64 t564)) (fun _ hk => hk.2) (.int .i64 t565)) (fun _ hk => hk.2) (.int .i64 t566)) (fun _ hk => hk.2) (.int .i64 t567)) (fun _ hk => hk.2) (.int .i64 t568)) (fun _ hk => trivial))))⟩; replace HO555 : Qbm (Kd.S k57 57 w73 w.heap.size (fun _ => True) (.slice Ao60 y553.length co60) y553) := ⟨(by rw [hw]; exact (SU (Kd.S_mono (Kd.S_far (p := ⟨gb569, 6, none⟩) (Kd.S_far (p := ⟨gb569, 5, none⟩) (Kd.S_far (p := ⟨gb569, 4, none⟩) (Kd.S_far (p := ⟨gb569, 3, none⟩) (Kd.S_far (p := ⟨gb569, 2, none⟩) (Kd.S_far (p := ⟨gb569, 1, none⟩) (Kd.S_far (p := ⟨gb569, 0, none⟩) (Kd.S_types HO555.out BK569.out (by decide)) (fun _ hk => hk.2) (.int .i64 t562)) (fun _ hk => hk.2) (.int .i64 t563)) (fun _ hk => hk.2) (.int .i64 t564)) (fun _ hk => hk.2) (.int .i64 t565)) (fun _ hk => hk.2) (.int .i64 t566)) (fun _ hk => hk.2) (.int .i64 t567)) (fun _ hk => hk.2) (.int .i64 t568)) (fun _ hk => trivial))))⟩; replace HO561 : Qbm (Kd.S (Kd.slice 47 k47) 44 w73 w.heap.size (fun _ => True) (.slice Ao66 y559.length co66) y559) := ⟨(by rw [hw]; exact (SU (Kd.S_mono (Kd.S_far (p := ⟨gb569, 6, none⟩) (Kd.S_far (p := ⟨gb569, 5, none⟩) (Kd.S_far (p := ⟨gb569, 4, none⟩) (Kd.S_far (p := ⟨gb569, 3, none⟩) (Kd.S_far (p := ⟨gb569, 2, none⟩) (Kd.S_far (p := ⟨gb569, 1, none⟩) (Kd.S_far (p := ⟨gb569, 0, none⟩) (Kd.S_types HO561.out BK569.out (by decide)) (fun _ hk => hk.2) (.int .i64 t562)) (fun _ hk => hk.2) (.int .i64 t563)) (fun _ hk => hk.2) (.int .i64 t564)) (fun _ hk => hk.2) (.int .i64 t565)) (fun _ hk => hk.2) (.int .i64 t566)) (fun _ hk => hk.2) (.int .i64 t567)) (fun _ hk => hk.2) (.int .i64 t568)) (fun _ hk => trivial))))⟩; replace BK524 : Qbm (w73.heap[gb524]? = some (.cells #[.int .i64 a0_0, .int .i64 a0_1, .slice A0_2 l0_2.length c0_2, .int .i64 a0_3, .int .i64 a0_4, .int .i64 a0_5, .slice A0_6 l0_6.length c0_6, .slice A0_7 l0_7.length c0_7] 30 (0, 0))) := ⟨(by rw [hw]; exact (kV BK524))⟩; replace BK549 : Qbm (w73.heap[gb549]? = some (.cells #[.int .i64 t535, .int .i64 t536, .slice Ao57 y550.length co57, .int .i64 t540, .int .i64 t541, .int .i64 t542, .slice Ao60 y553.length co60, .slice Ao66 y559.length co66] 30 (0, 0))) := ⟨(by rw [hw]; exact (kV BK549))⟩; replace BK569 : Qbm (w73.heap[gb569]? = some (.cells #[.int .i64 t562, .int .i64 t563, .int .i64 t564, .int .i64 t565, .int .i64 t566, .int .i64 t567, .int .i64 t568] 51 (0, 0))) := ⟨(by rw [hw]; exact (kV BK569))⟩; replace HB : Qbm (Below w.heap.size w w73) := ⟨(by rw [hw]; exact (BU HB.out))⟩; clear hw; obtain ⟨z74_0, z74_1, z74_2, z74_3, z74_4, z74_5, z74_6, z74_7, y_74_0, y_74_1, y_74_2, y_74_3, y_74_4, y_74_5, y_74_6, y_74_7⟩ := cN8 BK549.out; obtain ⟨z75_0, z75_1, z75_2, z75_3, z75_4, z75_5, z75_6, z75_7, y_75_0, y_75_1, y_75_2, y_75_3, y_75_4, y_75_5, y_75_6, y_75_7⟩ := cN8 BK524.out; have p42 : 0 ≤ ((l0_7.length : Int) : Int) := qR; have q42 : ((l0_7.length : Int) : Int) < ((y559.length : Int) : Int) := qR; obtain ⟨go42, co42, eo42, gb42, gl42, cl42, HG42⟩ := Kd.S_form HO561.out (by omega); (first | cases eo42 | (injection eo42 with ea_ en_ ec_; (first | subst ea_ | (injection ea_ with ea_; subst ea_)); subst ec_; clear en_)); have GB42 := As0 gb42; have GG42 := As0 HG42; clear gb42 gl42 HG42; obtain ⟨_, ce42, hcl42, hM42, hcc42, hfr42, _, _⟩ := Kd.S_elem HO561.out [] ((l0_7.length : Int) : Int) p42 q42; obtain ⟨ve42_0, rfl, ge42_0⟩ := hM42; have hx42_0 := hcc42 0 _ rfl; have hf42_0 := hfr42 0; (try simp only [show ((Kd.slice 47 k47)).sz = 1 from rfl, Nat.mul_one, Nat.add_zero] at hx42_0); (try simp only [show ((Kd.slice 47 k47)).sz = 1 from rfl, Nat.mul_one, Nat.add_zero] at hf42_0); (try clear hcl42); (try clear hcc42); (try clear hfr42); (try clear hM42); replace p42 := eq_true p42; replace q42 := eq_true q42; have HX76 := As0 (show Kd.S (Kd.slice 47 k47) 44 w73 w.heap.size (fun k_ => ((fun _ => True)) k_ ∧ ¬ ((fun _ => False)) k_) (.slice (some ⟨go42, 0, none⟩) y559.length co66) y559 from (SU (Kd.S_mono HO561.out (fun k_ hk => ⟨trivial, fun e_ => e_⟩)))); obtain ⟨oki76, ce76, hcl76, hM76, hcc76, hfr76, hoki76, hH76⟩ := Kd.S_elem HX76.out [] ((l0_7.length : Int) : Int) (qR) (by have h_ : ((l0_7.length : Int) : Int) < ((y559.length : Int) : Int) := qR; first | exact h_ | (have e_ := (Kd.S_reads' HO561.out).1; omega) | simpa using h_); obtain ⟨ve76_0, rfl, ge76_0⟩ := hM76; have HP76 := Kd.S_seg hH76 (qR) (by have h_ : ((l0_7.length : Int) : Int) < ((y559.length : Int) : Int) := qR; first | exact h_ | (have e_ := (Kd.S_reads' HO561.out).1; omega) | simpa using h_) (seg := [.slice none 0 0]) (j := 0) (show 1 ≤ 1 from by decide) (x' := ([] : List (S47))) (Kd.M_row (Kd.R_nil _ _ _ _ _)) (fun _ hk => hk) (fun k_ hk_ => hk_.elim); have hx76_0 := hcc76 0 _ rfl; (try simp only [show ((Kd.slice 47 k47)).sz = 1 from rfl, Nat.mul_one, Nat.add_zero] at hx76_0); have hf76_0 := hfr76 0; (try simp only [show ((Kd.slice 47 k47)).sz = 1 from rfl, Nat.mul_one, Nat.add_zero] at hf76_0); (try clear hcl76); (try clear hcc76); (try clear hfr76); (try clear hM76); (try clear hoki76); (try clear hH76); (try simp only [show ((Kd.slice 47 k47)).sz = 1 from rfl, Nat.mul_one, Nat.add_zero] at HP76); (try simp only [Int.toNat_natCast] at hx42_0); (try simp only [Int.toNat_natCast] at hf42_0); (try simp only [Int.toNat_natCast] at hx76_0); (try simp only [Int.toNat_natCast] at hf76_0)))
   go_upto_region 11 with (first | ((with_reducible refine gate_store (t := 44) (p := 89) rfl ?_); refine store_event (t := 44) (p := 89) (v := ?vo_w77) (w1 := (w73.setCell ⟨go42, ((l0_7.length : Int) : Int).toNat, none⟩ (.slice none 0 0))) ?hg ?ho ?hn ?hr ?_; (case ho => rfl); (case hg => rfl); (case hn => rfl); (case hr => first | (go_simp; done) | (go_simp; rfl)); intro w77 hw; have hg : w73.grownBy w77 (some go42) := (by rw [hw]; exact HP76.2); have hp_ : Kd.S (Kd.slice 47 k47) 44 w77 w.heap.size (fun _ => True) (.slice (some ⟨go42, 0, none⟩) y559.length co66) y570 := (by rw [hw, Ny570.out]; exact HP76.1); clear HP76; replace BK524 := As0 (Qby (bU BK524.out) hg (Kd.S_ne HO561.out BK524.out (by decide))); replace BK549 := As0 (Qby (bU BK549.out) hg (Kd.S_ne HO561.out BK549.out (by decide))); replace HO552 := As0 (Kd.S_over' (v := (.slice (some ⟨go42, 0, none⟩) y559.length co66)) (SU HO552.out) (Kd.S_typed HO561.out) (by decide) hg); replace HO555 := As0 (Kd.S_over' (v := (.slice (some ⟨go42, 0, none⟩) y559.length co66)) (SU HO555.out) (Kd.S_typed HO561.out) (by decide) hg); replace BK569 := As0 (Qby (bU BK569.out) hg (Kd.S_ne HO561.out BK569.out (by decide))); replace HO561 := As0 (hp_); replace HB := As0 ((by rw [hw]; exact below_set (HB.out) GB42.out : Below w.heap.size w w77)); clear hg hw hp_; obtain ⟨z78_0, z78_1, z78_2, z78_3, z78_4, z78_5, z78_6, z78_7, y_78_0, y_78_1, y_78_2, y_78_3, y_78_4, y_78_5, y_78_6, y_78_7⟩ := cN8 BK549.out))
   go_upto_region 12 with (first | ((with_reducible refine Qbq (f := 14) rfl ?_); refine goesL_ (some 91) rfl rfl Tryz.func14 (by kernel_rfl) rfl #[.agg #[.int .i64 t535, .int .i64 t536, .slice Ao57 y550.length co57, .int .i64 t540, .int .i64 t541, .int .i64 t542, .slice Ao60 y553.length co60, .slice (some ⟨go42, 0, none⟩) y570.length co66]] rfl (by (try simp only [List.map_toArray, List.map_cons, List.map_nil]); first | done | (rw [show y570.length = y559.length from (Kd.S_reads' HO561.out).1.symm] <;> rfl) | rfl | (simp only [List.length_drop, List.length_take]; rfl)) ?_; (with_reducible refine (Qa8.calls kj3 t535 t536 _ _ y550 t540 t541 t542 _ _ y553 _ _ y570 t571 t572 t573 t574 t575 t576 t577 _ ?side1 ?side2 ?side3 ?side4 ?side5 ?side6 A43.out).mono ?_); (case side1 => exact CU (Kd.S_reads' HO552.out).2.2); (case side2 => exact (Kd.S_reads' HO552.out).2.1); (case side3 => exact CU (Kd.S_reads' HO555.out).2.2); (case side4 => exact (Kd.S_reads' HO555.out).2.1); (case side5 => exact CU (Kd.S_reads' HO561.out).2.2); (case side6 => rw [show y570.length = y559.length from (Kd.S_reads' HO561.out).1.symm]; exact (Kd.S_reads' HO561.out).2.1); rintro e w79 ⟨rfl, hb⟩; refine ⟨_, rfl, ?_⟩; replace HO552 := As0 (Kd.S_below (SU HO552.out) hb); replace HO555 := As0 (Kd.S_below (SU HO555.out) hb); replace HO561 := As0 (Kd.S_below (SU HO561.out) hb); replace BK524 := kB BK524 hb; replace BK549 := kB BK549 hb; replace BK569 := kB BK569 hb; replace HB := As0 (Qbj (BU HB.out) hb); (try clear hb)) | ((with_reducible refine Qbn (N := 11) rfl ?_); (try (refine Qb7 (by rfl) ?_; dsimp only)); refine bX (N := 11) (cs := #[.int .i64 0, .int .i64 0, .int .i64 0, .int .i64 0, .int .i64 0, .int .i64 0, .int .i64 0]) (t := 51) ?_; intro gb578 hg w80 hbox hb; replace HO552 := As0 (Kd.S_below (SU HO552.out) hb); replace HO555 := As0 (Kd.S_below (SU HO555.out) hb); replace HO561 := As0 (Kd.S_below (SU HO561.out) hb); have BK578 := As0 (hbox); have GW578 := gW hg HB.out; have GE578 := GW578; replace HB := As0 (Qbj (BU HB.out) hb); have NB524_578 := nL hg BK524; have NB578_524 := nR hg BK524; replace BK524 := kB BK524 hb; have NB549_578 := nL hg BK549; have NB578_549 := nR hg BK549; replace BK549 := kB BK549 hb; have NB569_578 := nL hg BK569; have NB578_569 := nR hg BK569; replace BK569 := kB BK569 hb; clear hb hbox hg; have hnb81 := NB578_524.out; have hnc81 := NB524_578.out; have hnb82 := NB578_549.out; have hnc82 := NB549_578.out; have hnb83 := NB578_569.out; have hnc83 := NB569_578.out; obtain ⟨z84_0, z84_1, z84_2, z84_3, z84_4, z84_5, z84_6, y_84_0, y_84_1, y_84_2, y_84_3, y_84_4, y_84_5, y_84_6⟩ := cN7 BK578.out; obtain ⟨z85_0, z85_1, z85_2, z85_3, z85_4, z85_5, z85_6, y_85_0, y_85_1, y_85_2, y_85_3, y_85_4, y_85_5, y_85_6⟩ := cN7 BK569.out; obtain ⟨z86_0, z86_1, z86_2, z86_3, z86_4, z86_5, z86_6, z86_7, y_86_0, y_86_1, y_86_2, y_86_3, y_86_4, y_86_5, y_86_6, y_86_7⟩ := cN8 BK524.out))
   go_wp2_with fail
   go_ret
   exact ⟨oR, BU HB.out⟩
end Go.Proofs.YtchpkjgibloleaaGreat.Z
namespace Go.Proofs.YtchpkjgibloleaaGreat.Open
set_option maxRecDepth 100000
set_option maxHeartbeats 8000000
open Go.RowKit Go.ChangeShapes Go.WideShapes Go.Proofs.YtchpkjgibloleaaGreatW.PrintWords
set_option linter.unusedVariables false
def Qei (P : Program) (t : TypeId) {α : Type} (d : Kd α) (good : α → Prop) : Prop :=
 ∀ {H : Type} (enc : TypeId × Value → H) (w : World) (fuel : Nat) (cs : List Value) (x : DataW H × List MemPlace),
  DataW.trod enc P w 0 (fun _ => true) true fuel t cs = some x → ∃ a : α, d.K w a cs ∧ good a
theorem Qb4 {P : Program} {t : TypeId} {k : IntKind} (ht : P.underlying t = some (.int k)) : Qei P t (Kd.int k) (fun n => (Lit.int k n).wf = true) := by
 intro H enc w fuel cs x h
 obtain ⟨n, rfl, _, hw⟩ := DataW.trod_int ht h
 exact ⟨n, rfl, hw⟩
theorem cells_read {w : World} {a : Addr} {n : Nat} {cs : List Value} (h : w.cells? 0 a n = some cs) : cs.length = n ∧ ∀ i u, cs[i]? = some u → w.cell? (a.add i) = some u := by
 obtain ⟨h1, h2, h3⟩ := World.cells?_some h
 refine ⟨h2, fun i u hu => ?_⟩
 have hi : i < cs.length := (List.getElem?_eq_some_iff.1 hu).1
 have := h3 i (by omega)
 rw [hu] at this
 exact this
theorem list_of_index {α : Type} {len : Nat} {p : Nat → α → Prop} (h : ∀ i, i < len → ∃ x, p i x) : ∃ xs : List α, xs.length = len ∧ ∀ i x, xs[i]? = some x → p i x := by
 induction len with
 | zero => exact ⟨[], rfl, fun i p hp => by simp at hp⟩
 | succ q ih =>
  obtain ⟨xs, hxs, hr⟩ := ih (fun i hi => h i (by omega))
  obtain ⟨p, hp⟩ := h q (by omega)
  refine ⟨xs ++ [p], by simp [hxs], fun i p' hi => ?_⟩
  rcases Nat.lt_or_ge i xs.length with hlt | hge
  ·rw [List.getElem?_append_left hlt] at hi
   exact hr i p' hi
  ·have hiq : i = q := by
     have := (List.getElem?_eq_some_iff.1 hi).1
     simp at this
     omega
   subst hiq
   rw [List.getElem?_append_right hge] at hi
   simp [hxs] at hi
   subst hi
   exact hp
theorem Qc7 {P : Program} {t e : TypeId} {α : Type} {d : Kd α} {good : α → Prop} (ht : P.underlying t = some (.slice e)) (hc : P.cellsOf e = d.sz) (he : Qei P e d good) :
    Qei P t (Kd.slice e d) (fun xs => xs.length ≤ maxLen ∧ ∀ x ∈ xs, good x) := by
 intro H enc w fuel cs x h
 rcases Go.Deep.open_slice ht h with ⟨rfl, _⟩ | ⟨a, len, cap, m, n, D, Pl, rfl, _, hl, hm, hmm, _, hx⟩
 ·exact ⟨[], ⟨none, 0, rfl, Nat.le_refl _, rfl, by simp, fun hp => absurd hp (by simp)⟩, by simp⟩
 ·have hlm : len ≤ m := by rw [hmm]; simp only [if_true]; exact hl
  have hall : ∀ i, i < len → ∃ p : α, good p ∧ ∃ c, c.length = d.sz ∧ d.K w p c ∧ ∀ j u, c[j]? = some u → w.cell? (a.add (i * d.sz + j)) = some u := by
   intro i hi
   obtain ⟨cs', h1, h2⟩ := hx i (by omega)
   obtain ⟨p, hp, hg⟩ := he enc w n cs' _ h2
   obtain ⟨h3, h4⟩ := cells_read h1
   refine ⟨p, hg, cs', by rw [h3, hc], hp, fun j u hu => ?_⟩
   have := h4 j u hu
   rw [Go.Deep.add_add, hc] at this
   exact this
  have key := list_of_index hall
  obtain ⟨xs, rfl, hr⟩ := key
  refine ⟨xs, ⟨some a, cap, rfl, hl, rfl, by have := hm; unfold maxLen at this; omega, fun _ => ⟨a, rfl, fun j p hj => (hr j p hj).2⟩⟩, by omega, fun x hx => ?_⟩
  obtain ⟨i, hi, rfl⟩ := List.getElem_of_mem hx
  exact (hr i _ (List.getElem?_eq_getElem hi)).1
def OpensFs (P : Program) (fs : List Field) (off : Nat) {α : Type} (d : Kd α) (good : α → Prop) : Prop :=
 ∀ {H : Type} (enc : TypeId × Value → H) (w : World) (fuel : Nat) (cs : List Value) (xs : List (DataW H × List MemPlace)),
  fs.mapM (fun f => DataW.trod enc P w 0 (fun _ => true) true fuel f.type ((cs.drop f.offset).take (P.cellsOf f.type))) = some xs → cs.length = off + d.sz → ∃ a : α, d.K w a (cs.drop off) ∧ good a
theorem Qcv {P : Program} {f : Field} {off : Nat} {α : Type} {d : Kd α} {good : α → Prop} (ho : f.offset = off) (hc : P.cellsOf f.type = d.sz) (h : Qei P f.type d good) : OpensFs P [f] off d good := by
 intro H enc w fuel cs xs hx hl
 simp only [List.mapM_cons, List.mapM_nil, Option.bind_eq_bind, Option.pure_def, Option.bind_eq_some_iff] at hx
 obtain ⟨y, hy, _⟩ := hx
 rw [ho, hc, List.take_of_length_le (by rw [List.length_drop]; omega)] at hy
 exact h enc w fuel _ _ hy
theorem Qb0 {P : Program} {f : Field} {fs : List Field} {off : Nat} {α β : Type} {d : Kd α} {e : Kd β} {good : α → Prop} {goods : β → Prop} (ho : f.offset = off) (hc : P.cellsOf f.type = d.sz) (h : Qei P f.type d good) (hs : OpensFs P fs (off + d.sz) e goods) :
    OpensFs P (f :: fs) off (Kd.pair d e) (fun x => good x.1 ∧ goods x.2) := by
 intro H enc w fuel cs xs hx hl
 simp only [List.mapM_cons, Option.bind_eq_bind, Option.pure_def, Option.bind_eq_some_iff] at hx
 obtain ⟨y, hy, ys, hys, _⟩ := hx
 rw [ho, hc] at hy
 have hl' : cs.length = off + d.sz + e.sz := by rw [hl]; show off + (d.sz + e.sz) = _; omega
 obtain ⟨a, ha, ga⟩ := h enc w fuel _ _ hy
 obtain ⟨b, hb, gb⟩ := hs enc w fuel cs ys hys hl'
 refine ⟨(a, b), ⟨(cs.drop off).take d.sz, cs.drop (off + d.sz), ?_, ha, hb⟩, ga, gb⟩
 rw [← List.drop_drop, List.take_append_drop]
theorem Qci {P : Program} {t : TypeId} {fs : Array Field} {α β : Type} {d : Kd α} {good : α → Prop} (ht : P.underlying t = some (.struct fs)) (hc : P.cellsOf t = d.sz) (h : OpensFs P fs.toList 0 d good) (f : β → α) (g : α → β) (hfg : ∀ a, f (g a) = a) :
    Qei P t (Kd.iso d f) (fun x => good (f x)) := by
 intro H enc w fuel cs x hx
 cases fuel with
 | zero => exact absurd hx (by simp [DataW.trod])
 | succ n =>
  rw [DataW.trod_step] at hx
  unfold DataW.trodStep at hx
  simp only [ht] at hx
  split at hx
  ·rename_i hl
   obtain ⟨xs, hxs, _⟩ := Option.map_eq_some_iff.1 hx
   obtain ⟨a, ha, ga⟩ := h enc w n cs xs hxs (by rw [hl, hc]; omega)
   refine ⟨g a, ?_, by show good (f (g a)); rw [hfg]; exact ga⟩
   show d.K w (f (g a)) cs
   rw [hfg]
   simpa using ha
  ·exact absurd hx (by simp)
section
variable {H : Type} {enc : TypeId × Value → H} {P : Program} {W : World} {b0 : Nat}
theorem arg_struct {t : TypeId} {fs : Array Field} {α : Type} {d : Kd α} {good : α → Prop} {v : Value} {dd : DataW H} {p : List MemPlace} (ht : P.underlying t = some (.struct fs)) (ho : Qei P t d good) (hv : Value.okWide P W .any b0 t v) (h : DataW.Trod enc P W 0 (fun _ => true) true t v dd p) :
    ∃ (cs : List Value) (x : α), v = .agg cs.toArray ∧ d.K W x cs ∧ good x := by
 obtain ⟨cs, rfl, hsz⟩ := okWide_struct ht hv
 obtain ⟨fuel, hf⟩ := h
 obtain ⟨x, hk, hg⟩ := ho enc W fuel _ _ hf
 exact ⟨cs.toList, x, by simp, hk, hg⟩
end
end Go.Proofs.YtchpkjgibloleaaGreat.Open
namespace Go.Proofs.YtchpkjgibloleaaGreat.Z
set_option maxRecDepth 100000
set_option maxHeartbeats 8000000
open Go.RowKit Go.Proofs.YtchpkjgibloleaaGreatW.PrintWords Go.Proofs.YtchpkjgibloleaaGreatW.PrintLast Go.Proofs.YtchpkjgibloleaaGreatW.PrintMore
attribute [local go_sem] Qb2 Qb9
set_option linter.unusedVariables false
set_option linter.unusedSimpArgs false
open Go.Proofs.YtchpkjgibloleaaGreat.Open Go.ChangeShapes
def good41 (x : S41) : Prop := (fun n_ : Int => (Lit.int .i64 n_).wf = true) x.f0 ∧ (fun n_ : Int => (Lit.int .i64 n_).wf = true) x.f1 ∧ (fun n_ : Int => (Lit.int .i64 n_).wf = true) x.f2 ∧ (fun n_ : Int => (Lit.int .i64 n_).wf = true) x.f3 ∧ (fun n_ : Int => (Lit.int .i64 n_).wf = true) x.f4
theorem opens41 : Qei Tryz.prog 41 k41 good41 := Qci Tryz.underlying41 (by kernel_rfl) (Qb0 rfl (by kernel_rfl) (Qb4 Tryz.underlying3) (Qb0 rfl (by kernel_rfl) (Qb4 Tryz.underlying3) (Qb0 rfl (by kernel_rfl) (Qb4 Tryz.underlying3) (Qb0 rfl (by kernel_rfl) (Qb4 Tryz.underlying3) (Qcv rfl (by kernel_rfl) (Qb4 Tryz.underlying2)))))) (fun x : S41 => (x.f0, x.f1, x.f2, x.f3, x.f4)) (fun a => ⟨a.1, a.2.1, a.2.2.1, a.2.2.2.1, a.2.2.2.2⟩) (fun _ => rfl)
def good37 (x : S37) : Prop := (fun n_ : Int => (Lit.int .i64 n_).wf = true) x.f0 ∧ (fun n_ : Int => (Lit.int .i64 n_).wf = true) x.f1 ∧ (fun n_ : Int => (Lit.int .i64 n_).wf = true) x.f2 ∧ (fun n_ : Int => (Lit.int .i64 n_).wf = true) x.f3
theorem opens37 : Qei Tryz.prog 37 k37 good37 := Qci Tryz.underlying37 (by kernel_rfl) (Qb0 rfl (by kernel_rfl) (Qb4 Tryz.underlying3) (Qb0 rfl (by kernel_rfl) (Qb4 Tryz.underlying3) (Qb0 rfl (by kernel_rfl) (Qb4 Tryz.underlying3) (Qcv rfl (by kernel_rfl) (Qb4 Tryz.underlying3))))) (fun x : S37 => (x.f0, x.f1, x.f2, x.f3)) (fun a => ⟨a.1, a.2.1, a.2.2.1, a.2.2.2⟩) (fun _ => rfl)
def good39 (x : S39) : Prop := (fun xs_ : List S41 => xs_.length ≤ maxLen ∧ ∀ x_ ∈ xs_, good41 x_) x.f0 ∧ good37 x.f1
theorem opens39 : Qei Tryz.prog 39 k39 good39 := Qci Tryz.underlying39 (by kernel_rfl) (Qb0 rfl (by kernel_rfl) (Qc7 Tryz.underlying35 (by kernel_rfl) opens41) (Qcv rfl (by kernel_rfl) opens37)) (fun x : S39 => (x.f0, x.f1)) (fun a => ⟨a.1, a.2⟩) (fun _ => rfl)
def good24 (x : S24) : Prop := (fun n_ : Int => (Lit.int .i64 n_).wf = true) x.f0 ∧ (fun n_ : Int => (Lit.int .i64 n_).wf = true) x.f1 ∧ (fun xs_ : List S39 => xs_.length ≤ maxLen ∧ ∀ x_ ∈ xs_, good39 x_) x.f2
theorem opens24 : Qei Tryz.prog 24 k24 good24 := Qci Tryz.underlying24 (by kernel_rfl) (Qb0 rfl (by kernel_rfl) (Qb4 Tryz.underlying3) (Qb0 rfl (by kernel_rfl) (Qb4 Tryz.underlying3) (Qcv rfl (by kernel_rfl) (Qc7 Tryz.underlying22 (by kernel_rfl) opens39)))) (fun x : S24 => (x.f0, x.f1, x.f2)) (fun a => ⟨a.1, a.2.1, a.2.2⟩) (fun _ => rfl)
def good59 (x : S59) : Prop := (fun n_ : Int => (Lit.int .i64 n_).wf = true) x.f0 ∧ (fun n_ : Int => (Lit.int .i64 n_).wf = true) x.f1 ∧ (fun n_ : Int => (Lit.int .i64 n_).wf = true) x.f2 ∧ (fun n_ : Int => (Lit.int .i64 n_).wf = true) x.f3 ∧ (fun n_ : Int => (Lit.int .i64 n_).wf = true) x.f4 ∧ (fun n_ : Int => (Lit.int .i64 n_).wf = true) x.f5 ∧ (fun n_ : Int => (Lit.int .i64 n_).wf = true) x.f6
theorem opens59 : Qei Tryz.prog 59 k59 good59 := Qci Tryz.underlying59 (by kernel_rfl) (Qb0 rfl (by kernel_rfl) (Qb4 Tryz.underlying3) (Qb0 rfl (by kernel_rfl) (Qb4 Tryz.underlying3) (Qb0 rfl (by kernel_rfl) (Qb4 Tryz.underlying3) (Qb0 rfl (by kernel_rfl) (Qb4 Tryz.underlying3) (Qb0 rfl (by kernel_rfl) (Qb4 Tryz.underlying2) (Qb0 rfl (by kernel_rfl) (Qb4 Tryz.underlying45) (Qcv rfl (by kernel_rfl) (Qb4 Tryz.underlying45)))))))) (fun x : S59 => (x.f0, x.f1, x.f2, x.f3, x.f4, x.f5, x.f6)) (fun a => ⟨a.1, a.2.1, a.2.2.1, a.2.2.2.1, a.2.2.2.2.1, a.2.2.2.2.2.1, a.2.2.2.2.2.2⟩) (fun _ => rfl)
def good57 (x : S57) : Prop := (fun xs_ : List S59 => xs_.length ≤ maxLen ∧ ∀ x_ ∈ xs_, good59 x_) x.f0 ∧ good37 x.f1
theorem opens57 : Qei Tryz.prog 57 k57 good57 := Qci Tryz.underlying57 (by kernel_rfl) (Qb0 rfl (by kernel_rfl) (Qc7 Tryz.underlying54 (by kernel_rfl) opens59) (Qcv rfl (by kernel_rfl) opens37)) (fun x : S57 => (x.f0, x.f1)) (fun a => ⟨a.1, a.2⟩) (fun _ => rfl)
def good27 (x : S27) : Prop := (fun n_ : Int => (Lit.int .i64 n_).wf = true) x.f0 ∧ (fun n_ : Int => (Lit.int .i64 n_).wf = true) x.f1 ∧ (fun n_ : Int => (Lit.int .i64 n_).wf = true) x.f2 ∧ (fun xs_ : List S57 => xs_.length ≤ maxLen ∧ ∀ x_ ∈ xs_, good57 x_) x.f3
theorem opens27 : Qei Tryz.prog 27 k27 good27 := Qci Tryz.underlying27 (by kernel_rfl) (Qb0 rfl (by kernel_rfl) (Qb4 Tryz.underlying3) (Qb0 rfl (by kernel_rfl) (Qb4 Tryz.underlying3) (Qb0 rfl (by kernel_rfl) (Qb4 Tryz.underlying3) (Qcv rfl (by kernel_rfl) (Qc7 Tryz.underlying25 (by kernel_rfl) opens57))))) (fun x : S27 => (x.f0, x.f1, x.f2, x.f3)) (fun a => ⟨a.1, a.2.1, a.2.2.1, a.2.2.2⟩) (fun _ => rfl)
def good47 (x : S47) : Prop := (fun n_ : Int => (Lit.int .i64 n_).wf = true) x.f0 ∧ (fun n_ : Int => (Lit.int .i64 n_).wf = true) x.f1
theorem opens47 : Qei Tryz.prog 47 k47 good47 := Qci Tryz.underlying47 (by kernel_rfl) (Qb0 rfl (by kernel_rfl) (Qb4 Tryz.underlying3) (Qcv rfl (by kernel_rfl) (Qb4 Tryz.underlying45))) (fun x : S47 => (x.f0, x.f1)) (fun a => ⟨a.1, a.2⟩) (fun _ => rfl)
def good30 (x : S30) : Prop := good24 x.f0 ∧ good27 x.f1 ∧ (fun xs_ : List (List (S47)) => xs_.length ≤ maxLen ∧ ∀ x_ ∈ xs_, (fun xs_ : List S47 => xs_.length ≤ maxLen ∧ ∀ x_ ∈ xs_, good47 x_) x_) x.f2
theorem opens30 : Qei Tryz.prog 30 k30 good30 := Qci Tryz.underlying30 (by kernel_rfl) (Qb0 rfl (by kernel_rfl) opens24 (Qb0 rfl (by kernel_rfl) opens27 (Qcv rfl (by kernel_rfl) (Qc7 Tryz.underlying28 (by kernel_rfl) (Qc7 Tryz.underlying44 (by kernel_rfl) opens47))))) (fun x : S30 => (x.f0, x.f1, x.f2)) (fun a => ⟨a.1, a.2.1, a.2.2⟩) (fun _ => rfl)
end Go.Proofs.YtchpkjgibloleaaGreat.Z
namespace Go.Proofs.YtchpkjgibloleaaGreat.wholeUnreachable
set_option maxRecDepth 100000
set_option maxHeartbeats 8000000
open Go.ChangeShapes Go.WideShapes Go.ChangeAt Go.RowKit Go.Proofs.YtchpkjgibloleaaGreat.Open Go.Proofs.YtchpkjgibloleaaGreat.Z Go.Proofs.YtchpkjgibloleaaGreatW.PrintWords
set_option linter.unusedVariables false
theorem own : ownKnob Tryz.prog.godebug = none := by kernel_rfl
theorem laidOut : laidOutB Tryz.prog = true := by kernel_rfl
theorem lifted (PURE : ∀ (x0 : S30) (a1 : Int) (a2 : Int), good30 x0 → (fun n_ : Int => (Lit.int .u8 n_).wf = true) a1 → (fun n_ : Int => (Lit.int .u8 n_).wf = true) a2 → ∃ k, Qac.f k x0.f0.f0 x0.f0.f1 x0.f0.f2 x0.f1.f0 x0.f1.f1 x0.f1.f2 x0.f1.f3 x0.f2 a1 a2 = some true) (os : Os) (started : os.Started) (H : Type) (enc : TypeId × Value → H) :
    ReturnsInHanded {} Tryz.checked os 6 .any (Rows.wholeUnreachableSpec.pre6 enc Tryz.prog Tryz.f6 Rows.wholeUnreachableRow.domain false) (Rows.wholeUnreachableSpec.post enc Tryz.prog Tryz.f6 false true false false) := by
 refine returnsInHanded_of_change_sized (C := Tryz.checked) own started (by kernel_rfl) Tryz.func6
  (ChangeSpec.witness6 (enc := enc) (C := Tryz.checked) false ⟨#[], #[(.agg #[(.int .i64 0), (.int .i64 0), (.slice none 0 0), (.int .i64 0), (.int .i64 0), (.int .i64 0), (.slice none 0 0), (.slice none 0 0)]), (.int .u8 0), (.int .u8 0)], []⟩ 8 (by kernel_rfl) (by kernel_rfl) (by kernel_rfl) (by kernel_rfl)) ?_
 intro W base args ds gs before hval0 hW hcnd hsz0 _
 have hval : ∀ (j : Nat) t v, Tryz.f6.params[j]? = some t → args[j]? = some v → Value.okWide Tryz.prog W .any base t v := hval0
 have hW' := hW
 obtain ⟨p, q, hA0, hV, rfl, hfz, hnd⟩ := hW
 have hA : DataW.TrodAll enc Tryz.prog W 0 (fun _ => true) true Tryz.f6.params.toList args.toList ds p := hA0
 rw [Tryz.params6] at hA hval
 obtain ⟨v0, vs0, d0, ds0, p0, q0, hargs, rfl, rfl, h0, r0⟩ := trodAll_cons hA
 obtain ⟨v1, vs1, d1, ds1, p1, q1, rfl, rfl, rfl, h1, r1⟩ := trodAll_cons r0
 obtain ⟨v2, vs2, d2, ds2, p2, q2, rfl, rfl, rfl, h2, r2⟩ := trodAll_cons r1
 obtain ⟨rfl, rfl, rfl⟩ := trodAll_nil r2
 obtain rfl : args = #[v0, v1, v2] := by cases args; simp_all
 obtain ⟨rfl, rfl⟩ := trodVars_none hV
 have k0 := h0
 have lt0 : ∀ x ∈ p0, x.block < W.heap.size := by obtain ⟨m, hm⟩ := k0; exact DataW.trod_lt m _ _ _ hm
 obtain ⟨cs0, x0, rfl, hk0, g0⟩ := arg_struct Tryz.underlying30 opens30 (hval 0 30 v0 rfl rfl) h0
 obtain ⟨A0_2, c0_2, A0_6, c0_6, A0_7, c0_7, rfl, hl0_2, hC0_2, hl0_6, hC0_6, hl0_7, hC0_7⟩ := k30_open hk0
 have k1 := h1
 have lt1 : ∀ x ∈ p1, x.block < W.heap.size := by obtain ⟨m, hm⟩ := k1; exact DataW.trod_lt m _ _ _ hm
 obtain ⟨a1, rfl, rfl, rfl, g1⟩ := open_int Tryz.underlying5 (hval 1 5 v1 rfl rfl) h1
 have k2 := h2
 have lt2 : ∀ x ∈ p2, x.block < W.heap.size := by obtain ⟨m, hm⟩ := k2; exact DataW.trod_lt m _ _ _ hm
 obtain ⟨a2, rfl, rfl, rfl, g2⟩ := open_int Tryz.underlying5 (hval 2 5 v2 rfl rfl) h2
 clear hA0 hval0 hsz0
 obtain ⟨k, hf⟩ := PURE x0 a1 a2 g0 g1 g2
 refine (Qac.calls k (x0.f0.f0) (x0.f0.f1) A0_2 c0_2 (x0.f0.f2) (x0.f1.f0) (x0.f1.f1) (x0.f1.f2) A0_6 c0_6 (x0.f1.f3) A0_7 c0_7 (x0.f2) a1 a2 true W hC0_2 hl0_2 hC0_6 hl0_6 hC0_7 hl0_7 hf).mono fun e W' ⟨he, bel0⟩ => ?_
 have bel := bel0
 subst he
 exact ⟨_, rfl, _, _, _, [], _, [], hW', trodAll_mk1 (shut_bool Tryz.underlying4 _), (trodAll_cons_mk (Below.trod laidOut (by kernel_rfl) (of_decide_eq_true (by kernel_rfl)) k0 bel lt0) (trodAll_cons_mk (Below.trod laidOut (by kernel_rfl) (of_decide_eq_true (by kernel_rfl)) k1 bel lt1) (trodAll_cons_mk (Below.trod laidOut (by kernel_rfl) (of_decide_eq_true (by kernel_rfl)) k2 bel lt2) trodAll_mk0))), rfl, bel.frame _, fun h => by cases h⟩
theorem over (PURE : ∀ (x0 : S30) (a1 : Int) (a2 : Int), good30 x0 → (fun n_ : Int => (Lit.int .u8 n_).wf = true) a1 → (fun n_ : Int => (Lit.int .u8 n_).wf = true) a2 → ∃ k, Qac.f k x0.f0.f0 x0.f0.f1 x0.f0.f2 x0.f1.f0 x0.f1.f1 x0.f1.f2 x0.f1.f3 x0.f2 a1 a2 = some true) : Rows.wholeUnreachableRow.holds Tryz.pinned (OpenSpec.ofChange Rows.wholeUnreachableSpec) :=
 OpenClaim.holds_of_wide 6 Tryz.f6 rfl rfl rfl rfl rfl rfl rfl ⟨rfl, rfl, rfl, rfl, rfl⟩ rfl rfl rfl rfl rfl (by kernel_rfl) Tryz.func6 (by kernel_rfl)
  (of_decide_eq_true (by kernel_rfl)) (by unfold Func.isWrapper; first | (rw [if_pos (by decide +kernel)]; kernel_rfl) | (rw [if_neg (by decide +kernel)]; exact ⟨rfl, rfl⟩))
  (fun os started H enc _ => lifted PURE os started H enc)
end Go.Proofs.YtchpkjgibloleaaGreat.wholeUnreachable
namespace Go.Proofs.YtchpkjgibloleaaGreat.Z
set_option maxRecDepth 100000
set_option maxHeartbeats 8000000
open Go.RowKit Go.Proofs.YtchpkjgibloleaaGreatW.PrintWords Go.Proofs.YtchpkjgibloleaaGreatW.PrintLast Go.Proofs.YtchpkjgibloleaaGreatW.PrintMore
attribute [local go_sem] Qb2 Qb9
set_option linter.unusedVariables false
set_option linter.unusedSimpArgs false
theorem w64i {n : Int} (h1 : -9223372036854775808 ≤ n) (h2 : n ≤ 9223372036854775807) : wrap64 n = n := by unfold wrap64; omega
theorem Ev.pos {α : Type} {c : Prop} [Decidable c] {f g : Nat → Option α} {r : α} (h : c) (k : Ev f r) : Ev (fun n => if c then f n else g n) r := by
 obtain ⟨K, k⟩ := k
 exact ⟨K, fun n hn => by simp only [if_pos h]; exact k n hn⟩
theorem Ev.neg {α : Type} {c : Prop} [Decidable c] {f g : Nat → Option α} {r : α} (h : ¬ c) (k : Ev g r) : Ev (fun n => if c then f n else g n) r := by
 obtain ⟨K, k⟩ := k
 exact ⟨K, fun n hn => by simp only [if_neg h]; exact k n hn⟩
theorem Ev.val {α : Type} {v r : α} (h : v = r) : Ev (fun _ => some v) r := ⟨0, fun _ _ => by rw [h]⟩
theorem Ev.then {α β : Type} {g : Nat → Option α} {f : Nat → α → Option β} {a : α} {r : β} (h : Ev g a) (k : Ev (fun n => f n a) r) : Ev (fun n => (g n).bind (f n)) r := by
 obtain ⟨K, h⟩ := h
 obtain ⟨L, k⟩ := k
 exact ⟨K + L, fun n hn => by show (g n).bind (f n) = some r; rw [h n (by omega)]; exact k n (by omega)⟩
theorem Ev.up {α : Type} {f g : Nat → Option α} {r : α} (h : ∀ k, f (k + 1) = g k) (k : Ev g r) : Ev f r := by
 obtain ⟨K, k⟩ := k
 exact ⟨K + 1, fun n hn => by obtain ⟨m, rfl⟩ : ∃ m, n = m + 1 := ⟨n - 1, by omega⟩; rw [h]; exact k m (by omega)⟩
theorem code07_ev (a r : Int) (l : List S39) (hl : l.length ≤ 9223372036854775807) : ∀ (n i : Nat) (x : Int), l.length - i = n → i ≤ l.length → ∃ v, Ev (fun k => Qbe.l0 k x (i : Int) a r l) v := by
 intro n
 induction n with
 | zero =>
  intro i x hn hi
  refine ⟨x, Ev.up (g := fun k => _) (fun k => rfl) ?_⟩
  exact Ev.neg (by omega) (Ev.val rfl)
 | succ n ih =>
  intro i x hn hi
  have hw : wrap64 ((i : Int) + 1) = ((i + 1 : Nat) : Int) := by rw [w64i (by omega) (by omega)]; omega
  obtain ⟨v, hv⟩ := ih (i + 1) (wrap64 (x + (((Qap l i).f0).length : Int))) (by omega) (by omega)
  refine ⟨v, Ev.up (g := fun k => _) (fun k => rfl) (Ev.pos (by omega) (Ev.pos (by omega) ?_))⟩
  rw [hw]; exact hv
theorem code08_ev (a r s : Int) (l : List S57) (hl : l.length ≤ 9223372036854775807) : ∀ (n i : Nat) (x : Int), l.length - i = n → i ≤ l.length → ∃ v, Ev (fun k => Qbd.l0 k x (i : Int) a r s l) v := by
 intro n
 induction n with
 | zero =>
  intro i x hn hi
  refine ⟨x, Ev.up (g := fun k => _) (fun k => rfl) ?_⟩
  exact Ev.neg (by omega) (Ev.val rfl)
 | succ n ih =>
  intro i x hn hi
  have hw : wrap64 ((i : Int) + 1) = ((i + 1 : Nat) : Int) := by rw [w64i (by omega) (by omega)]; omega
  obtain ⟨v, hv⟩ := ih (i + 1) (wrap64 (x + (((Qam l i).f0).length : Int))) (by omega) (by omega)
  refine ⟨v, Ev.up (g := fun k => _) (fun k => rfl) (Ev.pos (by omega) (Ev.pos (by omega) ?_))⟩
  rw [hw]; exact hv
theorem j07_true (a r : Int) (l : List S39) : Ev (fun k => Qau.j0 k true a r l) false := ⟨1, fun n hn => by obtain ⟨m, rfl⟩ : ∃ m, n = m + 1 := ⟨n - 1, by omega⟩; rfl⟩
theorem j08_true (a r s : Int) (l : List S57) : Ev (fun k => Qar.j0 k true a r s l) false := ⟨1, fun n hn => by obtain ⟨m, rfl⟩ : ∃ m, n = m + 1 := ⟨n - 1, by omega⟩; rfl⟩
theorem j15_false (l : List (List S47)) (i : Int) : Ev (fun k => Qa2.j1 k l i false) (decide ((l.length : Int) ≤ 40)) := ⟨1, fun n hn => by obtain ⟨m, rfl⟩ : ∃ m, n = m + 1 := ⟨n - 1, by omega⟩; rfl⟩
theorem few07_ev (a r : Int) (l : List S39) (hl : l.length ≤ 9223372036854775807) : ∀ (n i : Nat), l.length - i = n → i ≤ l.length →
    ∃ b, Ev (fun k => Qau.l0 k (i : Int) a r l) b ∧ (b = true → ∀ j : Nat, i ≤ j → j < l.length → (Qap l (j : Int)).f0.length ≤ 100) := by
 intro n
 induction n with
 | zero =>
  intro i hn hi
  obtain ⟨v, hv⟩ := code07_ev a r l hl _ 0 0 rfl (by omega)
  refine ⟨decide (v ≤ 300), Ev.up (g := fun k => _) (fun k => rfl) (Ev.neg (by omega) (Ev.then (a := v) hv (Ev.val rfl))), fun _ j h1 h2 => by omega⟩
 | succ n ih =>
  intro i hn hi
  have hw : wrap64 ((i : Int) + 1) = ((i + 1 : Nat) : Int) := by rw [w64i (by omega) (by omega)]; omega
  by_cases hb : (((Qap l (i : Int)).f0).length : Int) > 100
  ·exact ⟨false, Ev.up (g := fun k => _) (fun k => rfl) (Ev.pos (by omega) (Ev.pos (by omega) (Ev.pos hb (Ev.val rfl)))), by simp⟩
  ·obtain ⟨b, hv, hh⟩ := ih (i + 1) (by omega) (by omega)
   refine ⟨b, Ev.up (g := fun k => _) (fun k => rfl) (Ev.pos (by omega) (Ev.pos (by omega) (Ev.neg hb ?_))), fun hbt j h1 h2 => ?_⟩
   ·rw [hw]; exact hv
   ·rcases Nat.eq_or_lt_of_le h1 with rfl | h3
    ·omega
    ·exact hh hbt j h3 h2
theorem few07 (a r : Int) (l : List S39) (hl : l.length ≤ 9223372036854775807) :
    ∃ b, Ev (fun k => Qau.f k a r l) b ∧ (b = true → l.length ≤ 40 ∧ r ≤ 60 ∧ ∀ j : Nat, j < l.length → (Qap l (j : Int)).f0.length ≤ 100) := by
 unfold Qau.f
 by_cases h1 : (l.length : Int) > 40
 ·exact ⟨false, Ev.pos h1 (j07_true _ _ _), by simp⟩
 ·by_cases h2 : r > 60
  ·exact ⟨false, Ev.neg h1 (Ev.up (g := fun k => _) (fun k => rfl) (Ev.pos (by simpa using h2) (Ev.val rfl))), by simp⟩
  ·obtain ⟨b, hv, hh⟩ := few07_ev a r l hl _ 0 rfl (by omega)
   exact ⟨b, Ev.neg h1 (Ev.up (g := fun k => _) (fun k => rfl) (Ev.neg (by simpa using h2) hv)), fun hb => ⟨by omega, by omega, fun j hj => hh hb j (by omega) hj⟩⟩
theorem few08_ev (a r s : Int) (l : List S57) (hl : l.length ≤ 9223372036854775807) : ∀ (n i : Nat), l.length - i = n → i ≤ l.length →
    ∃ b, Ev (fun k => Qar.l0 k (i : Int) a r s l) b ∧ (b = true → ∀ j : Nat, i ≤ j → j < l.length → (Qam l (j : Int)).f0.length ≤ 300) := by
 intro n
 induction n with
 | zero =>
  intro i hn hi
  obtain ⟨v, hv⟩ := code08_ev a r s l hl _ 0 0 rfl (by omega)
  refine ⟨decide (v ≤ 900), Ev.up (g := fun k => _) (fun k => rfl) (Ev.neg (by omega) (Ev.then (a := v) hv (Ev.val rfl))), fun _ j h1 h2 => by omega⟩
 | succ n ih =>
  intro i hn hi
  have hw : wrap64 ((i : Int) + 1) = ((i + 1 : Nat) : Int) := by rw [w64i (by omega) (by omega)]; omega
  by_cases hb : (((Qam l (i : Int)).f0).length : Int) > 300
  ·exact ⟨false, Ev.up (g := fun k => _) (fun k => rfl) (Ev.pos (by omega) (Ev.pos (by omega) (Ev.pos hb (Ev.val rfl)))), by simp⟩
  ·obtain ⟨b, hv, hh⟩ := ih (i + 1) (by omega) (by omega)
   refine ⟨b, Ev.up (g := fun k => _) (fun k => rfl) (Ev.pos (by omega) (Ev.pos (by omega) (Ev.neg hb ?_))), fun hbt j h1 h2 => ?_⟩
   ·rw [hw]; exact hv
   ·rcases Nat.eq_or_lt_of_le h1 with rfl | h3
    ·omega
    ·exact hh hbt j h3 h2
theorem few08 (a r s : Int) (l : List S57) (hl : l.length ≤ 9223372036854775807) :
    ∃ b, Ev (fun k => Qar.f k a r s l) b ∧ (b = true → l.length ≤ 40 ∧ r ≤ 60 ∧ s ≤ 60 ∧ ∀ j : Nat, j < l.length → (Qam l (j : Int)).f0.length ≤ 300) := by
 unfold Qar.f
 by_cases h1 : (l.length : Int) > 40
 ·exact ⟨false, Ev.pos h1 (j08_true _ _ _ _), by simp⟩
 ·by_cases h2 : r > 60
  ·exact ⟨false, Ev.neg h1 (Ev.pos h2 (j08_true _ _ _ _)), by simp⟩
  ·by_cases h3 : s > 60
   ·exact ⟨false, Ev.neg h1 (Ev.neg h2 (Ev.up (g := fun k => _) (fun k => rfl) (Ev.pos (by simpa using h3) (Ev.val rfl)))), by simp⟩
   ·obtain ⟨b, hv, hh⟩ := few08_ev a r s l hl _ 0 rfl (by omega)
    exact ⟨b, Ev.neg h1 (Ev.neg h2 (Ev.up (g := fun k => _) (fun k => rfl) (Ev.neg (by simpa using h3) hv))), fun hb => ⟨by omega, by omega, by omega, fun j hj => hh hb j (by omega) hj⟩⟩
theorem few15_ev (l : List (List S47)) (hl : l.length ≤ 9223372036854775807) : ∀ (n i : Nat), l.length - i = n → i ≤ l.length → i ≤ 41 →
    ∃ b, Ev (fun k => Qa2.l0 k l (i : Int)) b ∧ (b = true → l.length ≤ 40 ∧ ∀ j : Nat, i ≤ j → j < l.length → (Qa4 l (j : Int)).length ≤ 400) := by
 intro n
 induction n with
 | zero =>
  intro i hn hi h41
  refine ⟨decide ((l.length : Int) ≤ 40), Ev.up (g := fun k => _) (fun k => rfl) (Ev.neg (by omega) (j15_false _ _)), fun h => ⟨by simp at h; omega, fun j h1 h2 => by omega⟩⟩
 | succ n ih =>
  intro i hn hi h41
  have hw : wrap64 ((i : Int) + 1) = ((i + 1 : Nat) : Int) := by rw [w64i (by omega) (by omega)]; omega
  by_cases h40 : (i : Int) ≤ 40
  ·by_cases hb : ((Qa4 l (i : Int)).length : Int) > 400
   ·exact ⟨false, Ev.up (g := fun k => _) (fun k => rfl) (Ev.pos (by omega) (Ev.up (g := fun k => _) (fun k => rfl) (Ev.pos (by simpa using h40) (Ev.pos (by omega) (Ev.pos (by omega) (Ev.pos hb (Ev.val rfl))))))), by simp⟩
   ·obtain ⟨b, hv, hh⟩ := ih (i + 1) (by omega) (by omega) (by omega)
    refine ⟨b, Ev.up (g := fun k => _) (fun k => rfl) (Ev.pos (by omega) (Ev.up (g := fun k => _) (fun k => rfl) (Ev.pos (by simpa using h40) (Ev.pos (by omega) (Ev.pos (by omega) (Ev.neg hb ?_)))))), fun hbt => ⟨(hh hbt).1, fun j h1 h2 => ?_⟩⟩
    ·rw [hw]; exact hv
    ·rcases Nat.eq_or_lt_of_le h1 with rfl | h3
     ·omega
     ·exact (hh hbt).2 j h3 h2
  ·exact ⟨false, Ev.up (g := fun k => _) (fun k => rfl) (Ev.pos (by omega) (Ev.up (g := fun k => _) (fun k => rfl) (Ev.neg (by simpa using h40) (Ev.val (by simp; omega))))), by simp⟩
theorem few16 (a0 a1 : Int) (l2 : List S39) (a3 a4 a5 : Int) (l6 : List S57) (l7 : List (List S47)) (h2 : l2.length ≤ 9223372036854775807) (h6 : l6.length ≤ 9223372036854775807) (h7 : l7.length ≤ 9223372036854775807) :
    ∃ b, Ev (fun k => regcertref16_Few.f k a0 a1 l2 a3 a4 a5 l6 l7) b ∧ (b = true → (l2.length ≤ 40 ∧ a1 ≤ 60 ∧ ∀ j : Nat, j < l2.length → (Qap l2 (j : Int)).f0.length ≤ 100) ∧
     (l6.length ≤ 40 ∧ a4 ≤ 60 ∧ a5 ≤ 60 ∧ ∀ j : Nat, j < l6.length → (Qam l6 (j : Int)).f0.length ≤ 300) ∧ (l7.length ≤ 40 ∧ ∀ j : Nat, j < l7.length → (Qa4 l7 (j : Int)).length ≤ 400)) := by
 unfold regcertref16_Few.f
 obtain ⟨b1, e1, q1⟩ := few07 a0 a1 l2 h2
 obtain ⟨b2, e2, q2⟩ := few08 a3 a4 a5 l6 h6
 obtain ⟨b3, e3, q3⟩ := few15_ev l7 h7 _ 0 rfl (by omega) (by omega)
 cases b1 with
 | false => exact ⟨false, Ev.then e1 (Ev.neg (by simp) (Ev.val rfl)), by simp⟩
 | true => cases b2 with
  | false => exact ⟨false, Ev.then e1 (Ev.pos rfl (Ev.then e2 (Ev.neg (by simp) (Ev.val rfl)))), by simp⟩
  | true => exact ⟨b3, Ev.then e1 (Ev.pos rfl (Ev.then e2 (Ev.pos rfl (Ev.then e3 (Ev.val rfl))))), fun hb => ⟨q1 rfl, q2 rfl, (q3 hb).1, fun j hj => (q3 hb).2 j (by omega) hj⟩⟩
end Go.Proofs.YtchpkjgibloleaaGreat.Z
namespace Go.Proofs.YtchpkjgibloleaaGreat.Z
set_option maxRecDepth 100000
set_option maxHeartbeats 8000000
open Go.RowKit Go.Proofs.YtchpkjgibloleaaGreatW.PrintWords Go.Proofs.YtchpkjgibloleaaGreatW.PrintLast Go.Proofs.YtchpkjgibloleaaGreatW.PrintMore
set_option linter.unusedVariables false
set_option linter.unusedSimpArgs false
def An (f : Nat → Option Int) (P : Prop) : Prop := ∃ r, Ev f r ∧ (r = 0 ↔ P)
def Ab (f : Nat → Option Bool) (P : Prop) : Prop := ∃ r, Ev f r ∧ (r = true ↔ P)
theorem w64s {n i : Nat} (hn : n ≤ 4611686018427387904) (h : i < n) : wrap64 ((i : Int) + 1) = ((i + 1 : Nat) : Int) := by rw [w64i (by omega) (by omega)]; omega
theorem An.loop {L G : Nat → Int → Option Int} {D : Nat → Option Int} {n : Nat} {P : Nat → Prop} {Q : Prop} (hn : n ≤ 4611686018427387904)
    (hs : ∀ k i, L (k + 1) i = if i < (n : Int) then (if 0 ≤ i then (if i < (n : Int) then (G k i).bind (fun t => if t = 0 then L k (wrap64 (i + 1)) else some t) else none) else none) else D k)
    (hg : ∀ i : Nat, i < n → An (fun k => G k (i : Int)) (P i)) (hd : An D Q) : An (fun k => L k 0) ((∀ i, i < n → P i) ∧ Q) := by
 have go : ∀ m i, n - i = m → i ≤ n → An (fun k => L k (i : Int)) ((∀ j, i ≤ j → j < n → P j) ∧ Q) := by
  intro m
  induction m with
  | zero =>
   intro i hm hi
   obtain ⟨r, hr, he⟩ := hd
   exact ⟨r, Ev.up (fun k => hs k _) (Ev.neg (by omega) hr), he.trans ⟨fun h => ⟨fun j h1 h2 => by omega, h⟩, fun h => h.2⟩⟩
  | succ m ih =>
   intro i hm hi
   obtain ⟨t, ht, he⟩ := hg i (by omega)
   by_cases h0 : t = 0
   ·obtain ⟨r, hr, hq⟩ := ih (i + 1) (by omega) (by omega)
    refine ⟨r, Ev.up (fun k => hs k _) (Ev.pos (by omega) (Ev.pos (by omega) (Ev.pos (by omega) (Ev.then ht (Ev.pos h0 (by rw [w64s hn (by omega)]; exact hr)))))), hq.trans ⟨fun h => ⟨fun j h1 h2 => ?_, h.2⟩, fun h => ⟨fun j h1 h2 => h.1 j (by omega) h2, h.2⟩⟩⟩
    rcases Nat.eq_or_lt_of_le h1 with rfl | h3
    ·exact he.1 h0
    ·exact h.1 j h3 h2
   ·exact ⟨t, Ev.up (fun k => hs k _) (Ev.pos (by omega) (Ev.pos (by omega) (Ev.pos (by omega) (Ev.then ht (Ev.neg h0 (Ev.val rfl)))))), ⟨fun h => absurd h h0, fun h => absurd (he.2 (h.1 i (by omega) (by omega))) h0⟩⟩
 obtain ⟨r, hr, hq⟩ := go n 0 (by omega) (by omega)
 exact ⟨r, hr, hq.trans ⟨fun h => ⟨fun j hj => h.1 j (by omega) hj, h.2⟩, fun h => ⟨fun j _ hj => h.1 j hj, h.2⟩⟩⟩
theorem Ab.loop {L : Nat → Int → Option Bool} {J : Nat → Int → Bool → Option Bool} {n : Nat} {x : Nat → Bool} (hn : n ≤ 4611686018427387904)
    (hs : ∀ (i : Nat), i < n → ∀ r, Ev (fun k => J k (i : Int) (x i)) r → Ev (fun k => L k (i : Int)) r) (he : ∀ k, L (k + 1) (n : Int) = some true)
    (hj : ∀ k i b, J (k + 1) i b = if b = true then some false else L k (wrap64 (i + 1))) : Ab (fun k => L k 0) (∀ i, i < n → x i = false) := by
 have go : ∀ m i, n - i = m → i ≤ n → Ab (fun k => L k (i : Int)) (∀ j, i ≤ j → j < n → x j = false) := by
  intro m
  induction m with
  | zero =>
   intro i hm hi
   obtain rfl : i = n := by omega
   exact ⟨true, Ev.up he (Ev.val rfl), ⟨fun _ j h1 h2 => by omega, fun _ => rfl⟩⟩
  | succ m ih =>
   intro i hm hi
   cases hx : x i with
   | true => exact ⟨false, hs i (by omega) _ (Ev.up (fun k => hj k _ _) (Ev.pos hx (Ev.val rfl))), ⟨fun h => (by cases h), fun h => (by have := h i (by omega) (by omega); rw [hx] at this; cases this)⟩⟩
   | false =>
    obtain ⟨r, hr, hq⟩ := ih (i + 1) (by omega) (by omega)
    refine ⟨r, hs i (by omega) _ (Ev.up (fun k => hj k _ _) (Ev.neg (by simp [hx]) (by rw [w64s hn (by omega)]; exact hr))), hq.trans ⟨fun h j h1 h2 => ?_, fun h j h1 h2 => h j (by omega) h2⟩⟩
    rcases Nat.eq_or_lt_of_le h1 with rfl | h3
    ·exact hx
    ·exact h j h3 h2
 obtain ⟨r, hr, hq⟩ := go n 0 (by omega) (by omega)
 exact ⟨r, hr, hq.trans ⟨fun h j hj => h j (by omega) hj, fun h j _ hj => h j hj⟩⟩
theorem sum_loop {L : Nat → Int → Int → Option Int} {n : Nat} {x : Nat → Nat} (hn : n ≤ 1000) (hx : ∀ i, i < n → x i ≤ 1000)
    (hs : ∀ k (i : Nat) (s : Int), L (k + 1) s (i : Int) = if (i : Int) < (n : Int) then (if 0 ≤ (i : Int) then (if (i : Int) < (n : Int) then L k (wrap64 (s + (x i : Int))) (wrap64 ((i : Int) + 1)) else none) else none) else some s) :
    ∃ v, Ev (fun k => L k 0 0) v ∧ 0 ≤ v ∧ v ≤ 1000 * n := by
 have go : ∀ m (i : Nat) (s : Int), n - i = m → i ≤ n → 0 ≤ s → s ≤ 1000 * i → ∃ v, Ev (fun k => L k s (i : Int)) v ∧ 0 ≤ v ∧ v ≤ 1000 * n := by
  intro m
  induction m with
  | zero =>
   intro i s hm hi h0 h1
   exact ⟨s, Ev.up (fun k => hs k _ _) (Ev.neg (by omega) (Ev.val rfl)), h0, by omega⟩
  | succ m ih =>
   intro i s hm hi h0 h1
   have hxi := hx i (by omega)
   have hw : wrap64 (s + (x i : Int)) = s + (x i : Int) := w64i (by omega) (by omega)
   obtain ⟨v, hv, hb⟩ := ih (i + 1) (s + (x i : Int)) (by omega) (by omega) (by omega) (by omega)
   refine ⟨v, Ev.up (fun k => hs k _ _) (Ev.pos (by omega) (Ev.pos (by omega) (Ev.pos (by omega) ?_))), hb⟩
   rw [hw, w64s (n := n) (by omega) (by omega)]; exact hv
 exact go n 0 0 (by omega) (by omega) (by omega) (by omega)
theorem within_ab (l : List S235) (h : l.length ≤ 1000) : Ab (fun k => Qah.f k l) (∀ i : Nat, i < l.length → ((Qa5 l (i : Int)).f1 = true → 0 ≤ (Qa5 l (i : Int)).f0 ∧ (Qa5 l (i : Int)).f0 < (Qa5 l (i : Int)).f2)) := by
 obtain ⟨r, hr, hq⟩ := Ab.loop (L := fun k i => Qah.l0 k l (l.length : Int) i) (J := fun k i b => Qah.j1 k l (l.length : Int) i b) (n := l.length)
  (x := fun i => if (Qa5 l (i : Int)).f1 = true then (if (Qa5 l (i : Int)).f0 < 0 then true else decide ((Qa5 l (i : Int)).f0 ≥ (Qa5 l (i : Int)).f2)) else false) (by omega)
  (fun i hi r h => Ev.up (g := fun k => _) (fun k => rfl) (Ev.pos (by omega) (Ev.pos (by omega) (Ev.pos (by omega) (by
   split at h
   ·split at h
    ·exact Ev.pos (by assumption) (Ev.pos (by assumption) h)
    ·exact Ev.pos (by assumption) (Ev.neg (by assumption) h)
   ·exact Ev.neg (by assumption) h)))))
  (fun k => if_neg (by omega)) (fun k i b => rfl)
 refine ⟨r, hr, hq.trans ⟨fun h i hi hf => ?_, fun h i hi => ?_⟩⟩
 ·have := h i hi
  rw [if_pos hf] at this
  split at this
  ·cases this
  ·simp at this; omega
 ·have := h i hi
  split
  ·have := this (by assumption)
   rw [if_neg (by omega)]; simp; omega
  ·rfl
theorem blank_ab (l : List S235) (h : l.length ≤ 1000) : Ab (fun k => Qaz.f k l) (∀ i : Nat, i < l.length → ((Qa5 l (i : Int)).f1 = true ∨ (Qa5 l (i : Int)).f0 = 0)) := by
 obtain ⟨r, hr, hq⟩ := Ab.loop (L := fun k i => Qaz.l0 k l (l.length : Int) i) (J := fun k i b => Qaz.j1 k l (l.length : Int) i b) (n := l.length)
  (x := fun i => if (Qa5 l (i : Int)).f1 = true then false else (Qa5 l (i : Int)).f0 != 0) (by omega)
  (fun i hi r h => Ev.up (g := fun k => _) (fun k => rfl) (Ev.pos (by omega) (Ev.pos (by omega) (Ev.pos (by omega) (by
   split at h
   ·exact Ev.pos (by assumption) h
   ·exact Ev.neg (by assumption) h)))))
  (fun k => if_neg (by omega)) (fun k i b => rfl)
 refine ⟨r, hr, hq.trans ⟨fun h i hi => ?_, fun h i hi => ?_⟩⟩
 ·have := h i hi
  split at this
  ·exact Or.inl (by assumption)
  ·exact Or.inr (by simpa using this)
 ·rcases h i hi with h1 | h1
  ·rw [if_pos h1]
  ·rw [h1]; split <;> rfl
def Qd3 (u : Bool) (r m : Int) : Prop := u = true → 0 ≤ r ∧ r < m
def okNil (u : Bool) (r : Int) : Prop := u = true ∨ r = 0
theorem Ab.iff {f : Nat → Option Bool} {P Q : Prop} (h : Ab f P) (e : P ↔ Q) : Ab f Q := h.imp fun _ h => ⟨h.1, h.2.trans e⟩
theorem An.iff {f : Nat → Option Int} {P Q : Prop} (h : An f P) (e : P ↔ Q) : An f Q := h.imp fun _ h => ⟨h.1, h.2.trans e⟩
theorem An.up {f g : Nat → Option Int} {P : Prop} (h : ∀ k, f (k + 1) = g k) (a : An g P) : An f P := a.imp fun _ a => ⟨Ev.up h a.1, a.2⟩
theorem An.zero : An (fun _ => some 0) True := ⟨0, Ev.val rfl, by simp⟩
theorem An.fail {r : Int} (h : r ≠ 0) : An (fun _ => some r) False := ⟨r, Ev.val rfl, by simp [h]⟩
theorem An.ite {c : Prop} [Decidable c] {f g : Nat → Option Int} {P Q : Prop} (h1 : c → An f P) (h2 : ¬ c → An g Q) : An (fun k => if c then f k else g k) (if c then P else Q) := by
 by_cases h : c
 ·obtain ⟨r, hr, hq⟩ := h1 h; exact ⟨r, Ev.pos h hr, by rw [if_pos h]; exact hq⟩
 ·obtain ⟨r, hr, hq⟩ := h2 h; exact ⟨r, Ev.neg h hr, by rw [if_neg h]; exact hq⟩
theorem An.test {c : Nat → Option Bool} {f : Nat → Option Int} {e : Int} {P Q : Prop} (he : e ≠ 0) (h1 : Ab c P) (h2 : P → An f Q) : An (fun k => (c k).bind fun t => if t = true then f k else some e) (P ∧ Q) := by
 obtain ⟨b, hb, hp⟩ := h1
 cases b with
 | true => obtain ⟨r, hr, hq⟩ := h2 (hp.1 rfl); exact ⟨r, Ev.then hb (Ev.pos rfl hr), hq.trans ⟨fun h => ⟨hp.1 rfl, h⟩, fun h => h.2⟩⟩
 | false => exact ⟨e, Ev.then hb (Ev.neg (by simp) (Ev.val rfl)), ⟨fun h => absurd h he, fun h => absurd (hp.2 h.1) (by simp)⟩⟩
theorem lt3 {P : Nat → Prop} : (∀ i : Nat, i < 3 → P i) ↔ P 0 ∧ P 1 ∧ P 2 := ⟨fun h => ⟨h 0 (by omega), h 1 (by omega), h 2 (by omega)⟩, fun h i hi => by
 match i, hi with
 | 0, _ => exact h.1
 | 1, _ => exact h.2.1
 | 2, _ => exact h.2.2⟩
theorem lt2 {P : Nat → Prop} : (∀ i : Nat, i < 2 → P i) ↔ P 0 ∧ P 1 := ⟨fun h => ⟨h 0 (by omega), h 1 (by omega)⟩, fun h i hi => by
 match i, hi with
 | 0, _ => exact h.1
 | 1, _ => exact h.2⟩
theorem lt1 {P : Nat → Prop} : (∀ i : Nat, i < 1 → P i) ↔ P 0 := ⟨fun h => h 0 (by omega), fun h i hi => by
 match i, hi with
 | 0, _ => exact h⟩
theorem within3 (a b c m n o : Int) (u v x : Bool) : Ab (fun k => Qah.f k [⟨a, u, m⟩, ⟨b, v, n⟩, ⟨c, x, o⟩]) (Qd3 u a m ∧ Qd3 v b n ∧ Qd3 x c o) :=
 (within_ab _ (by simp)).iff (lt3 (P := fun i => (Qa5 _ (i : Int)).f1 = true → 0 ≤ (Qa5 _ (i : Int)).f0 ∧ (Qa5 _ (i : Int)).f0 < (Qa5 _ (i : Int)).f2))
theorem within2 (a b m n : Int) (u v : Bool) : Ab (fun k => Qah.f k [⟨a, u, m⟩, ⟨b, v, n⟩]) (Qd3 u a m ∧ Qd3 v b n) :=
 (within_ab _ (by simp)).iff (lt2 (P := fun i => (Qa5 _ (i : Int)).f1 = true → 0 ≤ (Qa5 _ (i : Int)).f0 ∧ (Qa5 _ (i : Int)).f0 < (Qa5 _ (i : Int)).f2))
theorem within1 (a m : Int) (u : Bool) : Ab (fun k => Qah.f k [⟨a, u, m⟩]) (Qd3 u a m) :=
 (within_ab _ (by simp)).iff (lt1 (P := fun i => (Qa5 _ (i : Int)).f1 = true → 0 ≤ (Qa5 _ (i : Int)).f0 ∧ (Qa5 _ (i : Int)).f0 < (Qa5 _ (i : Int)).f2))
theorem blank3 (a b c m n o : Int) (u v x : Bool) : Ab (fun k => Qaz.f k [⟨a, u, m⟩, ⟨b, v, n⟩, ⟨c, x, o⟩]) (okNil u a ∧ okNil v b ∧ okNil x c) :=
 (blank_ab _ (by simp)).iff (lt3 (P := fun i => (Qa5 _ (i : Int)).f1 = true ∨ (Qa5 _ (i : Int)).f0 = 0))
def OF (a : Int) : Bool × Bool × Bool × Bool × Bool := (opcode_Of.f a).getD (false, false, false, false, false)
theorem of_some (a : Int) : opcode_Of.f a = some (OF a) := by
 unfold OF
 unfold opcode_Of.f Qbb.f
 by_cases h1 : a ≥ 1
 ·rw [if_pos h1]; simp only [Option.bind_some]; split
  ·split; rfl; split; rfl; split <;> rfl
  ·rfl
 ·rw [if_neg h1]; rfl
def isSrc (a : Int) : Prop := opcode_Source.f a = some true
theorem src_ab (a : Int) : Ab (fun _ => opcode_Source.f a) (isSrc a) := by
 have : ∃ b, opcode_Source.f a = some b := by
  unfold opcode_Source.f Qbb.f
  by_cases h1 : a ≥ 1
  ·rw [if_pos h1]; simp only [Option.bind_some]; split <;> exact ⟨_, rfl⟩
  ·rw [if_neg h1]; exact ⟨_, rfl⟩
 obtain ⟨b, hb⟩ := this
 exact ⟨b, ⟨0, fun _ _ => hb⟩, by unfold isSrc; rw [hb]; simp⟩
def okIns (a0 a1 a2 a3 a4 m : Int) : Prop := isSrc a0 ∧ (Qd3 (OF a0).1 a1 m ∧ Qd3 (OF a0).2.1 a2 m ∧ Qd3 (OF a0).2.2.1 a3 m) ∧ (okNil (OF a0).1 a1 ∧ okNil (OF a0).2.1 a2 ∧ okNil (OF a0).2.2.1 a3) ∧ okNil (OF a0).2.2.2.1 a4
theorem ins_j0 (b : Bool) : An (fun k => Qa6.j0 k b) (b = false) := An.up (g := fun _ => _) (fun k => rfl) (by cases b with
 | true => exact (An.fail (r := 12) (by decide)).iff (by simp)
 | false => exact An.zero.iff (by simp))
theorem srcInstr (a0 a1 a2 a3 a4 m : Int) : An (fun k => Qa6.f k a0 a1 a2 a3 a4 m) (okIns a0 a1 a2 a3 a4 m) := by
 unfold Qa6.f okIns
 simp only [of_some, Option.bind_some]
 refine An.test (by decide) (src_ab a0) fun _ => An.test (by decide) (within3 _ _ _ _ _ _ _ _ _) fun _ => ?_
 obtain ⟨b, hb, hp⟩ := blank3 a1 a2 a3 m m m (OF a0).1 (OF a0).2.1 (OF a0).2.2.1
 cases b with
 | false =>
  obtain ⟨r, hr, hq⟩ := ins_j0 true
  exact ⟨r, Ev.then hb (Ev.neg (by simp) hr), hq.trans ⟨fun h => by simp at h, fun h => absurd (hp.2 h.1) (by simp)⟩⟩
 | true =>
  by_cases h : (OF a0).2.2.2.1 = true
  ·obtain ⟨r, hr, hq⟩ := ins_j0 false
   exact ⟨r, Ev.then hb (Ev.pos rfl (Ev.pos h hr)), hq.trans ⟨fun _ => ⟨hp.1 rfl, Or.inl h⟩, fun _ => rfl⟩⟩
  ·obtain ⟨r, hr, hq⟩ := ins_j0 (a4 != 0)
   exact ⟨r, Ev.then hb (Ev.pos rfl (Ev.neg h hr)), hq.trans ⟨fun h0 => ⟨hp.1 rfl, Or.inr (by simpa using h0)⟩, fun h0 => by
    rcases h0.2 with h1 | h1
    ·exact absurd h1 h
    ·simp [h1]⟩⟩
def Qd8 (a0 a1 a2 a3 m n : Int) : Prop := (1 ≤ a0 ∧ a0 ≤ 3) ∧ Qd3 (a0 != 1) a1 m ∧ (Qd3 (a0 != 3) a2 n ∧ Qd3 (a0 == 2) a3 n) ∧ okNil (a0 != 1) a1 ∧ okNil (a0 != 3) a2 ∧ okNil (a0 == 2) a3
theorem term_j0 (b : Bool) (a1 m a2 n a3 : Int) (u v w : Bool) : An (fun k => Qbi.j0 k b a1 u m a2 v n a3 w n) (b = false ∧ Qd3 u a1 m ∧ (Qd3 v a2 n ∧ Qd3 w a3 n) ∧ okNil u a1 ∧ okNil v a2 ∧ okNil w a3) := by
 refine An.up (g := fun k => _) (fun k => by rw [Qbi.j0]) ?_
 cases b with
 | true =>
  apply An.iff
  ·exact An.ite (P := False) (Q := True) (fun _ => An.fail (by decide)) (fun h => absurd rfl h)
  ·simp
 | false =>
  apply An.iff
  ·exact An.ite (P := True) (fun h => absurd h (by simp)) (fun _ => An.test (by decide) (within1 _ _ _) fun _ => An.test (by decide) (within2 _ _ _ _ _ _) fun _ => An.test (by decide) (blank3 _ _ _ _ _ _ _ _ _) fun _ => An.zero)
  ·simp
theorem srcTerm (a0 a1 a2 a3 m n : Int) : An (fun k => Qbi.f k a0 a1 a2 a3 m n) (Qd8 a0 a1 a2 a3 m n) := by
 unfold Qbi.f Qd8
 apply An.iff
 ·exact An.ite (fun _ => term_j0 _ _ _ _ _ _ _ _ _) (fun _ => term_j0 _ _ _ _ _ _ _ _ _)
 split
 ·exact ⟨fun h => by simp at h, fun h => by omega⟩
 ·exact ⟨fun h => ⟨by have := h.1; simp at this; omega, h.2⟩, fun h => ⟨by have := h.1; simp; omega, h.2⟩⟩
def okSB (b : S39) (m n : Int) : Prop := (∀ i : Nat, i < b.f0.length → okIns (Qaw b.f0 (i : Int)).f0 (Qaw b.f0 (i : Int)).f1 (Qaw b.f0 (i : Int)).f2 (Qaw b.f0 (i : Int)).f3 (Qaw b.f0 (i : Int)).f4 m) ∧ Qd8 b.f1.f0 b.f1.f1 b.f1.f2 b.f1.f3 m n
theorem srcBlock (b : S39) (m n : Int) (h : b.f0.length ≤ 1000) : An (fun k => source_block.f k b.f0 b.f1.f0 b.f1.f1 b.f1.f2 b.f1.f3 m n) (okSB b m n) := by
 refine An.loop (L := fun k i => source_block.l0 k m n b.f0 (b.f0.length : Int) i b.f0 b.f1.f0 b.f1.f1 b.f1.f2 b.f1.f3) (n := b.f0.length) (by omega) (fun k i => rfl) (fun i hi => srcInstr _ _ _ _ _ _) ?_
 obtain ⟨r, hr, hq⟩ := srcTerm b.f1.f0 b.f1.f1 b.f1.f2 b.f1.f3 m n
 exact ⟨r, Ev.then hr (Ev.val rfl), hq⟩
theorem srcCode (a r : Int) (l : List S39) (hl : l.length ≤ 1000) (hc : ∀ i : Nat, i < l.length → (Qap l (i : Int)).f0.length ≤ 1000) : ∃ v, Ev (fun k => source_Code.f k a r l) v ∧ 0 ≤ v ∧ v ≤ 1000 * l.length :=
 sum_loop (L := fun k s i => source_Code.l0 k s l (l.length : Int) i) (n := l.length) (x := fun i => (Qap l (i : Int)).f0.length) hl hc (fun k i s => rfl)
def okSrc (a r : Int) (l : List S39) : Prop := (0 ≤ a ∧ a ≤ r) ∧ l.length ≠ 0 ∧ ∀ i : Nat, i < l.length → okSB (Qap l (i : Int)) r l.length
theorem srcCheck (a r : Int) (l : List S39) (hr : r ≤ 1000) (hl : l.length ≤ 1000) (hc : ∀ i : Nat, i < l.length → (Qap l (i : Int)).f0.length ≤ 1000) : An (fun k => Qa0.f k a r l) (okSrc a r l) := by
 have hl0 : An (fun k => Qa0.l0 k l (l.length : Int) 0 a r l) ((∀ i : Nat, i < l.length → okSB (Qap l (i : Int)) r l.length) ∧ True) :=
  An.loop (L := fun k i => Qa0.l0 k l (l.length : Int) i a r l) (n := l.length) (by omega) (fun k i => rfl) (fun i hi => srcBlock _ _ _ (hc i hi)) An.zero
 obtain ⟨v, hv, hv0, hv1⟩ := srcCode a r l hl hc
 have hj0 : ∀ b : Bool, An (fun k => Qa0.j0 k b a r l) (b = false ∧ l.length ≠ 0 ∧ ∀ i : Nat, i < l.length → okSB (Qap l (i : Int)) r l.length) := by
  intro b
  refine An.up (g := fun k => _) (fun k => by rw [Qa0.j0]) ?_
  cases b with
  | true =>
   apply An.iff
   ·exact An.ite (P := False) (Q := True) (fun _ => An.fail (by decide)) (fun h => absurd rfl h)
   ·simp
  | false =>
   by_cases h0 : l.length = 0
   ·exact ⟨14, Ev.neg (c := false = true) (by simp) (Ev.neg (c := r > 1048576) (by omega) (Ev.pos (c := (l.length : Int) = 0) (by omega) (Ev.val rfl))), by simp [h0]⟩
   ·obtain ⟨x, hx, hq⟩ := hl0
    refine ⟨x, Ev.neg (c := false = true) (by simp) (Ev.neg (c := r > 1048576) (by omega) (Ev.neg (c := (l.length : Int) = 0) (by omega) (Ev.neg (c := (l.length : Int) > 1048576) (by omega) (Ev.then hv (Ev.up (g := fun k => _) (fun k => rfl) (Ev.neg (c := decide (v > 1048576) = true) (by simp; omega) hx)))))), hq.trans ⟨fun h => ⟨rfl, h0, h.1⟩, fun h => ⟨h.2.2, trivial⟩⟩⟩
 unfold Qa0.f okSrc
 apply An.iff
 ·exact An.ite (fun _ => hj0 _) (fun _ => hj0 _)
 split
 ·exact ⟨fun h => by simp at h, fun h => by omega⟩
 ·exact ⟨fun h => ⟨by have := h.1; simp at this; omega, h.2⟩, fun h => ⟨by have := h.1; simp; omega, h.2⟩⟩
theorem An.seq {c f : Nat → Option Int} {P Q : Prop} (h1 : An c P) (h2 : P → An f Q) : An (fun k => (c k).bind fun y => if y = 0 then f k else some y) (P ∧ Q) := by
 obtain ⟨b, hb, hp⟩ := h1
 by_cases h : b = 0
 ·obtain ⟨r, hr, hq⟩ := h2 (hp.1 h); exact ⟨r, Ev.then hb (Ev.pos h hr), hq.trans ⟨fun x => ⟨hp.1 h, x⟩, fun x => x.2⟩⟩
 ·exact ⟨b, Ev.then hb (Ev.neg h (Ev.val rfl)), ⟨fun x => absurd x h, fun x => absurd (hp.2 x.1) h⟩⟩
theorem An.end' {c : Nat → Option Bool} {P : Prop} {e : Int} (he : e ≠ 0) (h : Ab c P) : An (fun k => (c k).bind fun z => some (if z = true then 0 else e)) P := by
 obtain ⟨b, hb, hp⟩ := h
 exact ⟨if b = true then 0 else e, Ev.then hb (Ev.val rfl), by cases b with
  | true => simpa using hp
  | false => simpa [he] using hp⟩
theorem Ab.of {f : Option Bool} (h : ∃ b, f = some b) : Ab (fun _ => f) (f = some true) := by
 obtain ⟨b, rfl⟩ := h
 exact ⟨b, Ev.val rfl, by simp⟩
def isMach (a : Int) : Prop := opcode_Machine.f a = some true
theorem mach_ab (a : Int) : Ab (fun _ => opcode_Machine.f a) (isMach a) := Ab.of (by
 unfold opcode_Machine.f Qbb.f
 by_cases h1 : a ≥ 1
 ·rw [if_pos h1]; simp only [Option.bind_some]; split <;> exact ⟨_, rfl⟩
 ·rw [if_neg h1]; exact ⟨_, rfl⟩)
def okLoc (a m s : Int) : Prop := Qa9.f a m s = some true
theorem loc_ab (a m s : Int) : Ab (fun _ => Qa9.f a m s) (okLoc a m s) := Ab.of (by
 unfold Qa9.f Qav.f Qbc.f
 simp only [Option.bind_some]
 split <;> split <;> exact ⟨_, rfl⟩)
def isSl (a : Int) : Bool := Int.tmod a 2 == 1
theorem moves_j1 (b : Bool) : An (fun k => Qay.j1 k b) (b = false) := An.up (g := fun _ => _) (fun k => rfl) (by cases b with
 | true => exact (An.fail (r := 10) (by decide)).iff (by simp)
 | false => exact An.zero.iff (by simp))
theorem moves_j0 (b : Bool) (r s a0 a1 a2 a3 a4 a5 a6 : Int) : An (fun k => Qay.j0 k r s b a0 a1 a2 a3 a4 a5 a6) (b = false ∧ okLoc a5 r s ∧ okLoc a6 r s) := by
 refine An.up (g := fun k => _) (fun k => by rw [Qay.j0]) ?_
 cases b with
 | true =>
  obtain ⟨x, hx, hq⟩ := moves_j1 true
  exact ⟨x, Ev.pos rfl hx, hq.trans (by simp)⟩
 | false =>
  obtain ⟨t, ht, hp⟩ := loc_ab a5 r s
  obtain ⟨u, hu, hr⟩ := loc_ab a6 r s
  cases t with
  | false =>
   obtain ⟨x, hx, hq⟩ := moves_j1 true
   exact ⟨x, Ev.neg (by simp) (Ev.then ht (Ev.neg (by simp) hx)), hq.trans ⟨fun h => by simp at h, fun h => absurd (hp.2 h.2.1) (by simp)⟩⟩
  | true =>
   obtain ⟨x, hx, hq⟩ := moves_j1 (!u)
   exact ⟨x, Ev.neg (by simp) (Ev.then ht (Ev.pos rfl (Ev.then hu hx))), hq.trans ⟨fun h => ⟨rfl, hp.1 rfl, hr.1 (by simpa using h)⟩, fun h => by simpa using hr.2 h.2.2⟩⟩
def okMov (a1 a2 a3 a4 a5 a6 r s : Int) : Prop := ((isSl a5 && isSl a6) = false ∧ okLoc a5 r s ∧ okLoc a6 r s) ∧ a1 = 0 ∧ a2 = 0 ∧ a3 = 0 ∧ a4 = 0
theorem moves1 (a0 a1 a2 a3 a4 a5 a6 r s : Int) : An (fun k => Qay.f k a0 a1 a2 a3 a4 a5 a6 r s) ((isSl a5 && isSl a6) = false ∧ okLoc a5 r s ∧ okLoc a6 r s) := by
 unfold Qay.f Qav.f
 simp only [Option.bind_some]
 by_cases h : (Int.tmod a5 2 == 1) = true
 ·obtain ⟨x, hx, hq⟩ := moves_j0 (Int.tmod a6 2 == 1) r s a0 a1 a2 a3 a4 a5 a6
  exact ⟨x, Ev.pos h hx, hq.trans (by unfold isSl; rw [h]; simp)⟩
 ·obtain ⟨x, hx, hq⟩ := moves_j0 false r s a0 a1 a2 a3 a4 a5 a6
  exact ⟨x, Ev.neg h hx, hq.trans (by unfold isSl; rw [Bool.not_eq_true] at h; rw [h]; simp)⟩
theorem moves2 (a0 a1 a2 a3 a4 a5 a6 : Int) : Ab (fun _ => machine_moves_2.f a0 a1 a2 a3 a4 a5 a6) (a1 = 0 ∧ a2 = 0 ∧ a3 = 0 ∧ a4 = 0) := by
 unfold machine_moves_2.f
 by_cases h1 : a1 = 0
 ·by_cases h2 : a2 = 0
  ·by_cases h3 : a3 = 0
   ·exact ⟨a4 == 0, Ev.pos h1 (Ev.pos h2 (Ev.pos h3 (Ev.val rfl))), by simp [h1, h2, h3]⟩
   ·exact ⟨false, Ev.pos h1 (Ev.pos h2 (Ev.neg h3 (Ev.val rfl))), by simp [h3]⟩
  ·exact ⟨false, Ev.pos h1 (Ev.neg h2 (Ev.val rfl)), by simp [h2]⟩
 ·exact ⟨false, Ev.neg h1 (Ev.val rfl), by simp [h1]⟩
theorem others2 (a0 a1 a2 a3 a4 a5 a6 : Int) : Ab (fun _ => machine_others_2.f a0 a1 a2 a3 a4 a5 a6) (a5 = 0 ∧ a6 = 0) := by
 unfold machine_others_2.f
 by_cases h1 : a5 = 0
 ·exact ⟨a6 == 0, Ev.pos h1 (Ev.val rfl), by simp [h1]⟩
 ·exact ⟨false, Ev.neg h1 (Ev.val rfl), by simp [h1]⟩
theorem others1 (a0 a1 a2 a3 a4 a5 a6 r s : Int) : An (fun k => machine_others_1.f k a0 a1 a2 a3 a4 a5 a6 r s) (okIns a0 a1 a2 a3 a4 r) := by
 obtain ⟨x, hx, hq⟩ := srcInstr a0 a1 a2 a3 a4 r
 exact ⟨x, Ev.then hx (Ev.val rfl), hq⟩
def okMIns (a0 a1 a2 a3 a4 a5 a6 r s : Int) : Prop := isMach a0 ∧ if a0 = 18 then okMov a1 a2 a3 a4 a5 a6 r s else okIns a0 a1 a2 a3 a4 r ∧ a5 = 0 ∧ a6 = 0
theorem mInstr (a0 a1 a2 a3 a4 a5 a6 r s : Int) : An (fun k => machine_Instr.f k a0 a1 a2 a3 a4 a5 a6 r s) (okMIns a0 a1 a2 a3 a4 a5 a6 r s) := by
 unfold machine_Instr.f okMIns okMov
 exact An.test (by decide) (mach_ab a0) fun _ => An.ite (fun _ => An.seq (moves1 _ _ _ _ _ _ _ _ _) fun _ => An.end' (by decide) (moves2 a0 _ _ _ _ a5 a6)) (fun _ => An.seq (others1 _ _ _ _ _ a5 a6 _ s) fun _ => An.end' (by decide) (others2 a0 a1 a2 a3 a4 _ _))
def okRuns : List S59 → Nat → Prop
 | [], _ => True
 | m :: t, c => if m.f0 = 18 then c + 1 ≤ 64 ∧ okRuns t (c + 1) else okRuns t 0
def okMI (m : S59) (r s : Int) : Prop := okMIns m.f0 m.f1 m.f2 m.f3 m.f4 m.f5 m.f6 r s
def okMB (b : S57) (r s n : Int) : Prop := ((∀ i : Nat, i < b.f0.length → okMI (Qai b.f0 (i : Int)) r s) ∧ okRuns b.f0 0) ∧ Qd8 b.f1.f0 b.f1.f1 b.f1.f2 b.f1.f3 r n
theorem drop_get {α : Type} (l : List α) (z : α) (i : Nat) (h : i < l.length) : l.drop i = l.getD i z :: l.drop (i + 1) := by
 rw [List.drop_eq_getElem_cons h, List.getD_eq_getElem?_getD, List.getElem?_eq_getElem h]; rfl
theorem mBlock (a r s : Int) (TB : List S57) (b : S57) (h : b.f0.length ≤ 1000) : An (fun k => Qa7.f k a r s TB b.f0 b.f1.f0 b.f1.f1 b.f1.f2 b.f1.f3) (okMB b r s TB.length) := by
 have go : ∀ m (i c : Nat), b.f0.length - i = m → i ≤ b.f0.length → c ≤ 64 → An (fun k => Qa7.l0 k (c : Int) b.f0 (b.f0.length : Int) (i : Int) a r s TB b.f0 b.f1.f0 b.f1.f1 b.f1.f2 b.f1.f3) (((∀ j : Nat, i ≤ j → j < b.f0.length → okMI (Qai b.f0 (j : Int)) r s) ∧ okRuns (b.f0.drop i) c) ∧ Qd8 b.f1.f0 b.f1.f1 b.f1.f2 b.f1.f3 r TB.length) := by
  intro m
  induction m with
  | zero =>
   intro i c hm hi hc
   obtain ⟨x, hx, hq⟩ := srcTerm b.f1.f0 b.f1.f1 b.f1.f2 b.f1.f3 r TB.length
   refine ⟨x, Ev.up (g := fun k => _) (fun k => rfl) (Ev.neg (by omega) (Ev.then hx (Ev.val rfl))), hq.trans ?_⟩
   rw [List.drop_of_length_le (by omega)]
   exact ⟨fun h => ⟨⟨fun j h1 h2 => by omega, trivial⟩, h⟩, fun h => h.2⟩
  | succ m ih =>
   intro i c hm hi hc
   have hw : wrap64 ((i : Int) + 1) = ((i + 1 : Nat) : Int) := w64s (n := b.f0.length) (by omega) (by omega)
   have hwc : wrap64 ((c : Int) + 1) = ((c + 1 : Nat) : Int) := w64s (n := 1000) (by omega) (by omega)
   obtain ⟨t, ht, hp⟩ := mInstr (Qai b.f0 (i : Int)).f0 (Qai b.f0 (i : Int)).f1 (Qai b.f0 (i : Int)).f2 (Qai b.f0 (i : Int)).f3 (Qai b.f0 (i : Int)).f4 (Qai b.f0 (i : Int)).f5 (Qai b.f0 (i : Int)).f6 r s
   have hd : b.f0.drop i = Qai b.f0 (i : Int) :: b.f0.drop (i + 1) := drop_get b.f0 z59 i (by omega)
   rw [hd]
   by_cases h0 : t = 0
   ·have hi0 : okMI (Qai b.f0 (i : Int)) r s := hp.1 h0
    have hall : (∀ j : Nat, i ≤ j → j < b.f0.length → okMI (Qai b.f0 (j : Int)) r s) ↔ (∀ j : Nat, i + 1 ≤ j → j < b.f0.length → okMI (Qai b.f0 (j : Int)) r s) := ⟨fun h j h1 h2 => h j (by omega) h2, fun h j h1 h2 => by
     rcases Nat.eq_or_lt_of_le h1 with rfl | h3
     ·exact hi0
     ·exact h j h3 h2⟩
    rw [hall]
    by_cases h18 : (Qai b.f0 (i : Int)).f0 = 18
    ·by_cases h64 : c + 1 ≤ 64
     ·obtain ⟨x, hx, hq⟩ := ih (i + 1) (c + 1) (by omega) (by omega) h64
      refine ⟨x, Ev.up (g := fun k => _) (fun k => rfl) (Ev.pos (by omega) (Ev.pos (by omega) (Ev.pos (by omega) (Ev.then ht (Ev.pos h0 (Ev.pos h18 (Ev.up (g := fun k => _) (fun k => rfl) (Ev.neg (by rw [hwc]; omega) ?_)))))))), hq.trans ?_⟩
      ·rw [hw, hwc]; exact hx
      ·simp only [okRuns, if_pos h18]
       exact ⟨fun h => ⟨⟨h.1.1, h64, h.1.2⟩, h.2⟩, fun h => ⟨⟨h.1.1, h.1.2.2⟩, h.2⟩⟩
     ·refine ⟨15, Ev.up (g := fun k => _) (fun k => rfl) (Ev.pos (by omega) (Ev.pos (by omega) (Ev.pos (by omega) (Ev.then ht (Ev.pos h0 (Ev.pos h18 (Ev.up (g := fun k => _) (fun k => rfl) (Ev.pos (by rw [hwc]; omega) (Ev.val rfl))))))))), ?_⟩
      simp only [okRuns, if_pos h18]
      exact ⟨fun h => by simp at h, fun h => absurd h.1.2.1 h64⟩
    ·obtain ⟨x, hx, hq⟩ := ih (i + 1) 0 (by omega) (by omega) (by omega)
     refine ⟨x, Ev.up (g := fun k => _) (fun k => rfl) (Ev.pos (by omega) (Ev.pos (by omega) (Ev.pos (by omega) (Ev.then ht (Ev.pos h0 (Ev.neg h18 (Ev.up (g := fun k => _) (fun k => rfl) (Ev.neg (c := (0 : Int) > 64) (f := fun _ => none) (by omega) ?_)))))))), hq.trans ?_⟩
     ·rw [hw]; exact hx
     ·simp only [okRuns, if_neg h18]
   ·exact ⟨t, Ev.up (g := fun k => _) (fun k => rfl) (Ev.pos (by omega) (Ev.pos (by omega) (Ev.pos (by omega) (Ev.then ht (Ev.neg h0 (Ev.val rfl)))))), ⟨fun h => absurd h h0, fun h => absurd (hp.2 (h.1.1 i (by omega) (by omega))) h0⟩⟩
 obtain ⟨x, hx, hq⟩ := go _ 0 0 rfl (by omega) (by omega)
 refine ⟨x, hx, hq.trans ?_⟩
 rw [List.drop_zero]
 exact ⟨fun h => ⟨⟨fun i hi => h.1.1 i (by omega) hi, h.1.2⟩, h.2⟩, fun h => ⟨⟨fun i _ hi => h.1.1 i hi, h.1.2⟩, h.2⟩⟩
theorem mCode (a r s : Int) (l : List S57) (hl : l.length ≤ 1000) (hc : ∀ i : Nat, i < l.length → (Qam l (i : Int)).f0.length ≤ 1000) : ∃ v, Ev (fun k => machine_Code.f k a r s l) v ∧ 0 ≤ v ∧ v ≤ 1000 * l.length :=
 sum_loop (L := fun k s i => machine_Code.l0 k s l (l.length : Int) i) (n := l.length) (x := fun i => (Qam l (i : Int)).f0.length) hl hc (fun k i s => rfl)
def okMach (a r s : Int) (l : List S57) : Prop := ((0 ≤ a ∧ a ≤ s) ∧ 0 ≤ r) ∧ l.length ≠ 0 ∧ ∀ i : Nat, i < l.length → okMB (Qam l (i : Int)) r s l.length
theorem mCheck (a r s : Int) (l : List S57) (hr : r ≤ 1000) (hs : s ≤ 1000) (hl : l.length ≤ 1000) (hc : ∀ i : Nat, i < l.length → (Qam l (i : Int)).f0.length ≤ 1000) : An (fun k => Qag.f k a r s l) (okMach a r s l) := by
 have hl0 : An (fun k => Qag.l0 k l (l.length : Int) 0 a r s l) ((∀ i : Nat, i < l.length → okMB (Qam l (i : Int)) r s l.length) ∧ True) :=
  An.loop (L := fun k i => Qag.l0 k l (l.length : Int) i a r s l) (n := l.length) (by omega) (fun k i => rfl) (fun i hi => mBlock _ _ _ _ _ (hc i hi)) An.zero
 obtain ⟨v, hv, hv0, hv1⟩ := mCode a r s l hl hc
 have hj0 : ∀ b : Bool, An (fun k => Qag.j0 k b a r s l) ((b = false ∧ 0 ≤ r) ∧ l.length ≠ 0 ∧ ∀ i : Nat, i < l.length → okMB (Qam l (i : Int)) r s l.length) := by
  intro b
  cases b with
  | true => exact ⟨10, ⟨1, fun n hn => by obtain ⟨m, rfl⟩ : ∃ m, n = m + 1 := ⟨n - 1, by omega⟩; rfl⟩, by simp⟩
  | false =>
   by_cases hr0 : r < 0
   ·exact ⟨9, Ev.up (g := fun k => _) (fun k => by rw [Qag.j0]) (Ev.neg (c := false = true) (by simp) (Ev.pos (c := r < 0) hr0 (Ev.val rfl))), ⟨fun h => by simp at h, fun h => by omega⟩⟩
   ·have hj1 : An (fun k => Qag.j1 k false a r s l) (l.length ≠ 0 ∧ ∀ i : Nat, i < l.length → okMB (Qam l (i : Int)) r s l.length) := by
      by_cases h0 : l.length = 0
      ·exact ⟨14, Ev.up (g := fun k => _) (fun k => by rw [Qag.j1]) (Ev.neg (c := false = true) (by simp) (Ev.pos (c := (l.length : Int) = 0) (by omega) (Ev.val rfl))), by simp [h0]⟩
      ·obtain ⟨x, hx, hq⟩ := hl0
       exact ⟨x, Ev.up (g := fun k => _) (fun k => by rw [Qag.j1]) (Ev.neg (c := false = true) (by simp) (Ev.neg (c := (l.length : Int) = 0) (by omega) (Ev.neg (c := (l.length : Int) > 1048576) (by omega) (Ev.then hv (Ev.up (g := fun k => _) (fun k => rfl) (Ev.neg (c := decide (v > 1048576) = true) (by simp; omega) hx)))))), hq.trans ⟨fun h => ⟨h0, h.1⟩, fun h => ⟨h.2, trivial⟩⟩⟩
    obtain ⟨x, hx, hq⟩ := hj1
    have hx' : Ev (fun k => Qag.j1 k (decide (r > 1048576)) a r s l) x := by rw [decide_eq_false (by omega)]; exact hx
    exact ⟨x, Ev.up (g := fun k => _) (fun k => by rw [Qag.j0]) (Ev.neg (c := false = true) (by simp) (Ev.neg (c := r < 0) hr0 (Ev.neg (c := s > 1048576) (by omega) hx'))), hq.trans ⟨fun h => ⟨⟨rfl, by omega⟩, h⟩, fun h => h.2⟩⟩
 unfold Qag.f okMach
 apply An.iff
 ·exact An.ite (fun _ => hj0 _) (fun _ => hj0 _)
 split
 ·exact ⟨fun h => by simp at h, fun h => by omega⟩
 ·exact ⟨fun h => ⟨⟨by have := h.1.1; simp at this; omega, h.1.2⟩, h.2⟩, fun h => ⟨⟨by have := h.1.1; simp; omega, h.1.2⟩, h.2⟩⟩
end Go.Proofs.YtchpkjgibloleaaGreat.Z
