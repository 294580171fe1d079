/- TA -/
import Derived.Test.YtchpkjgibloleaaGreatProg
import Derived.Below
import Derived.Deep.Draws
import Derived.Deep.AppendLies
import Derived.Maps.AppendAt
import Derived.OwnWalk
import Derived.Laws.BytesArg
import Derived.Laws.MakeOwn
import Derived.Laws.OwnMore
import Derived.Deep.OwnRows
import Derived.Tactics
import Derived.Lib.ConvBytes
import Derived.Laws.Slices
import Derived.WalkKit
import Derived.KernelRfl
import Derived.RowKit3
import Derived.Deep.LoopGhost
import Derived.Deep.QuietTactic
import Derived.BigQuiet
import Derived.WideLaws
import Derived.Deep.DeepCutAuto
import Derived.Deep.CutBlock
import Derived.Deep.RegionHeld3
import Derived.Laws.Rows
import Derived.Lib.AppendStr
import Derived.ArgAppend
import Derived.Laws.IdiomCopy
import Derived.OrdersHeld
import Derived.Laws.BitsLemmas
import Derived.RowKit
import Derived.Test.YtchpkjgibloleaaGreatTW
import Derived.WalkLawsBesides
import Derived.Laws.EntriesVeiled
import Derived.Laws.Tables
import Derived.Laws.CopyOwn
import Derived.Outline
import Derived.Handy
import Derived.Shelf.SlSortCmp.WholeK
import Derived.Shelf.SlicesE.Clone
import Derived.Shelf.Abstract
import Derived.Lib.SliceRun
import Derived.Shelf.SlSortCmp.NoneTotal
set_option linter.unusedVariables false
set_option linter.unusedSimpArgs false
namespace Go.Proofs.YtchpkjgibloleaaGreat.Z
set_option maxRecDepth 100000
set_option maxHeartbeats 8000000
open Go.RowKit Go.Proofs.YtchpkjgibloleaaGreatW.PrintWords Go.Proofs.YtchpkjgibloleaaGreatW.PrintLast Go.Proofs.YtchpkjgibloleaaGreatW.PrintMore
attribute [local go_sem] Qbt Qb0
def errW : Option Int → Value
 | none => .nilIface
 | some c => .iface 0 (.int .i64 c)
theorem As0 {p : Prop} (h : p) : Qbf p := ⟨h⟩
theorem wblt (w : World) {p : Addr} {v : Value} (h : w.cell? p = some v) : p.block < w.heap.size := World.block_lt_of_cell? w _ h
theorem bdN {B : Nat} {w W : World} (h : Below B w W) (n : Nat) : Below B w (W.drewN n) := Qb4 h n
theorem bd1 {base : Nat} {w W : World} (h : Below base w W) : Below base w W.drew := Qc4 h
theorem sL1 {α : Type} (l : List α) (i : Nat) (a : α) : l.toArray.setIfInBounds i a = (l.set i a).toArray := List.setIfInBounds_toArray ..
theorem sL2 {α : Type} (x : α) (xs : List α) (a : α) : (x :: xs).set 0 a = a :: xs := rfl
theorem sL3 {α : Type} (x : α) (xs : List α) (i : Nat) (a : α) : (x :: xs).set (i + 1) a = x :: xs.set i a := rfl
theorem Qa9 : errW none = .nilIface := rfl
theorem Qa8 (c : Int) : errW (some c) = .iface 0 (.int .i64 c) := rfl
theorem info39 : (Tryz.prog.info? 39).map (fun i => (i.zero, i.size, i.bytes)) = some (some (.agg #[(.slice none 0 0), (.int .i64 0), (.int .i64 0), (.int .i64 0), (.int .i64 0)]), 5, 56) := by kernel_rfl
theorem info41 : (Tryz.prog.info? 41).map (fun i => (i.zero, i.size, i.bytes)) = some (some (.agg #[(.int .i64 0), (.int .i64 0), (.int .i64 0), (.int .i64 0), (.int .i64 0)]), 5, 40) := by kernel_rfl
theorem info44 : (Tryz.prog.info? 44).map (fun i => (i.zero, i.size, i.bytes)) = some (some (.slice none 0 0), 1, 24) := by kernel_rfl
theorem Qcq : (Tryz.prog.info? 47).map (fun i => (i.zero, i.size, i.bytes)) = some (some (.agg #[(.int .i64 0), (.int .i64 0)]), 2, 16) := by kernel_rfl
theorem info57 : (Tryz.prog.info? 57).map (fun i => (i.zero, i.size, i.bytes)) = some (some (.agg #[(.slice none 0 0), (.int .i64 0), (.int .i64 0), (.int .i64 0), (.int .i64 0)]), 5, 56) := by kernel_rfl
theorem info59 : (Tryz.prog.info? 59).map (fun i => (i.zero, i.size, i.bytes)) = some (some (.agg #[(.int .i64 0), (.int .i64 0), (.int .i64 0), (.int .i64 0), (.int .i64 0), (.int .i64 0), (.int .i64 0)]), 7, 56) := by kernel_rfl
theorem info180 : (Tryz.prog.info? 180).map (fun i => (i.zero, i.size, i.bytes)) = some (some (.agg #[(.int .i64 0), (.int .i64 0), (.int .i64 0), (.int .i64 0), (.int .i64 0), (.int .i64 0)]), 6, 48) := by kernel_rfl
structure S41 where
 f0 : Int
 f1 : Int
 f2 : Int
 f3 : Int
 f4 : Int
def z41 : S41 := ⟨(0 : Int), (0 : Int), (0 : Int), (0 : Int), (0 : Int)⟩
def k41 : Kd S41 := Kd.iso (Kd.pair (Kd.int .i64) (Kd.pair (Kd.int .i64) (Kd.pair (Kd.int .i64) (Kd.pair (Kd.int .i64) (Kd.int .i64))))) (fun x : S41 => (x.f0, x.f1, x.f2, x.f3, x.f4))
theorem k41_open {w : World} {x : S41} {cs : List Value} (h : k41.K w x cs) : cs = [.int .i64 x.f0, .int .i64 x.f1, .int .i64 x.f2, .int .i64 x.f3, .int .i64 x.f4] := by
 obtain ⟨_, _, rfl, rfl, ⟨_, _, rfl, rfl, ⟨_, _, rfl, rfl, ⟨_, _, rfl, rfl, rfl⟩⟩⟩⟩ := h
 exact rfl
theorem k41_openM {w : World} {base : Nat} {ok : Nat → Prop} {x : S41} {cs : List Value} (h : k41.M w base ok x cs) : cs = [.int .i64 x.f0, .int .i64 x.f1, .int .i64 x.f2, .int .i64 x.f3, .int .i64 x.f4] := by
 obtain ⟨_, _, rfl, rfl, ⟨_, _, rfl, rfl, ⟨_, _, rfl, rfl, ⟨_, _, rfl, rfl, rfl⟩⟩⟩⟩ := h
 exact rfl
theorem k41_mkM (w : World) (base : Nat) (ok : Nat → Prop) (x : S41)  : k41.M w base ok x [.int .i64 x.f0, .int .i64 x.f1, .int .i64 x.f2, .int .i64 x.f3, .int .i64 x.f4] := ⟨[.int .i64 x.f0], [.int .i64 x.f1, .int .i64 x.f2, .int .i64 x.f3, .int .i64 x.f4], rfl, rfl, ⟨[.int .i64 x.f1], [.int .i64 x.f2, .int .i64 x.f3, .int .i64 x.f4], rfl, rfl, ⟨[.int .i64 x.f2], [.int .i64 x.f3, .int .i64 x.f4], rfl, rfl, ⟨[.int .i64 x.f3], [.int .i64 x.f4], rfl, rfl, rfl⟩⟩⟩⟩
def Qam (xs : List S41) (i : Int) : S41 := xs.getD i.toNat z41
theorem at_T41 {w : World} {A : Option Addr} {n : Nat} {xs : List S41} (h : Kd.C k41 w A n xs) (i : Int) (h0 : 0 ≤ i) (h1 : i < n) : ∃ ad , A = some ad ∧ w.cell? (ad.add (i.toNat * 5)) = some (.int .i64 (Qam xs i).f0) ∧ w.cell? ⟨(ad.add (i.toNat * 5)).block, (ad.add (i.toNat * 5)).off + 1, none⟩ = some (.int .i64 (Qam xs i).f1) ∧ w.cell? ⟨(ad.add (i.toNat * 5)).block, (ad.add (i.toNat * 5)).off + 2, none⟩ = some (.int .i64 (Qam xs i).f2) ∧ w.cell? ⟨(ad.add (i.toNat * 5)).block, (ad.add (i.toNat * 5)).off + 3, none⟩ = some (.int .i64 (Qam xs i).f3) ∧ w.cell? ⟨(ad.add (i.toNat * 5)).block, (ad.add (i.toNat * 5)).off + 4, none⟩ = some (.int .i64 (Qam xs i).f4) := by
 obtain ⟨ad, c, e, _, hK, hc0⟩ := Kd.C_get h z41 i h0 h1
 have hc : ∀ j u, c[j]? = some u → w.cell? (ad.add (i.toNat * 5 + j)) = some u := hc0
 obtain rfl := k41_open hK
 exact ⟨ad, e, hc 0 _ rfl, by rw [← Qbx _ _ 1 (by omega)]; exact hc 1 _ rfl, by rw [← Qbx _ _ 2 (by omega)]; exact hc 2 _ rfl, by rw [← Qbx _ _ 3 (by omega)]; exact hc 3 _ rfl, by rw [← Qbx _ _ 4 (by omega)]; exact hc 4 _ rfl⟩
structure S37 where
 f0 : Int
 f1 : Int
 f2 : Int
 f3 : Int
def z37 : S37 := ⟨(0 : Int), (0 : Int), (0 : Int), (0 : Int)⟩
def k37 : Kd S37 := Kd.iso (Kd.pair (Kd.int .i64) (Kd.pair (Kd.int .i64) (Kd.pair (Kd.int .i64) (Kd.int .i64)))) (fun x : S37 => (x.f0, x.f1, x.f2, x.f3))
theorem k37_open {w : World} {x : S37} {cs : List Value} (h : k37.K w x cs) : cs = [.int .i64 x.f0, .int .i64 x.f1, .int .i64 x.f2, .int .i64 x.f3] := by
 obtain ⟨_, _, rfl, rfl, ⟨_, _, rfl, rfl, ⟨_, _, rfl, rfl, rfl⟩⟩⟩ := h
 exact rfl
theorem k37_openM {w : World} {base : Nat} {ok : Nat → Prop} {x : S37} {cs : List Value} (h : k37.M w base ok x cs) : cs = [.int .i64 x.f0, .int .i64 x.f1, .int .i64 x.f2, .int .i64 x.f3] := by
 obtain ⟨_, _, rfl, rfl, ⟨_, _, rfl, rfl, ⟨_, _, rfl, rfl, rfl⟩⟩⟩ := h
 exact rfl
theorem k37_mkM (w : World) (base : Nat) (ok : Nat → Prop) (x : S37)  : k37.M w base ok x [.int .i64 x.f0, .int .i64 x.f1, .int .i64 x.f2, .int .i64 x.f3] := ⟨[.int .i64 x.f0], [.int .i64 x.f1, .int .i64 x.f2, .int .i64 x.f3], rfl, rfl, ⟨[.int .i64 x.f1], [.int .i64 x.f2, .int .i64 x.f3], rfl, rfl, ⟨[.int .i64 x.f2], [.int .i64 x.f3], rfl, rfl, rfl⟩⟩⟩
structure S39 where
 f0 : (List S41)
 f1 : S37
def z39 : S39 := ⟨([] : List S41), z37⟩
def k39 : Kd S39 := Kd.iso (Kd.pair (Kd.slice 41 k41) k37) (fun x : S39 => (x.f0, x.f1))
theorem k39_open {w : World} {x : S39} {cs : List Value} (h : k39.K w x cs) : ∃ A0 c0, cs = [.slice A0 x.f0.length c0, .int .i64 x.f1.f0, .int .i64 x.f1.f1, .int .i64 x.f1.f2, .int .i64 x.f1.f3] ∧ x.f0.length ≤ c0 ∧ k41.C w A0 x.f0.length x.f0 := by
 obtain ⟨_, _, rfl, ⟨A0, c0, rfl, l0, g0⟩, s1⟩ := h
 obtain rfl := k37_open s1
 exact ⟨A0, c0, rfl, l0, g0⟩
theorem k39_openM {w : World} {base : Nat} {ok : Nat → Prop} {x : S39} {cs : List Value} (h : k39.M w base ok x cs) : ∃ v0, cs = [v0, .int .i64 x.f1.f0, .int .i64 x.f1.f1, .int .i64 x.f1.f2, .int .i64 x.f1.f3] ∧ k41.R 41 w base ok v0 x.f0 := by
 obtain ⟨_, _, rfl, ⟨v0, rfl, g0⟩, s1⟩ := h
 obtain rfl := k37_openM s1
 exact ⟨v0, rfl, g0⟩
theorem k39_mkM (w : World) (base : Nat) (ok : Nat → Prop) (x : S39) {v0 : Value} (g0 : k41.R 41 w base ok v0 x.f0) : k39.M w base ok x [v0, .int .i64 x.f1.f0, .int .i64 x.f1.f1, .int .i64 x.f1.f2, .int .i64 x.f1.f3] := ⟨[v0], [.int .i64 x.f1.f0, .int .i64 x.f1.f1, .int .i64 x.f1.f2, .int .i64 x.f1.f3], rfl, ⟨v0, rfl, g0⟩, (k37_mkM w base ok x.f1 )⟩
def Qag (xs : List S39) (i : Int) : S39 := xs.getD i.toNat z39
theorem Qed {w : World} {A : Option Addr} {n : Nat} {xs : List S39} (h : Kd.C k39 w A n xs) (i : Int) (h0 : 0 ≤ i) (h1 : i < n) : ∃ ad A0 c0, A = some ad ∧ w.cell? (ad.add (i.toNat * 5)) = some (.slice A0 (Qag xs i).f0.length c0) ∧ w.cell? ⟨(ad.add (i.toNat * 5)).block, (ad.add (i.toNat * 5)).off + 1, none⟩ = some (.int .i64 (Qag xs i).f1.f0) ∧ w.cell? ⟨(ad.add (i.toNat * 5)).block, (ad.add (i.toNat * 5)).off + 2, none⟩ = some (.int .i64 (Qag xs i).f1.f1) ∧ w.cell? ⟨(ad.add (i.toNat * 5)).block, (ad.add (i.toNat * 5)).off + 3, none⟩ = some (.int .i64 (Qag xs i).f1.f2) ∧ w.cell? ⟨(ad.add (i.toNat * 5)).block, (ad.add (i.toNat * 5)).off + 4, none⟩ = some (.int .i64 (Qag xs i).f1.f3) ∧ (Qag xs i).f0.length ≤ c0 ∧ k41.C w A0 (Qag xs i).f0.length (Qag xs i).f0 := by
 obtain ⟨ad, c, e, _, hK, hc0⟩ := Kd.C_get h z39 i h0 h1
 have hc : ∀ j u, c[j]? = some u → w.cell? (ad.add (i.toNat * 5 + j)) = some u := hc0
 obtain ⟨A0, c0, rfl, l0, g0⟩ := k39_open hK
 exact ⟨ad, A0, c0, e, hc 0 _ rfl, by rw [← Qbx _ _ 1 (by omega)]; exact hc 1 _ rfl, by rw [← Qbx _ _ 2 (by omega)]; exact hc 2 _ rfl, by rw [← Qbx _ _ 3 (by omega)]; exact hc 3 _ rfl, by rw [← Qbx _ _ 4 (by omega)]; exact hc 4 _ rfl, l0, g0⟩
structure S235 where
 f0 : Int
 f1 : Bool
 f2 : Int
def z235 : S235 := ⟨(0 : Int), false, (0 : Int)⟩
def k235 : Kd S235 := Kd.iso (Kd.pair (Kd.int .i64) (Kd.pair Kd.bool (Kd.int .i64))) (fun x : S235 => (x.f0, x.f1, x.f2))
theorem k235_open {w : World} {x : S235} {cs : List Value} (h : k235.K w x cs) : cs = [.int .i64 x.f0, .bool x.f1, .int .i64 x.f2] := by
 obtain ⟨_, _, rfl, rfl, ⟨_, _, rfl, rfl, rfl⟩⟩ := h
 exact rfl
theorem Qdb (w : World) (base : Nat) (ok : Nat → Prop) (x : S235)  : k235.M w base ok x [.int .i64 x.f0, .bool x.f1, .int .i64 x.f2] := ⟨[.int .i64 x.f0], [.bool x.f1, .int .i64 x.f2], rfl, rfl, ⟨[.bool x.f1], [.int .i64 x.f2], rfl, rfl, rfl⟩⟩
def Qer (xs : List S235) (i : Int) : S235 := xs.getD i.toNat z235
theorem at_T235 {w : World} {A : Option Addr} {n : Nat} {xs : List S235} (h : Kd.C k235 w A n xs) (i : Int) (h0 : 0 ≤ i) (h1 : i < n) : ∃ ad , A = some ad ∧ w.cell? (ad.add (i.toNat * 3)) = some (.int .i64 (Qer xs i).f0) ∧ w.cell? ⟨(ad.add (i.toNat * 3)).block, (ad.add (i.toNat * 3)).off + 1, none⟩ = some (.bool (Qer xs i).f1) ∧ w.cell? ⟨(ad.add (i.toNat * 3)).block, (ad.add (i.toNat * 3)).off + 2, none⟩ = some (.int .i64 (Qer xs i).f2) := by
 obtain ⟨ad, c, e, _, hK, hc0⟩ := Kd.C_get h z235 i h0 h1
 have hc : ∀ j u, c[j]? = some u → w.cell? (ad.add (i.toNat * 3 + j)) = some u := hc0
 obtain rfl := k235_open hK
 exact ⟨ad, e, hc 0 _ rfl, by rw [← Qbx _ _ 1 (by omega)]; exact hc 1 _ rfl, by rw [← Qbx _ _ 2 (by omega)]; exact hc 2 _ rfl⟩
structure S59 where
 f0 : Int
 f1 : Int
 f2 : Int
 f3 : Int
 f4 : Int
 f5 : Int
 f6 : Int
def z59 : S59 := ⟨(0 : Int), (0 : Int), (0 : Int), (0 : Int), (0 : Int), (0 : Int), (0 : Int)⟩
def k59 : Kd S59 := Kd.iso (Kd.pair (Kd.int .i64) (Kd.pair (Kd.int .i64) (Kd.pair (Kd.int .i64) (Kd.pair (Kd.int .i64) (Kd.pair (Kd.int .i64) (Kd.pair (Kd.int .i64) (Kd.int .i64))))))) (fun x : S59 => (x.f0, x.f1, x.f2, x.f3, x.f4, x.f5, x.f6))
theorem k59_open {w : World} {x : S59} {cs : List Value} (h : k59.K w x cs) : cs = [.int .i64 x.f0, .int .i64 x.f1, .int .i64 x.f2, .int .i64 x.f3, .int .i64 x.f4, .int .i64 x.f5, .int .i64 x.f6] := by
 obtain ⟨_, _, rfl, rfl, ⟨_, _, rfl, rfl, ⟨_, _, rfl, rfl, ⟨_, _, rfl, rfl, ⟨_, _, rfl, rfl, ⟨_, _, rfl, rfl, rfl⟩⟩⟩⟩⟩⟩ := h
 exact rfl
def Qaj (xs : List S59) (i : Int) : S59 := xs.getD i.toNat z59
theorem at_T59 {w : World} {A : Option Addr} {n : Nat} {xs : List S59} (h : Kd.C k59 w A n xs) (i : Int) (h0 : 0 ≤ i) (h1 : i < n) : ∃ ad , A = some ad ∧ w.cell? (ad.add (i.toNat * 7)) = some (.int .i64 (Qaj xs i).f0) ∧ w.cell? ⟨(ad.add (i.toNat * 7)).block, (ad.add (i.toNat * 7)).off + 1, none⟩ = some (.int .i64 (Qaj xs i).f1) ∧ w.cell? ⟨(ad.add (i.toNat * 7)).block, (ad.add (i.toNat * 7)).off + 2, none⟩ = some (.int .i64 (Qaj xs i).f2) ∧ w.cell? ⟨(ad.add (i.toNat * 7)).block, (ad.add (i.toNat * 7)).off + 3, none⟩ = some (.int .i64 (Qaj xs i).f3) ∧ w.cell? ⟨(ad.add (i.toNat * 7)).block, (ad.add (i.toNat * 7)).off + 4, none⟩ = some (.int .i64 (Qaj xs i).f4) ∧ w.cell? ⟨(ad.add (i.toNat * 7)).block, (ad.add (i.toNat * 7)).off + 5, none⟩ = some (.int .i64 (Qaj xs i).f5) ∧ w.cell? ⟨(ad.add (i.toNat * 7)).block, (ad.add (i.toNat * 7)).off + 6, none⟩ = some (.int .i64 (Qaj xs i).f6) := by
 obtain ⟨ad, c, e, _, hK, hc0⟩ := Kd.C_get h z59 i h0 h1
 have hc : ∀ j u, c[j]? = some u → w.cell? (ad.add (i.toNat * 7 + j)) = some u := hc0
 obtain rfl := k59_open hK
 exact ⟨ad, e, hc 0 _ rfl, by rw [← Qbx _ _ 1 (by omega)]; exact hc 1 _ rfl, by rw [← Qbx _ _ 2 (by omega)]; exact hc 2 _ rfl, by rw [← Qbx _ _ 3 (by omega)]; exact hc 3 _ rfl, by rw [← Qbx _ _ 4 (by omega)]; exact hc 4 _ rfl, by rw [← Qbx _ _ 5 (by omega)]; exact hc 5 _ rfl, by rw [← Qbx _ _ 6 (by omega)]; exact hc 6 _ rfl⟩
structure S57 where
 f0 : (List S59)
 f1 : S37
def z57 : S57 := ⟨([] : List S59), z37⟩
def k57 : Kd S57 := Kd.iso (Kd.pair (Kd.slice 59 k59) k37) (fun x : S57 => (x.f0, x.f1))
theorem k57_open {w : World} {x : S57} {cs : List Value} (h : k57.K w x cs) : ∃ A0 c0, cs = [.slice A0 x.f0.length c0, .int .i64 x.f1.f0, .int .i64 x.f1.f1, .int .i64 x.f1.f2, .int .i64 x.f1.f3] ∧ x.f0.length ≤ c0 ∧ k59.C w A0 x.f0.length x.f0 := by
 obtain ⟨_, _, rfl, ⟨A0, c0, rfl, l0, g0⟩, s1⟩ := h
 obtain rfl := k37_open s1
 exact ⟨A0, c0, rfl, l0, g0⟩
theorem k57_mkM (w : World) (base : Nat) (ok : Nat → Prop) (x : S57) {v0 : Value} (g0 : k59.R 59 w base ok v0 x.f0) : k57.M w base ok x [v0, .int .i64 x.f1.f0, .int .i64 x.f1.f1, .int .i64 x.f1.f2, .int .i64 x.f1.f3] := ⟨[v0], [.int .i64 x.f1.f0, .int .i64 x.f1.f1, .int .i64 x.f1.f2, .int .i64 x.f1.f3], rfl, ⟨v0, rfl, g0⟩, (k37_mkM w base ok x.f1 )⟩
def Qaq (xs : List S57) (i : Int) : S57 := xs.getD i.toNat z57
theorem Qep {w : World} {A : Option Addr} {n : Nat} {xs : List S57} (h : Kd.C k57 w A n xs) (i : Int) (h0 : 0 ≤ i) (h1 : i < n) : ∃ ad A0 c0, A = some ad ∧ w.cell? (ad.add (i.toNat * 5)) = some (.slice A0 (Qaq xs i).f0.length c0) ∧ w.cell? ⟨(ad.add (i.toNat * 5)).block, (ad.add (i.toNat * 5)).off + 1, none⟩ = some (.int .i64 (Qaq xs i).f1.f0) ∧ w.cell? ⟨(ad.add (i.toNat * 5)).block, (ad.add (i.toNat * 5)).off + 2, none⟩ = some (.int .i64 (Qaq xs i).f1.f1) ∧ w.cell? ⟨(ad.add (i.toNat * 5)).block, (ad.add (i.toNat * 5)).off + 3, none⟩ = some (.int .i64 (Qaq xs i).f1.f2) ∧ w.cell? ⟨(ad.add (i.toNat * 5)).block, (ad.add (i.toNat * 5)).off + 4, none⟩ = some (.int .i64 (Qaq xs i).f1.f3) ∧ (Qaq xs i).f0.length ≤ c0 ∧ k59.C w A0 (Qaq xs i).f0.length (Qaq xs i).f0 := by
 obtain ⟨ad, c, e, _, hK, hc0⟩ := Kd.C_get h z57 i h0 h1
 have hc : ∀ j u, c[j]? = some u → w.cell? (ad.add (i.toNat * 5 + j)) = some u := hc0
 obtain ⟨A0, c0, rfl, l0, g0⟩ := k57_open hK
 exact ⟨ad, A0, c0, e, hc 0 _ rfl, by rw [← Qbx _ _ 1 (by omega)]; exact hc 1 _ rfl, by rw [← Qbx _ _ 2 (by omega)]; exact hc 2 _ rfl, by rw [← Qbx _ _ 3 (by omega)]; exact hc 3 _ rfl, by rw [← Qbx _ _ 4 (by omega)]; exact hc 4 _ rfl, l0, g0⟩
structure S47 where
 f0 : Int
 f1 : Int
def z47 : S47 := ⟨(0 : Int), (0 : Int)⟩
def k47 : Kd S47 := Kd.iso (Kd.pair (Kd.int .i64) (Kd.int .i64)) (fun x : S47 => (x.f0, x.f1))
theorem k47_open {w : World} {x : S47} {cs : List Value} (h : k47.K w x cs) : cs = [.int .i64 x.f0, .int .i64 x.f1] := by
 obtain ⟨_, _, rfl, rfl, rfl⟩ := h
 exact rfl
theorem k47_openM {w : World} {base : Nat} {ok : Nat → Prop} {x : S47} {cs : List Value} (h : k47.M w base ok x cs) : cs = [.int .i64 x.f0, .int .i64 x.f1] := by
 obtain ⟨_, _, rfl, rfl, rfl⟩ := h
 exact rfl
theorem k47_mk (w : World) (x : S47)  : k47.K w x [.int .i64 x.f0, .int .i64 x.f1] := ⟨[.int .i64 x.f0], [.int .i64 x.f1], rfl, rfl, rfl⟩
theorem Qc8 (w : World) (base : Nat) (ok : Nat → Prop) (x : S47)  : k47.M w base ok x [.int .i64 x.f0, .int .i64 x.f1] := ⟨[.int .i64 x.f0], [.int .i64 x.f1], rfl, rfl, rfl⟩
def Qaa (xs : List S47) (i : Int) : S47 := xs.getD i.toNat z47
theorem Qcc {w : World} {A : Option Addr} {n : Nat} {xs : List S47} (h : Kd.C k47 w A n xs) (i : Int) (h0 : 0 ≤ i) (h1 : i < n) : ∃ ad , A = some ad ∧ w.cell? (ad.add (i.toNat * 2)) = some (.int .i64 (Qaa xs i).f0) ∧ w.cell? ⟨(ad.add (i.toNat * 2)).block, (ad.add (i.toNat * 2)).off + 1, none⟩ = some (.int .i64 (Qaa xs i).f1) := by
 obtain ⟨ad, c, e, _, hK, hc0⟩ := Kd.C_get h z47 i h0 h1
 have hc : ∀ j u, c[j]? = some u → w.cell? (ad.add (i.toNat * 2 + j)) = some u := hc0
 obtain rfl := k47_open hK
 exact ⟨ad, e, hc 0 _ rfl, by rw [← Qbx _ _ 1 (by omega)]; exact hc 1 _ rfl⟩
def Qao (xs : List (List S47)) (i : Int) : (List S47) := xs.getD i.toNat ([] : List S47)
theorem Qdk {w : World} {A : Option Addr} {n : Nat} {xs : List (List S47)} (h : Kd.C (Kd.slice 47 k47) w A n xs) (i : Int) (h0 : 0 ≤ i) (h1 : i < n) : ∃ ad A0 c0, A = some ad ∧ w.cell? (ad.add i.toNat) = some (.slice A0 (Qao xs i).length c0) ∧ (Qao xs i).length ≤ c0 ∧ k47.C w A0 (Qao xs i).length (Qao xs i) := by
 obtain ⟨ad, c, e, _, hK, hc0⟩ := Kd.C_get h ([] : List S47) i h0 h1
 have hc : ∀ j u, c[j]? = some u → w.cell? (ad.add (i.toNat * 1 + j)) = some u := hc0
 obtain ⟨A0, c0, rfl, l0, g0⟩ := hK
 exact ⟨ad, A0, c0, e, by have hq := hc 0 _ rfl; rwa [Nat.mul_one, Nat.add_zero] at hq, l0, g0⟩
structure S180 where
 f0 : Int
 f1 : Int
 f2 : Int
 f3 : Int
 f4 : Int
 f5 : Int
def z180 : S180 := ⟨(0 : Int), (0 : Int), (0 : Int), (0 : Int), (0 : Int), (0 : Int)⟩
def k180 : Kd S180 := Kd.iso (Kd.pair (Kd.int .i64) (Kd.pair (Kd.int .i64) (Kd.pair (Kd.int .i64) (Kd.pair (Kd.int .i64) (Kd.pair (Kd.int .i64) (Kd.int .i64)))))) (fun x : S180 => (x.f0, x.f1, x.f2, x.f3, x.f4, x.f5))
theorem k180_open {w : World} {x : S180} {cs : List Value} (h : k180.K w x cs) : cs = [.int .i64 x.f0, .int .i64 x.f1, .int .i64 x.f2, .int .i64 x.f3, .int .i64 x.f4, .int .i64 x.f5] := by
 obtain ⟨_, _, rfl, rfl, ⟨_, _, rfl, rfl, ⟨_, _, rfl, rfl, ⟨_, _, rfl, rfl, ⟨_, _, rfl, rfl, rfl⟩⟩⟩⟩⟩ := h
 exact rfl
theorem k180_mkM (w : World) (base : Nat) (ok : Nat → Prop) (x : S180)  : k180.M w base ok x [.int .i64 x.f0, .int .i64 x.f1, .int .i64 x.f2, .int .i64 x.f3, .int .i64 x.f4, .int .i64 x.f5] := ⟨[.int .i64 x.f0], [.int .i64 x.f1, .int .i64 x.f2, .int .i64 x.f3, .int .i64 x.f4, .int .i64 x.f5], rfl, rfl, ⟨[.int .i64 x.f1], [.int .i64 x.f2, .int .i64 x.f3, .int .i64 x.f4, .int .i64 x.f5], rfl, rfl, ⟨[.int .i64 x.f2], [.int .i64 x.f3, .int .i64 x.f4, .int .i64 x.f5], rfl, rfl, ⟨[.int .i64 x.f3], [.int .i64 x.f4, .int .i64 x.f5], rfl, rfl, ⟨[.int .i64 x.f4], [.int .i64 x.f5], rfl, rfl, rfl⟩⟩⟩⟩⟩
def Qd2 (xs : List S180) (i : Int) : S180 := xs.getD i.toNat z180
theorem at_T180 {w : World} {A : Option Addr} {n : Nat} {xs : List S180} (h : Kd.C k180 w A n xs) (i : Int) (h0 : 0 ≤ i) (h1 : i < n) : ∃ ad , A = some ad ∧ w.cell? (ad.add (i.toNat * 6)) = some (.int .i64 (Qd2 xs i).f0) ∧ w.cell? ⟨(ad.add (i.toNat * 6)).block, (ad.add (i.toNat * 6)).off + 1, none⟩ = some (.int .i64 (Qd2 xs i).f1) ∧ w.cell? ⟨(ad.add (i.toNat * 6)).block, (ad.add (i.toNat * 6)).off + 2, none⟩ = some (.int .i64 (Qd2 xs i).f2) ∧ w.cell? ⟨(ad.add (i.toNat * 6)).block, (ad.add (i.toNat * 6)).off + 3, none⟩ = some (.int .i64 (Qd2 xs i).f3) ∧ w.cell? ⟨(ad.add (i.toNat * 6)).block, (ad.add (i.toNat * 6)).off + 4, none⟩ = some (.int .i64 (Qd2 xs i).f4) ∧ w.cell? ⟨(ad.add (i.toNat * 6)).block, (ad.add (i.toNat * 6)).off + 5, none⟩ = some (.int .i64 (Qd2 xs i).f5) := by
 obtain ⟨ad, c, e, _, hK, hc0⟩ := Kd.C_get h z180 i h0 h1
 have hc : ∀ j u, c[j]? = some u → w.cell? (ad.add (i.toNat * 6 + j)) = some u := hc0
 obtain rfl := k180_open hK
 exact ⟨ad, e, hc 0 _ rfl, by rw [← Qbx _ _ 1 (by omega)]; exact hc 1 _ rfl, by rw [← Qbx _ _ 2 (by omega)]; exact hc 2 _ rfl, by rw [← Qbx _ _ 3 (by omega)]; exact hc 3 _ rfl, by rw [← Qbx _ _ 4 (by omega)]; exact hc 4 _ rfl, by rw [← Qbx _ _ 5 (by omega)]; exact hc 5 _ rfl⟩
structure S87 where
 f0 : (List S47)
 f1 : Int
 f2 : Int
 f3 : Int
 f4 : Int
structure S24 where
 f0 : Int
 f1 : Int
 f2 : (List S39)
def k24 : Kd S24 := Kd.iso (Kd.pair (Kd.int .i64) (Kd.pair (Kd.int .i64) (Kd.slice 39 k39))) (fun x : S24 => (x.f0, x.f1, x.f2))
theorem k24_open {w : World} {x : S24} {cs : List Value} (h : k24.K w x cs) : ∃ A2 c2, cs = [.int .i64 x.f0, .int .i64 x.f1, .slice A2 x.f2.length c2] ∧ x.f2.length ≤ c2 ∧ k39.C w A2 x.f2.length x.f2 := by
 obtain ⟨_, _, rfl, rfl, ⟨_, _, rfl, rfl, ⟨A2, c2, rfl, l2, g2⟩⟩⟩ := h
 exact ⟨A2, c2, rfl, l2, g2⟩
structure S27 where
 f0 : Int
 f1 : Int
 f2 : Int
 f3 : (List S57)
def k27 : Kd S27 := Kd.iso (Kd.pair (Kd.int .i64) (Kd.pair (Kd.int .i64) (Kd.pair (Kd.int .i64) (Kd.slice 57 k57)))) (fun x : S27 => (x.f0, x.f1, x.f2, x.f3))
theorem k27_open {w : World} {x : S27} {cs : List Value} (h : k27.K w x cs) : ∃ A3 c3, cs = [.int .i64 x.f0, .int .i64 x.f1, .int .i64 x.f2, .slice A3 x.f3.length c3] ∧ x.f3.length ≤ c3 ∧ k57.C w A3 x.f3.length x.f3 := by
 obtain ⟨_, _, rfl, rfl, ⟨_, _, rfl, rfl, ⟨_, _, rfl, rfl, ⟨A3, c3, rfl, l3, g3⟩⟩⟩⟩ := h
 exact ⟨A3, c3, rfl, l3, g3⟩
structure S30 where
 f0 : S24
 f1 : S27
 f2 : (List (List S47))
def k30 : Kd S30 := Kd.iso (Kd.pair k24 (Kd.pair k27 (Kd.slice 44 (Kd.slice 47 k47)))) (fun x : S30 => (x.f0, x.f1, x.f2))
theorem k30_open {w : World} {x : S30} {cs : List Value} (h : k30.K w x cs) : ∃ A2 c2 A6 c6 A7 c7, cs = [.int .i64 x.f0.f0, .int .i64 x.f0.f1, .slice A2 x.f0.f2.length c2, .int .i64 x.f1.f0, .int .i64 x.f1.f1, .int .i64 x.f1.f2, .slice A6 x.f1.f3.length c6, .slice A7 x.f2.length c7] ∧ x.f0.f2.length ≤ c2 ∧ k39.C w A2 x.f0.f2.length x.f0.f2 ∧ x.f1.f3.length ≤ c6 ∧ k57.C w A6 x.f1.f3.length x.f1.f3 ∧ x.f2.length ≤ c7 ∧ (Kd.slice 47 k47).C w A7 x.f2.length x.f2 := by
 obtain ⟨_, _, rfl, s0, ⟨_, _, rfl, s3, ⟨A7, c7, rfl, l7, g7⟩⟩⟩ := h
 obtain ⟨A2, c2, rfl, l2, g2⟩ := k24_open s0
 obtain ⟨A6, c6, rfl, l6, g6⟩ := k27_open s3
 exact ⟨A2, c2, A6, c6, A7, c7, rfl, l2, g2, l6, g6, l7, g7⟩
structure S51 where
 f0 : Int
 f1 : Int
 f2 : Int
 f3 : Int
 f4 : Int
 f5 : Int
 f6 : Int
theorem RF {α : Type} {d : Kd α} {e : Nat} {w : World} {base : Nat} {ok : Nat → Prop} {v : Value} {xs : List α} (g i : Nat) (h : d.R e w base (fun k => ok k ∧ k ≠ g) v xs) (u : Value) : d.R e (w.setCell ⟨g, i, none⟩ u) base (fun k => ok k ∧ k ≠ g) v xs := Kd.R_far (p := ⟨g, i, none⟩) h (fun _ hk => hk.2) u
theorem RA {α : Type} {d : Kd α} {e : Nat} {w : World} {base : Nat} {ok : Nat → Prop} {v : Value} {xs : List α} (h : d.R e w base ok v xs) (o : Obj) : d.R e (w.alloc o) base ok v xs := Kd.R_alloc h o
theorem RD {α : Type} {d : Kd α} {e : Nat} {w : World} {base : Nat} {ok : Nat → Prop} {v : Value} {xs : List α} (h : d.R e w base ok v xs) : d.R e w.drew base ok v xs := Kd.R_drew h
theorem RN {α : Type} {d : Kd α} {e : Nat} {w : World} {base : Nat} {ok : Nat → Prop} {v : Value} {xs : List α} (h : d.R e w base ok v xs) (m : Nat) : d.R e (w.drewN m) base ok v xs := Kd.R_drewN h m
theorem bA {w : World} {g : Nat} {o : Obj} (h : w.heap[g]? = some o) (o' : Obj) : (w.alloc o').heap[g]? = some o := Qbq h o'
theorem bD {w : World} {g : Nat} {o : Obj} (h : w.heap[g]? = some o) : w.drew.heap[g]? = some o := Qbm h
theorem bN {w : World} {g : Nat} {o : Obj} (h : w.heap[g]? = some o) (n : Nat) : (w.drewN n).heap[g]? = some o := blk_drewN h n
inductive UpI : World → World → Prop where
 | r (w : World) : UpI w w
 | a {w w' : World} (h : UpI w w') (o : Obj) : UpI w (w'.alloc o)
 | d {w w' : World} (h : UpI w w') : UpI w w'.drew
 | n {w w' : World} (h : UpI w w') (m : Nat) : UpI w (w'.drewN m)
inductive BeI (b : Nat) : World → World → Prop where
 | r (w : World) : BeI b w w
 | a {w w' : World} (h : BeI b w w') (o : Obj) : BeI b w (w'.alloc o)
 | d {w w' : World} (h : BeI b w w') : BeI b w w'.drew
 | n {w w' : World} (h : BeI b w w') (m : Nat) : BeI b w (w'.drewN m)
 | s {w w' : World} {g j : Nat} {v : Value} (h : BeI b w w') (hg : b ≤ g) : BeI b w (w'.setCell ⟨g, j, none⟩ v)
theorem bU {w w' : World} {g : Nat} {o : Obj} (h : w.heap[g]? = some o) (u : UpI w w' := by with_reducible (repeat (first | exact Go.Proofs.YtchpkjgibloleaaGreat.Z.UpI.r _ | refine Go.Proofs.YtchpkjgibloleaaGreat.Z.UpI.n ?_ _ | refine Go.Proofs.YtchpkjgibloleaaGreat.Z.UpI.d ?_ | refine Go.Proofs.YtchpkjgibloleaaGreat.Z.UpI.a ?_ _))) : w'.heap[g]? = some o := by
 induction u with
 | r => exact h
 | a _ o ih => exact bA ih o
 | d _ ih => exact bD ih
 | n _ m ih => exact bN ih m
theorem RU {α : Type} {d : Kd α} {e : Nat} {w w' : World} {base : Nat} {ok : Nat → Prop} {v : Value} {xs : List α} (h : d.R e w base ok v xs) (u : UpI w w' := by with_reducible (repeat (first | exact Go.Proofs.YtchpkjgibloleaaGreat.Z.UpI.r _ | refine Go.Proofs.YtchpkjgibloleaaGreat.Z.UpI.n ?_ _ | refine Go.Proofs.YtchpkjgibloleaaGreat.Z.UpI.d ?_ | refine Go.Proofs.YtchpkjgibloleaaGreat.Z.UpI.a ?_ _))) : d.R e w' base ok v xs := by
 induction u with
 | r => exact h
 | a _ o ih => exact RA ih o
 | d _ ih => exact RD ih
 | n _ m ih => exact RN ih m
theorem BU {w w1 w2 : World} (h : Below w.heap.size w w1) (u : BeI w.heap.size w1 w2 := by repeat (first | (with_reducible first | exact Go.Proofs.YtchpkjgibloleaaGreat.Z.BeI.r _ | refine Go.Proofs.YtchpkjgibloleaaGreat.Z.BeI.a ?_ _ | refine Go.Proofs.YtchpkjgibloleaaGreat.Z.BeI.n ?_ _ | refine Go.Proofs.YtchpkjgibloleaaGreat.Z.BeI.d ?_ | refine Go.Proofs.YtchpkjgibloleaaGreat.Z.BeI.s ?_ (Qbf.out (by assumption))) | exact Go.Proofs.YtchpkjgibloleaaGreat.Z.BeI.r _)) : Below w.heap.size w w2 := by
 induction u with
 | r => exact h
 | a _ o ih => exact Qby ih o
 | d _ ih => exact bd1 ih
 | n _ m ih => exact bdN ih m
 | s _ hg ih => exact below_set ih hg
def bl : Nat → Nat → List Bool
 | 0, _ => []
 | n + 1, k => (k % 2 == 1) :: bl n (k / 2)
def bb (n k : Nat) : Array Bool := (bl n k).toArray
theorem pu {P : Program} {ops : Array Oper} {Q : Exit → Act → World → Prop} {md : Region.Mode} {S : World → Prop} {ds : List Nat} (i N : Nat) (l' : Array Bool) {oi : Oper} {v : Value} {fuel : Nat} {l : Array Bool} {a a' : Act} {w : World} (h : Qbn P md ops Q S ds fuel l' a' w) (hi : ops[i]? = some oi := by rfl) (hN : oi.dst = some N := by rfl) (hc : anyB md ops l l' i = true := by kernel_rfl) (hQ : ∀ c a w, Q (.panic c) (a.put oi.dst v) w → Q (.panic c) a w := by exact fun _ _ _ h => h) (hw : Region.wanted oi (yielded ops a.tmps) = true := by rfl) (hv : ∀ w, (execOp a.eval oi).run P w = .ok (.value v) w := by intro w'; go_simp; with_reducible rfl) (ha : a.put (some N) v = a' := by simp only [Act.put, List.setIfInBounds_toArray, List.set_cons_zero, List.set_cons_succ, Qbo, Qbp]; rfl) : Qbn P md ops Q S ds (fuel + 1) l a w := pure_ l' hi hN hc hQ (.inl ⟨hw, hv⟩) ha h
theorem pv {P : Program} {ops : Array Oper} {Q : Exit → Act → World → Prop} {md : Region.Mode} {S : World → Prop} {ds : List Nat} {T : Bool × List (List Nat × List Nat)} (hT : rtab md ops = T) (i N : Nat) (l' : Array Bool) {oi : Oper} {v : Value} {fuel : Nat} {l : Array Bool} {a a' : Act} {w : World} (h : Qbn P md ops Q S ds fuel l' a' w) (hi : ops[i]? = some oi := by rfl) (hN : oi.dst = some N := by rfl) (hc : anyT T l.toList l'.toList i = true := by kernel_rfl) (hQ : ∀ c a w, Q (.panic c) (a.put oi.dst v) w → Q (.panic c) a w := by exact fun _ _ _ h => h) (hw : Region.wanted oi (yielded ops a.tmps) = true := by rfl) (hv : ∀ w, (execOp a.eval oi).run P w = .ok (.value v) w := by intro w'; go_simp; with_reducible rfl) (ha : a.put (some N) v = a' := by simp only [Act.put, List.setIfInBounds_toArray, List.set_cons_zero, List.set_cons_succ, Qbo, Qbp]; rfl) : Qbn P md ops Q S ds (fuel + 1) l a w := pure_ l' hi hN (any_of hT hc) hQ (.inl ⟨hw, hv⟩) ha h
theorem pz {P : Program} {ops : Array Oper} {Q : Exit → Act → World → Prop} {md : Region.Mode} {S : World → Prop} {ds : List Nat} (i N : Nat) (l' : Array Bool) {oi : Oper} {fuel : Nat} {l : Array Bool} {a a' : Act} {w : World} (h : Qbn P md ops Q S ds fuel l' a' w) (hi : ops[i]? = some oi := by rfl) (hN : oi.dst = some N := by rfl) (hc : anyB md ops l l' i = true := by kernel_rfl) (hQ : ∀ c a w, Q (.panic c) (a.put oi.dst undef) w → Q (.panic c) a w := by exact fun _ _ _ h => h) (hw : Region.wanted oi (yielded ops a.tmps) = false := by rfl) (ha : a.put (some N) undef = a' := by simp only [Act.put, List.setIfInBounds_toArray, List.set_cons_zero, List.set_cons_succ, Qbo, Qbp]; rfl) : Qbn P md ops Q S ds (fuel + 1) l a w := pure_ l' hi hN hc hQ (.inr ⟨hw, rfl⟩) ha h
theorem py {P : Program} {ops : Array Oper} {Q : Exit → Act → World → Prop} {md : Region.Mode} {S : World → Prop} {ds : List Nat} {T : Bool × List (List Nat × List Nat)} (hT : rtab md ops = T) (i N : Nat) (l' : Array Bool) {oi : Oper} {fuel : Nat} {l : Array Bool} {a a' : Act} {w : World} (h : Qbn P md ops Q S ds fuel l' a' w) (hi : ops[i]? = some oi := by rfl) (hN : oi.dst = some N := by rfl) (hc : anyT T l.toList l'.toList i = true := by kernel_rfl) (hQ : ∀ c a w, Q (.panic c) (a.put oi.dst undef) w → Q (.panic c) a w := by exact fun _ _ _ h => h) (hw : Region.wanted oi (yielded ops a.tmps) = false := by rfl) (ha : a.put (some N) undef = a' := by simp only [Act.put, List.setIfInBounds_toArray, List.set_cons_zero, List.set_cons_succ, Qbo, Qbp]; rfl) : Qbn P md ops Q S ds (fuel + 1) l a w := pure_ l' hi hN (any_of hT hc) hQ (.inr ⟨hw, rfl⟩) ha h
theorem tu {w : World} {P : Program} {ops : Array Oper} {Q : Exit → Act → World → Prop} {md : Region.Mode} {S : World → Prop} {ds : List Nat} (hS : S w) (i N : Nat) (l' : Array Bool) {oi : Oper} {v : Value} {fuel : Nat} {l : Array Bool} {a a' : Act} (h : Qbn P md ops Q S ds fuel l' a' w) (hi : ops[i]? = some oi := by rfl) (hN : oi.dst = some N := by rfl) (hc : takeB md ops ds l l' i = true := by kernel_rfl) (hQ : ∀ c a w, Q (.panic c) (a.put oi.dst v) w → Q (.panic c) a w := by exact fun _ _ _ h => h) (hw : Region.wanted oi (yielded ops a.tmps) = true := by rfl) (hv : ∀ w, S w → (execOp a.eval oi).run P w = .ok (.value v) w := by intro w' hs; (repeat (have s := hs.1; replace hs := hs.2)); go_simp; with_reducible rfl) (ha : a.put (some N) v = a' := by simp only [Act.put, List.setIfInBounds_toArray, List.set_cons_zero, List.set_cons_succ, Qbo, Qbp]; rfl) : Qbn P md ops Q S ds (fuel + 1) l a w := take_ l' hi hN hc hQ (.inl ⟨hw, hv⟩) hS ha h
theorem tv {w : World} {P : Program} {ops : Array Oper} {Q : Exit → Act → World → Prop} {md : Region.Mode} {S : World → Prop} {ds : List Nat} (hS : S w) {T : Bool × List (List Nat × List Nat)} (hT : rtab md ops = T) {B : List Nat} (hB : Qco T.2 B = true) (i N : Nat) (l' : Array Bool) {oi : Oper} {v : Value} {fuel : Nat} {l : Array Bool} {a a' : Act} (h : Qbn P md ops Q S ds fuel l' a' w) (hi : ops[i]? = some oi := by rfl) (hN : oi.dst = some N := by rfl) (hc : takeW T B ds l.toList l'.toList i = true := by kernel_rfl) (hQ : ∀ c a w, Q (.panic c) (a.put oi.dst v) w → Q (.panic c) a w := by exact fun _ _ _ h => h) (hw : Region.wanted oi (yielded ops a.tmps) = true := by rfl) (hv : ∀ w, S w → (execOp a.eval oi).run P w = .ok (.value v) w := by intro w' hs; (repeat (have s := hs.1; replace hs := hs.2)); go_simp; with_reducible rfl) (ha : a.put (some N) v = a' := by simp only [Act.put, List.setIfInBounds_toArray, List.set_cons_zero, List.set_cons_succ, Qbo, Qbp]; rfl) : Qbn P md ops Q S ds (fuel + 1) l a w := take_ l' hi hN (take_ofW hT hB hc) hQ (.inl ⟨hw, hv⟩) hS ha h
theorem bX {P : Program} {OPS : Array Oper} {rest : List Oper} {o : Oper} {a : Act} {Q : Exit → Act → World → Prop} {W : World} {N : Tmp} {cs : Array Value} {t : TypeId}
    (h : ∀ g, g = W.heap.size → ∀ w1, w1.heap[g]? = some (.cells cs t (0, 0)) → Below W.heap.size W w1 → wpList P OPS Q rest (a.put o.dst (.pointer (some ⟨g, 0, none⟩))) w1)
    (hd : o.dst = some N := by rfl) (hgd : o.guard = none := by rfl)
    (hrun : (execOp a.eval o).run P W = .ok (.value (.pointer (some ⟨W.heap.size, 0, none⟩))) (W.alloc (.cells cs t (0, 0))) := by first | (go_simp; done) | (go_simp; rfl)) : wpList P OPS Q (o :: rest) a W := box_event hgd hd hrun h
theorem cN4 {w : World} {g t : Nat} {v0 v1 v2 v3 : Value} (h : w.heap[g]? = some (.cells #[v0, v1, v2, v3] t (0, 0))) : w.cell? ⟨g, 0, none⟩ = some v0 ∧ w.cell? ⟨g, 1, none⟩ = some v1 ∧ w.cell? ⟨g, 2, none⟩ = some v2 ∧ w.cell? ⟨g, 3, none⟩ = some v3 ∧ w.frozen? ⟨g, 0, none⟩ = false ∧ w.frozen? ⟨g, 1, none⟩ = false ∧ w.frozen? ⟨g, 2, none⟩ = false ∧ w.frozen? ⟨g, 3, none⟩ = false := ⟨(Qbh h 0).trans rfl, (Qbh h 1).trans rfl, (Qbh h 2).trans rfl, (Qbh h 3).trans rfl, Qbj h 0, Qbj h 1, Qbj h 2, Qbj h 3⟩
theorem cN5 {w : World} {g t : Nat} {v0 v1 v2 v3 v4 : Value} (h : w.heap[g]? = some (.cells #[v0, v1, v2, v3, v4] t (0, 0))) : w.cell? ⟨g, 0, none⟩ = some v0 ∧ w.cell? ⟨g, 1, none⟩ = some v1 ∧ w.cell? ⟨g, 2, none⟩ = some v2 ∧ w.cell? ⟨g, 3, none⟩ = some v3 ∧ w.cell? ⟨g, 4, none⟩ = some v4 ∧ w.frozen? ⟨g, 0, none⟩ = false ∧ w.frozen? ⟨g, 1, none⟩ = false ∧ w.frozen? ⟨g, 2, none⟩ = false ∧ w.frozen? ⟨g, 3, none⟩ = false ∧ w.frozen? ⟨g, 4, none⟩ = false := ⟨(Qbh h 0).trans rfl, (Qbh h 1).trans rfl, (Qbh h 2).trans rfl, (Qbh h 3).trans rfl, (Qbh h 4).trans rfl, Qbj h 0, Qbj h 1, Qbj h 2, Qbj h 3, Qbj h 4⟩
theorem cN7 {w : World} {g t : Nat} {v0 v1 v2 v3 v4 v5 v6 : Value} (h : w.heap[g]? = some (.cells #[v0, v1, v2, v3, v4, v5, v6] t (0, 0))) : w.cell? ⟨g, 0, none⟩ = some v0 ∧ w.cell? ⟨g, 1, none⟩ = some v1 ∧ w.cell? ⟨g, 2, none⟩ = some v2 ∧ w.cell? ⟨g, 3, none⟩ = some v3 ∧ w.cell? ⟨g, 4, none⟩ = some v4 ∧ w.cell? ⟨g, 5, none⟩ = some v5 ∧ w.cell? ⟨g, 6, none⟩ = some v6 ∧ w.frozen? ⟨g, 0, none⟩ = false ∧ w.frozen? ⟨g, 1, none⟩ = false ∧ w.frozen? ⟨g, 2, none⟩ = false ∧ w.frozen? ⟨g, 3, none⟩ = false ∧ w.frozen? ⟨g, 4, none⟩ = false ∧ w.frozen? ⟨g, 5, none⟩ = false ∧ w.frozen? ⟨g, 6, none⟩ = false := ⟨(Qbh h 0).trans rfl, (Qbh h 1).trans rfl, (Qbh h 2).trans rfl, (Qbh h 3).trans rfl, (Qbh h 4).trans rfl, (Qbh h 5).trans rfl, (Qbh h 6).trans rfl, Qbj h 0, Qbj h 1, Qbj h 2, Qbj h 3, Qbj h 4, Qbj h 5, Qbj h 6⟩
theorem cN8 {w : World} {g t : Nat} {v0 v1 v2 v3 v4 v5 v6 v7 : Value} (h : w.heap[g]? = some (.cells #[v0, v1, v2, v3, v4, v5, v6, v7] t (0, 0))) : w.cell? ⟨g, 0, none⟩ = some v0 ∧ w.cell? ⟨g, 1, none⟩ = some v1 ∧ w.cell? ⟨g, 2, none⟩ = some v2 ∧ w.cell? ⟨g, 3, none⟩ = some v3 ∧ w.cell? ⟨g, 4, none⟩ = some v4 ∧ w.cell? ⟨g, 5, none⟩ = some v5 ∧ w.cell? ⟨g, 6, none⟩ = some v6 ∧ w.cell? ⟨g, 7, none⟩ = some v7 ∧ w.frozen? ⟨g, 0, none⟩ = false ∧ w.frozen? ⟨g, 1, none⟩ = false ∧ w.frozen? ⟨g, 2, none⟩ = false ∧ w.frozen? ⟨g, 3, none⟩ = false ∧ w.frozen? ⟨g, 4, none⟩ = false ∧ w.frozen? ⟨g, 5, none⟩ = false ∧ w.frozen? ⟨g, 6, none⟩ = false ∧ w.frozen? ⟨g, 7, none⟩ = false := ⟨(Qbh h 0).trans rfl, (Qbh h 1).trans rfl, (Qbh h 2).trans rfl, (Qbh h 3).trans rfl, (Qbh h 4).trans rfl, (Qbh h 5).trans rfl, (Qbh h 6).trans rfl, (Qbh h 7).trans rfl, Qbj h 0, Qbj h 1, Qbj h 2, Qbj h 3, Qbj h 4, Qbj h 5, Qbj h 6, Qbj h 7⟩
inductive UpX (g : Nat) : World → Obj → World → Obj → Prop where
 | r (w : World) (o : Obj) : UpX g w o w o
 | a {w w' : World} {o o' : Obj} (h : UpX g w o w' o') (x : Obj) : UpX g w o (w'.alloc x) o'
 | d {w w' : World} {o o' : Obj} (h : UpX g w o w' o') : UpX g w o w'.drew o'
 | n {w w' : World} {o o' : Obj} (h : UpX g w o w' o') (m : Nat) : UpX g w o (w'.drewN m) o'
 | p {w w' : World} {o : Obj} {cs : Array Value} {t : TypeId} {j : Nat} {v : Value} (h : UpX g w o w' (.cells cs t (0, 0))) : UpX g w o (w'.setCell ⟨g, j, none⟩ v) (.cells (cs.setIfInBounds j v) t (0, 0))
 | f {w w' : World} {o o' : Obj} {g' j : Nat} {v : Value} (h : UpX g w o w' o') (hp : g ≠ g') : UpX g w o (w'.setCell ⟨g', j, none⟩ v) o'
theorem bV {w w' : World} {g : Nat} {o o' : Obj} (h : w.heap[g]? = some o) (u : UpX g w o w' o') : w'.heap[g]? = some o' := by
 induction u with
 | r => exact h
 | a _ x ih => exact bA (ih h) x
 | d _ ih => exact bD (ih h)
 | n _ m ih => exact bN (ih h) m
 | p _ ih => exact Qb5 (ih h) _ _ rfl
 | f _ hp ih => exact (Below.heap_setCell _ ⟨_, _, none⟩ _ g hp).trans (ih h)
theorem kB {w w1 w2 : World} {g : Nat} {o : Obj} (h : Qbf (w.heap[g]? = some o)) (hb : Below w1.heap.size w1 w2) (u : UpI w w1 := by with_reducible (repeat (first | exact Go.Proofs.YtchpkjgibloleaaGreat.Z.UpI.r _ | refine Go.Proofs.YtchpkjgibloleaaGreat.Z.UpI.n ?_ _ | refine Go.Proofs.YtchpkjgibloleaaGreat.Z.UpI.d ?_ | refine Go.Proofs.YtchpkjgibloleaaGreat.Z.UpI.a ?_ _))) : Qbf (w2.heap[g]? = some o) := ⟨Qbg (bU h.out u) hb⟩
theorem kP {w w1 w2 : World} {g : Nat} {o o' : Obj} (o2 : Obj) (h : Qbf (w.heap[g]? = some o)) (hb : Below w1.heap.size w1 w2) (u : UpX g w o w1 o' := by with_reducible (repeat (first | exact Go.Proofs.YtchpkjgibloleaaGreat.Z.UpX.r _ _ | apply Go.Proofs.YtchpkjgibloleaaGreat.Z.UpX.n | apply Go.Proofs.YtchpkjgibloleaaGreat.Z.UpX.d | apply Go.Proofs.YtchpkjgibloleaaGreat.Z.UpX.a | apply Go.Proofs.YtchpkjgibloleaaGreat.Z.UpX.p | (apply Go.Proofs.YtchpkjgibloleaaGreat.Z.UpX.f; case hp => first | exact Qbf.out (by assumption) | assumption)))) (e : o' = o2 := by rfl) : Qbf (w2.heap[g]? = some o2) := ⟨e ▸ Qbg (bV h.out u) hb⟩
theorem kF {w w1 w2 : World} {g : Nat} {cs : Array Value} {t : TypeId} (h : Qbf (w.heap[g]? = some (.cells cs t (0, 0)))) (hb : Below w1.heap.size w1 w2) (u : UpX g w (.cells cs t (0, 0)) w1 (.cells cs t (0, 0)) := by with_reducible (repeat (first | exact Go.Proofs.YtchpkjgibloleaaGreat.Z.UpX.r _ _ | apply Go.Proofs.YtchpkjgibloleaaGreat.Z.UpX.n | apply Go.Proofs.YtchpkjgibloleaaGreat.Z.UpX.d | apply Go.Proofs.YtchpkjgibloleaaGreat.Z.UpX.a | apply Go.Proofs.YtchpkjgibloleaaGreat.Z.UpX.p | (apply Go.Proofs.YtchpkjgibloleaaGreat.Z.UpX.f; case hp => first | exact Qbf.out (by assumption) | assumption)))) : Qbf (w2.heap[g]? = some (.cells cs t (0, 0))) := ⟨Qbg (bV h.out u) hb⟩
theorem gW {w w1 w2 : World} {g : Nat} (hg : g = w2.heap.size) (h : Below w.heap.size w w1) (u : BeI w.heap.size w1 w2 := by repeat (first | (with_reducible first | exact Go.Proofs.YtchpkjgibloleaaGreat.Z.BeI.r _ | refine Go.Proofs.YtchpkjgibloleaaGreat.Z.BeI.a ?_ _ | refine Go.Proofs.YtchpkjgibloleaaGreat.Z.BeI.n ?_ _ | refine Go.Proofs.YtchpkjgibloleaaGreat.Z.BeI.d ?_ | refine Go.Proofs.YtchpkjgibloleaaGreat.Z.BeI.s ?_ (Qbf.out (by assumption))) | exact Go.Proofs.YtchpkjgibloleaaGreat.Z.BeI.r _)) : Qbf (w.heap.size ≤ g) := ⟨hg ▸ Qbi (BU h u)⟩
theorem nL {w1 w2 : World} {g g' : Nat} {o : Obj} (hg : g' = w2.heap.size) (h : Qbf (w1.heap[g]? = some o)) (u : UpI w1 w2 := by with_reducible (repeat (first | exact Go.Proofs.YtchpkjgibloleaaGreat.Z.UpI.r _ | refine Go.Proofs.YtchpkjgibloleaaGreat.Z.UpI.n ?_ _ | refine Go.Proofs.YtchpkjgibloleaaGreat.Z.UpI.d ?_ | refine Go.Proofs.YtchpkjgibloleaaGreat.Z.UpI.a ?_ _))) : Qbf (g ≠ g') := ⟨hg ▸ Nat.ne_of_lt (Qbs (bU h.out u))⟩
theorem nR {w1 w2 : World} {g g' : Nat} {o : Obj} (hg : g' = w2.heap.size) (h : Qbf (w1.heap[g]? = some o)) (u : UpI w1 w2 := by with_reducible (repeat (first | exact Go.Proofs.YtchpkjgibloleaaGreat.Z.UpI.r _ | refine Go.Proofs.YtchpkjgibloleaaGreat.Z.UpI.n ?_ _ | refine Go.Proofs.YtchpkjgibloleaaGreat.Z.UpI.d ?_ | refine Go.Proofs.YtchpkjgibloleaaGreat.Z.UpI.a ?_ _))) : Qbf (g' ≠ g) := ⟨hg ▸ Nat.ne_of_gt (Qbs (bU h.out u))⟩
theorem CU {α : Type} {d : Kd α} {w1 w2 : World} {A : Option Addr} {n : Nat} {xs : List α} (h : d.C w1 A n xs) (u : UpI w1 w2 := by with_reducible (repeat (first | exact Go.Proofs.YtchpkjgibloleaaGreat.Z.UpI.r _ | refine Go.Proofs.YtchpkjgibloleaaGreat.Z.UpI.n ?_ _ | refine Go.Proofs.YtchpkjgibloleaaGreat.Z.UpI.d ?_ | refine Go.Proofs.YtchpkjgibloleaaGreat.Z.UpI.a ?_ _))) : d.C w2 A n xs := by
 induction u with
 | r => exact h
 | a _ o ih => exact Kd.C_alloc ih o
 | d _ ih => exact Kd.C_drew ih
 | n _ m ih => exact Kd.C_drewN ih m
theorem gL {P : Program} {ops : Array Oper} {Q : Exit → Act → World → Prop} {rest : List Oper} {oi : Oper} {a : Act} {w : World} (N : Option Tmp) {f : FuncId} {fn : Func} {ax : Array Operand} {ts : Array TypeId} (hf : P.funcs[f]? = some fn) (args : Array Value)
    (h : Calls P f args w fun e w' => ∃ v, e = .returned v ∧ wpList P ops Q rest (a.put N v) w') (hname : (fn.name == "runtime.NumGoroutine") = false := by kernel_rfl) (hd : oi.dst = N := by rfl) (hg : oi.guard = none := by rfl) (hb : fn.body.isSome = true := by rfl)
    (hop : oi.op = .call { callee := .value (.func f), args := ax, argTypes := ts } := by rfl) (hargs : ax.map a.eval = args := by (try simp only [List.map_toArray, List.map_cons, List.map_nil]); first | done | rfl | (simp only [List.length_drop, List.length_take]; rfl)) : wpList P ops Q (oi :: rest) a w := goesL_ N hd hg hf hname hb args hop hargs h
theorem dR {α : Type} {a b : α} {w w' : World} (h : a = b := by first | rfl | (simp; done) | (simp [*]; done)) (d : Qbr w w' := by repeat (first | exact Qbr.refl _ | apply Qbr.step)) : a = b ∧ Qbr w w' := ⟨h, d⟩
theorem eR {α : Type} {a b : α} (h : a = b := by first | rfl | (simp; done) | (simp [*]; done)) : a = b := h
theorem oR {α : Type} {a b : α} (h : a = b := by first | rfl | (simp [Qa9, Qa8] <;> rfl) | (simp [*, Qa9, Qa8] <;> rfl)) : a = b := h
theorem qR {p : Prop} [Decidable p] (h : decide p = true := by first | (with_reducible assumption) | assumption) : p := of_decide_eq_true h
theorem cN1 {w : World} {g t : Nat} {v0 : Value} (h : w.heap[g]? = some (.cells #[v0] t (0, 0))) : w.cell? ⟨g, 0, none⟩ = some v0 ∧ w.frozen? ⟨g, 0, none⟩ = false := ⟨(Qbh h 0).trans rfl, Qbj h 0⟩
theorem cN2 {w : World} {g t : Nat} {v0 v1 : Value} (h : w.heap[g]? = some (.cells #[v0, v1] t (0, 0))) : w.cell? ⟨g, 0, none⟩ = some v0 ∧ w.cell? ⟨g, 1, none⟩ = some v1 ∧ w.frozen? ⟨g, 0, none⟩ = false ∧ w.frozen? ⟨g, 1, none⟩ = false := ⟨(Qbh h 0).trans rfl, (Qbh h 1).trans rfl, Qbj h 0, Qbj h 1⟩
theorem cN3 {w : World} {g t : Nat} {v0 v1 v2 : Value} (h : w.heap[g]? = some (.cells #[v0, v1, v2] t (0, 0))) : w.cell? ⟨g, 0, none⟩ = some v0 ∧ w.cell? ⟨g, 1, none⟩ = some v1 ∧ w.cell? ⟨g, 2, none⟩ = some v2 ∧ w.frozen? ⟨g, 0, none⟩ = false ∧ w.frozen? ⟨g, 1, none⟩ = false ∧ w.frozen? ⟨g, 2, none⟩ = false := ⟨(Qbh h 0).trans rfl, (Qbh h 1).trans rfl, (Qbh h 2).trans rfl, Qbj h 0, Qbj h 1, Qbj h 2⟩
theorem cN6 {w : World} {g t : Nat} {v0 v1 v2 v3 v4 v5 : Value} (h : w.heap[g]? = some (.cells #[v0, v1, v2, v3, v4, v5] t (0, 0))) : w.cell? ⟨g, 0, none⟩ = some v0 ∧ w.cell? ⟨g, 1, none⟩ = some v1 ∧ w.cell? ⟨g, 2, none⟩ = some v2 ∧ w.cell? ⟨g, 3, none⟩ = some v3 ∧ w.cell? ⟨g, 4, none⟩ = some v4 ∧ w.cell? ⟨g, 5, none⟩ = some v5 ∧ w.frozen? ⟨g, 0, none⟩ = false ∧ w.frozen? ⟨g, 1, none⟩ = false ∧ w.frozen? ⟨g, 2, none⟩ = false ∧ w.frozen? ⟨g, 3, none⟩ = false ∧ w.frozen? ⟨g, 4, none⟩ = false ∧ w.frozen? ⟨g, 5, none⟩ = false := ⟨(Qbh h 0).trans rfl, (Qbh h 1).trans rfl, (Qbh h 2).trans rfl, (Qbh h 3).trans rfl, (Qbh h 4).trans rfl, (Qbh h 5).trans rfl, Qbj h 0, Qbj h 1, Qbj h 2, Qbj h 3, Qbj h 4, Qbj h 5⟩
theorem cM2 {w : World} {g t : Nat} {v0 v1 : Value} (h : w.heap[g]? = some (.cells #[v0, v1] t (0, 0))) : w.cell? ⟨g, 0, none⟩ = some v0 ∧ w.cell? ⟨g, 1, none⟩ = some v1 := ⟨(Qbh h 0).trans rfl, (Qbh h 1).trans rfl⟩
theorem cM3 {w : World} {g t : Nat} {v0 v1 v2 : Value} (h : w.heap[g]? = some (.cells #[v0, v1, v2] t (0, 0))) : w.cell? ⟨g, 0, none⟩ = some v0 ∧ w.cell? ⟨g, 1, none⟩ = some v1 ∧ w.cell? ⟨g, 2, none⟩ = some v2 := ⟨(Qbh h 0).trans rfl, (Qbh h 1).trans rfl, (Qbh h 2).trans rfl⟩
theorem cM4 {w : World} {g t : Nat} {v0 v1 v2 v3 : Value} (h : w.heap[g]? = some (.cells #[v0, v1, v2, v3] t (0, 0))) : w.cell? ⟨g, 0, none⟩ = some v0 ∧ w.cell? ⟨g, 1, none⟩ = some v1 ∧ w.cell? ⟨g, 2, none⟩ = some v2 ∧ w.cell? ⟨g, 3, none⟩ = some v3 := ⟨(Qbh h 0).trans rfl, (Qbh h 1).trans rfl, (Qbh h 2).trans rfl, (Qbh h 3).trans rfl⟩
theorem cM5 {w : World} {g t : Nat} {v0 v1 v2 v3 v4 : Value} (h : w.heap[g]? = some (.cells #[v0, v1, v2, v3, v4] t (0, 0))) : w.cell? ⟨g, 0, none⟩ = some v0 ∧ w.cell? ⟨g, 1, none⟩ = some v1 ∧ w.cell? ⟨g, 2, none⟩ = some v2 ∧ w.cell? ⟨g, 3, none⟩ = some v3 ∧ w.cell? ⟨g, 4, none⟩ = some v4 := ⟨(Qbh h 0).trans rfl, (Qbh h 1).trans rfl, (Qbh h 2).trans rfl, (Qbh h 3).trans rfl, (Qbh h 4).trans rfl⟩
theorem cM6 {w : World} {g t : Nat} {v0 v1 v2 v3 v4 v5 : Value} (h : w.heap[g]? = some (.cells #[v0, v1, v2, v3, v4, v5] t (0, 0))) : w.cell? ⟨g, 0, none⟩ = some v0 ∧ w.cell? ⟨g, 1, none⟩ = some v1 ∧ w.cell? ⟨g, 2, none⟩ = some v2 ∧ w.cell? ⟨g, 3, none⟩ = some v3 ∧ w.cell? ⟨g, 4, none⟩ = some v4 ∧ w.cell? ⟨g, 5, none⟩ = some v5 := ⟨(Qbh h 0).trans rfl, (Qbh h 1).trans rfl, (Qbh h 2).trans rfl, (Qbh h 3).trans rfl, (Qbh h 4).trans rfl, (Qbh h 5).trans rfl⟩
theorem cM7 {w : World} {g t : Nat} {v0 v1 v2 v3 v4 v5 v6 : Value} (h : w.heap[g]? = some (.cells #[v0, v1, v2, v3, v4, v5, v6] t (0, 0))) : w.cell? ⟨g, 0, none⟩ = some v0 ∧ w.cell? ⟨g, 1, none⟩ = some v1 ∧ w.cell? ⟨g, 2, none⟩ = some v2 ∧ w.cell? ⟨g, 3, none⟩ = some v3 ∧ w.cell? ⟨g, 4, none⟩ = some v4 ∧ w.cell? ⟨g, 5, none⟩ = some v5 ∧ w.cell? ⟨g, 6, none⟩ = some v6 := ⟨(Qbh h 0).trans rfl, (Qbh h 1).trans rfl, (Qbh h 2).trans rfl, (Qbh h 3).trans rfl, (Qbh h 4).trans rfl, (Qbh h 5).trans rfl, (Qbh h 6).trans rfl⟩
theorem cM8 {w : World} {g t : Nat} {v0 v1 v2 v3 v4 v5 v6 v7 : Value} (h : w.heap[g]? = some (.cells #[v0, v1, v2, v3, v4, v5, v6, v7] t (0, 0))) : w.cell? ⟨g, 0, none⟩ = some v0 ∧ w.cell? ⟨g, 1, none⟩ = some v1 ∧ w.cell? ⟨g, 2, none⟩ = some v2 ∧ w.cell? ⟨g, 3, none⟩ = some v3 ∧ w.cell? ⟨g, 4, none⟩ = some v4 ∧ w.cell? ⟨g, 5, none⟩ = some v5 ∧ w.cell? ⟨g, 6, none⟩ = some v6 ∧ w.cell? ⟨g, 7, none⟩ = some v7 := ⟨(Qbh h 0).trans rfl, (Qbh h 1).trans rfl, (Qbh h 2).trans rfl, (Qbh h 3).trans rfl, (Qbh h 4).trans rfl, (Qbh h 5).trans rfl, (Qbh h 6).trans rfl, (Qbh h 7).trans rfl⟩
theorem kV {w w1 : World} {g : Nat} {o o' o2 : Obj} (h : Qbf (w.heap[g]? = some o)) (u : UpX g w o w1 o' := by with_reducible (repeat (first | exact Go.Proofs.YtchpkjgibloleaaGreat.Z.UpX.r _ _ | apply Go.Proofs.YtchpkjgibloleaaGreat.Z.UpX.n | apply Go.Proofs.YtchpkjgibloleaaGreat.Z.UpX.d | apply Go.Proofs.YtchpkjgibloleaaGreat.Z.UpX.a | apply Go.Proofs.YtchpkjgibloleaaGreat.Z.UpX.p | (apply Go.Proofs.YtchpkjgibloleaaGreat.Z.UpX.f; case hp => first | exact Qbf.out (by assumption) | assumption)))) (e : o' = o2 := by rfl) : w1.heap[g]? = some o2 := e ▸ bV h.out u
theorem SU {α : Type} {d : Kd α} {e : Nat} {w w1 : World} {base : Nat} {ok : Nat → Prop} {v : Value} {xs : List α} (h : d.S e w base ok v xs) (u : UpI w w1 := by with_reducible (repeat (first | exact Go.Proofs.YtchpkjgibloleaaGreat.Z.UpI.r _ | refine Go.Proofs.YtchpkjgibloleaaGreat.Z.UpI.n ?_ _ | refine Go.Proofs.YtchpkjgibloleaaGreat.Z.UpI.d ?_ | refine Go.Proofs.YtchpkjgibloleaaGreat.Z.UpI.a ?_ _))) : d.S e w1 base ok v xs := by
 induction u with
 | r => exact h
 | a _ o ih => exact Kd.S_alloc ih o
 | d _ ih => exact Kd.S_drew ih
 | n _ m ih => exact Kd.S_drewN ih m
theorem cl {w w1 : World} {p : Addr} {v : Value} (h : Qbf (Below w.heap.size w w1)) (c : w.cell? p = some v) : w1.cell? p = some v := (h.out.cell (wblt w c)).trans c
theorem bc {w : World} {g : Nat} {t : TypeId} {cs : Array Value} (h : Qbf (w.heap[g]? = some (.cells cs t (0, 0)))) (i : Nat) {v : Value} (e : cs[i]? = some v := by rfl) : w.cell? ⟨g, i, none⟩ = some v := (Qbh h.out i).trans e
theorem nV {w1 w2 : World} {g g' : Nat} {o o' : Obj} (hg : g' = w2.heap.size) (h : Qbf (w1.heap[g]? = some o)) (u : UpX g w1 o w2 o' := by with_reducible (repeat (first | exact Go.Proofs.YtchpkjgibloleaaGreat.Z.UpX.r _ _ | apply Go.Proofs.YtchpkjgibloleaaGreat.Z.UpX.n | apply Go.Proofs.YtchpkjgibloleaaGreat.Z.UpX.d | apply Go.Proofs.YtchpkjgibloleaaGreat.Z.UpX.a | apply Go.Proofs.YtchpkjgibloleaaGreat.Z.UpX.p | (apply Go.Proofs.YtchpkjgibloleaaGreat.Z.UpX.f; case hp => first | exact Qbf.out (by assumption) | assumption)))) : Qbf (g ≠ g') := ⟨hg ▸ Nat.ne_of_lt (Qbs (bV h.out u))⟩
theorem nW {w1 w2 : World} {g g' : Nat} {o o' : Obj} (hg : g' = w2.heap.size) (h : Qbf (w1.heap[g]? = some o)) (u : UpX g w1 o w2 o' := by with_reducible (repeat (first | exact Go.Proofs.YtchpkjgibloleaaGreat.Z.UpX.r _ _ | apply Go.Proofs.YtchpkjgibloleaaGreat.Z.UpX.n | apply Go.Proofs.YtchpkjgibloleaaGreat.Z.UpX.d | apply Go.Proofs.YtchpkjgibloleaaGreat.Z.UpX.a | apply Go.Proofs.YtchpkjgibloleaaGreat.Z.UpX.p | (apply Go.Proofs.YtchpkjgibloleaaGreat.Z.UpX.f; case hp => first | exact Qbf.out (by assumption) | assumption)))) : Qbf (g' ≠ g) := ⟨hg ▸ Nat.ne_of_gt (Qbs (bV h.out u))⟩
theorem sB {w w1 W w2 : World} (h : Qbf (Below w.heap.size w w1)) (hb : Below W.heap.size W w2) (u : BeI w.heap.size w1 W := by repeat (first | (with_reducible first | exact Go.Proofs.YtchpkjgibloleaaGreat.Z.BeI.r _ | refine Go.Proofs.YtchpkjgibloleaaGreat.Z.BeI.a ?_ _ | refine Go.Proofs.YtchpkjgibloleaaGreat.Z.BeI.n ?_ _ | refine Go.Proofs.YtchpkjgibloleaaGreat.Z.BeI.d ?_ | refine Go.Proofs.YtchpkjgibloleaaGreat.Z.BeI.s ?_ (Qbf.out (by assumption))) | exact Go.Proofs.YtchpkjgibloleaaGreat.Z.BeI.r _)) : Qbf (Below w.heap.size w w2) := ⟨Qbw (BU h.out u) hb⟩
theorem bF : ¬ (false = true) := by decide
theorem bY {P : Program} {OPS : Array Oper} {rest : List Oper} {o : Oper} {a : Act} {Q : Exit → Act → World → Prop} {W w w1 : World} {N : Tmp} {cs : Array Value} {t : TypeId} (HB : Below w.heap.size w w1)
 (h : ∀ g w', g = W.heap.size → Below W.heap.size W w' → Qbf (w'.heap[g]? = some (.cells cs t (0, 0))) → Qbf (w.heap.size ≤ g) → Qbf (Below w.heap.size w w') → wpList P OPS Q rest (a.put o.dst (.pointer (some ⟨g, 0, none⟩))) w') (u : BeI w.heap.size w1 W := by repeat (first | (with_reducible first | exact Go.Proofs.YtchpkjgibloleaaGreat.Z.BeI.r _ | refine Go.Proofs.YtchpkjgibloleaaGreat.Z.BeI.a ?_ _ | refine Go.Proofs.YtchpkjgibloleaaGreat.Z.BeI.n ?_ _ | refine Go.Proofs.YtchpkjgibloleaaGreat.Z.BeI.d ?_ | refine Go.Proofs.YtchpkjgibloleaaGreat.Z.BeI.s ?_ (Qbf.out (by assumption))) | exact Go.Proofs.YtchpkjgibloleaaGreat.Z.BeI.r _)) (hd : o.dst = some N := by rfl) (hgd : o.guard = none := by rfl)
 (hrun : (execOp a.eval o).run P W = .ok (.value (.pointer (some ⟨W.heap.size, 0, none⟩))) (W.alloc (.cells cs t (0, 0))) := by first | (go_simp; done) | (go_simp; rfl)) : wpList P OPS Q (o :: rest) a W := bX (fun g hg w' aC hb => h g w' hg hb ⟨aC⟩ (gW hg HB u) ⟨Qbw (BU HB u) hb⟩) hd hgd hrun
theorem gD {P : Program} {ops : Array Oper} {rest : List Oper} {o : Oper} {a : Act} {Q : Exit → Act → World → Prop} {W : World} (N : Tmp) (h : wpList P ops Q (o :: rest) a W) (hN : o.dst = some N := by exact rfl) : wpList P ops Q (o :: rest) a W := h
theorem gG {P : Program} {ops : Array Oper} {Q : Exit → Act → World → Prop} {oi : Oper} {N : Option Tmp} {a : Act} {w : World} {K : Act → World → Prop} {f : FuncId} {fn : Func} {ax : Array Operand} {ts : Array TypeId} (hf : P.funcs[f]? = some fn) (args : Array Value) (h : Calls P f args w fun e w' => ∃ v, e = .returned v ∧ K (a.put N v) w')
 (hname : (fn.name == "runtime.NumGoroutine") = false := by kernel_rfl) (hb : fn.body.isSome = true := by rfl) (hw : Region.wanted oi (yielded ops a.tmps) = true := by rfl) (hN : oi.dst = N := by rfl) (hop : oi.op = .call { callee := .value (.func f), args := ax, argTypes := ts } := by rfl)
 (hargs : ax.map a.eval = args := by (try simp only [List.map_toArray, List.map_cons, List.map_nil]); first | done | rfl | (simp only [List.length_drop, List.length_take]; rfl)) : if Region.wanted oi (yielded ops a.tmps) = true then Oper.wp P oi a w K Q else K (a.put N undef) w := goes_ hf hname hb args hw hN hop hargs h
theorem pL {w1 w2 : World} {g g' : Nat} {o : Obj} (hg : g' = w2.heap.size) (h : Qbf (w1.heap[g]? = some o)) (u : UpI w1 w2 := by with_reducible (repeat (first | exact Go.Proofs.YtchpkjgibloleaaGreat.Z.UpI.r _ | refine Go.Proofs.YtchpkjgibloleaaGreat.Z.UpI.n ?_ _ | refine Go.Proofs.YtchpkjgibloleaaGreat.Z.UpI.d ?_ | refine Go.Proofs.YtchpkjgibloleaaGreat.Z.UpI.a ?_ _))) : g ≠ g' := (nL hg h u).out
theorem pR {w1 w2 : World} {g g' : Nat} {o : Obj} (hg : g' = w2.heap.size) (h : Qbf (w1.heap[g]? = some o)) (u : UpI w1 w2 := by with_reducible (repeat (first | exact Go.Proofs.YtchpkjgibloleaaGreat.Z.UpI.r _ | refine Go.Proofs.YtchpkjgibloleaaGreat.Z.UpI.n ?_ _ | refine Go.Proofs.YtchpkjgibloleaaGreat.Z.UpI.d ?_ | refine Go.Proofs.YtchpkjgibloleaaGreat.Z.UpI.a ?_ _))) : g' ≠ g := (nR hg h u).out
theorem pV {w1 w2 : World} {g g' : Nat} {o o' : Obj} (hg : g' = w2.heap.size) (h : Qbf (w1.heap[g]? = some o)) (u : UpX g w1 o w2 o' := by with_reducible (repeat (first | exact Go.Proofs.YtchpkjgibloleaaGreat.Z.UpX.r _ _ | apply Go.Proofs.YtchpkjgibloleaaGreat.Z.UpX.n | apply Go.Proofs.YtchpkjgibloleaaGreat.Z.UpX.d | apply Go.Proofs.YtchpkjgibloleaaGreat.Z.UpX.a | apply Go.Proofs.YtchpkjgibloleaaGreat.Z.UpX.p | (apply Go.Proofs.YtchpkjgibloleaaGreat.Z.UpX.f; case hp => first | exact Qbf.out (by assumption) | assumption)))) : g ≠ g' := (nV hg h u).out
theorem pW {w1 w2 : World} {g g' : Nat} {o o' : Obj} (hg : g' = w2.heap.size) (h : Qbf (w1.heap[g]? = some o)) (u : UpX g w1 o w2 o' := by with_reducible (repeat (first | exact Go.Proofs.YtchpkjgibloleaaGreat.Z.UpX.r _ _ | apply Go.Proofs.YtchpkjgibloleaaGreat.Z.UpX.n | apply Go.Proofs.YtchpkjgibloleaaGreat.Z.UpX.d | apply Go.Proofs.YtchpkjgibloleaaGreat.Z.UpX.a | apply Go.Proofs.YtchpkjgibloleaaGreat.Z.UpX.p | (apply Go.Proofs.YtchpkjgibloleaaGreat.Z.UpX.f; case hp => first | exact Qbf.out (by assumption) | assumption)))) : g' ≠ g := (nW hg h u).out
theorem eqA47 (d : Nat) (w : World) (x0 y0 x1 y1 : Int) :
    (Op.equalIn (d + 2) 47 (.agg #[.int .i64 x0, .int .i64 x1]) (.agg #[.int .i64 y0, .int .i64 y1])).run Tryz.prog w = .ok (x0 == y0 && (x1 == y1)) w := by
 refine eqA_of Tryz.underlying47 (by kernel_rfl) ?_
 refine eqf_cons (by rfl) (by go_simp; rfl) (by go_simp; rfl) (by go_simp) ?_
 exact eqf_last (by rfl) (by go_simp; rfl) (by go_simp; rfl) (by go_simp)
section
variable {P : Program} {ops : Array Oper} {rest : List Oper} {o : Oper} {a : Act} {Q : Exit → Act → World → Prop}
theorem Qae {w : World} (hgd : o.guard = none) (hN : o.dst = none) (ty : TypeId) (x y : Operand) (ho : o.op = .store ty x y)
    (g : Nat) (cells : Array Value) (hx : a.eval x = .pointer (some ⟨g, 0, none⟩)) (hy : a.eval y = .agg cells)
    (t : TypeId) (old : Array Value) (hg : w.heap[g]? = some (.cells old t (0, 0))) (hi : (P.info? ty).map (·.size) = some cells.size)
    (hold : old.size = cells.size) (h1 : cells.all (·.oneCell') = true)
    (h : ∀ w1 : World, w1.heap[g]? = some (.cells cells t (0, 0)) → (∀ i, i ≠ g → w1.heap[i]? = w.heap[i]?) → (∀ B w0, B ≤ g → Below B w0 w → Below B w0 w1) → wpList P ops Q rest a w1) : wpList P ops Q (o :: rest) a w := by
 refine wpList_store_row hgd ty x y ho g cells hx hy t old hg hi hold h1 ?_
 rw [hN]
 exact h _ (setRow_heap w g old cells t (0, 0) hg) (fun i hi => setRow_other w g i cells hi) (fun B w0 hb hB => below_setRow hB hb cells)
end
section
variable {P : Program} {α : Type} {o : Oper} {a : Act} {ops : Array Oper} {rest : List Oper} {Q : Exit → Act → World → Prop}
theorem Kd.R_make0 (d : Kd α) {w0 W : World} (base e : Nat) (hgd : o.guard = none) {N : Tmp} (hd : o.dst = some N) (t : TypeId) (x y : Operand) (ho : o.op = .makeSlice t x y) (n : Int) (hx : a.eval x = .int .i64 0) (hy : a.eval y = .int .i64 n)
    (ht : P.underlying t = some (.slice e)) (z : Value) (bytes : Nat) (hinfo : (P.info? e).map (fun i => (i.zero, i.size, i.bytes)) = some (some z, d.sz, bytes)) (hz : z.cells.size = d.sz) (hs0 : 0 < d.sz) (hb0 : 0 < bytes)
    (z0 : α) {ok okp : Nat → Prop} (hzero : d.M W base okp z0 z.cells.toList) (hok : ∀ k, okp k → ok k) (hfresh : ok W.heap.size) (h0 : 0 ≤ n) (hl : n.toNat * bytes ≤ 281474976710656) (HB : Below base w0 W) (hbase : base ≤ W.heap.size)
    (h : ∀ v1 w1, d.R e w1 base ok v1 [] → Below base w0 w1 → W.grownBy w1 none → (∃ b, v1.ownBlock = some b ∧ W.heap.size ≤ b) → wpList P ops Q rest (a.put o.dst v1) w1) : wpList P ops Q (o :: rest) a W := by
 obtain ⟨m, rfl⟩ := Int.eq_ofNat_of_zero_le h0
 simp only [Int.toNat_natCast] at hl
 obtain ⟨i0, hi, hzz⟩ := Option.map_eq_some_iff.1 hinfo
 simp only [Prod.mk.injEq] at hzz
 obtain ⟨hz0, hz1, hz2⟩ := hzz
 have hm : m ≤ 281474976710656 := Nat.le_trans (Nat.le_mul_of_pos_right _ hb0) hl
 obtain ⟨w', hr, hown, hgr⟩ := run_make_own (P := P) W base t e i0 z d.sz ht hi hz0 hz1 .i64 .i64 m (by rw [hz2, Nat.mul_comm]; exact hl) (by simp [maxLen]; omega) hbase
 have hr0 := hr
 have hr1 := run_make (P := P) W t e i0 z ht hi hz0 .i64 .i64 0 (m : Int) (by omega) (by omega) (by
     have h3 : ((i0.bytes * m : Nat) : Int) ≤ 281474976710656 := by rw [hz2, Nat.mul_comm]; omega
     rwa [Int.natCast_mul] at h3) (by omega)
 have he : w' = W.alloc (.cells (madeCells z.cells ((m : Int).toNat * i0.size)) e) := by
  rw [hr] at hr1
  simpa using hr1
 subst he
 have hrun : (execOp a.eval o).run P W = .ok (.value (.slice (some ⟨W.heap.size, 0, none⟩) 0 m)) (W.alloc (.cells (madeCells z.cells ((m : Int).toNat * i0.size)) e)) := by simp [execOp, ho, hx, hy, hr0]
 refine Kd.event_run hgd hrun (h _ _ ⟨fun k hk => ?_, [], ?_, ?_⟩ (HB.alloc hbase _) hgr ⟨W.heap.size, by simp [Value.ownBlock], Nat.le_refl _⟩)
 ·have : W.heap.size = k := by simpa [Value.ownBlock] using hk
  subst this
  exact hfresh
 ·simpa using hown
 ·exact Reps.none _ _
end
def Qaw.f (a0 : Int) : Option (Bool) := some ((Int.tmod a0 2) == 1)
theorem Qaw.calls (a0 : Int) (r : Bool) (w : World) (h : Qaw.f a0 = some r) :
 Calls Tryz.prog 135 #[.int .i64 a0] w fun e w' => e = .returned (.bool r) ∧ Qbr w w' := by
 have H : (some ((Int.tmod a0 2) == 1)) = some r := h
 clear h
 obtain rfl := Option.some.inj H
 go_enter Tryz.func135, Tryz.ntmps135
 go_wp2
 go_ret
 exact dR
def Qbd.f (a0 : Int) : Option (Int) := some (wrap64 (Int.tdiv a0 2))
theorem Qbd.calls (a0 r : Int) (w : World) (h : Qbd.f a0 = some r) :
 Calls Tryz.prog 152 #[.int .i64 a0] w fun e w' => e = .returned (.int .i64 r) ∧ Qbr w w' := by
 have H : (some (wrap64 (Int.tdiv a0 2))) = some r := h
 clear h
 obtain rfl := Option.some.inj H
 go_enter Tryz.func152, Tryz.ntmps152
 go_wp2
 go_ret
 exact dR
def Qbb.f (a0 a1 a2 : Int) : Option (Bool) := (Qaw.f a0).bind fun t179 => (if t179 = true then (if a0 ≥ 0 then ((Qbd.f a0).bind fun jG => (some (decide (jG < a2)))) else (some false)) else (if a0 ≥ 0 then ((Qbd.f a0).bind fun t181 => (some (decide (t181 < a1)))) else (some false)))
theorem Qbb.calls (a0 a1 a2 : Int) (r : Bool) (w : World) (h : Qbb.f a0 a1 a2 = some r) :
 Calls Tryz.prog 138 #[.int .i64 a0, .int .i64 a1, .int .i64 a2] w fun e w' => e = .returned (.bool r) ∧ Qbr w w' := by
 have H : ((Qaw.f a0).bind fun t179 => (if t179 = true then (if a0 ≥ 0 then ((Qbd.f a0).bind fun jG => (some (decide (jG < a2)))) else (some false)) else (if a0 ≥ 0 then ((Qbd.f a0).bind fun t181 => (some (decide (t181 < a1)))) else (some false)))) = some r := h
 clear h
 replace H := Option.bind_eq_some_iff.mp H
 obtain ⟨t179, A40, H⟩ := H
 have A4 := As0 A40
 clear A40
 by_cases c5 : t179 = true
 ·subst c5
  rw [if_pos rfl] at H
  by_cases c6 : a0 ≥ 0
  rotate_left
  ·rw [if_neg c6] at H
   have c6b0 := decide_eq_false c6
   clear c6
   obtain rfl := Option.some.inj H
   go_enter Tryz.func138, Tryz.ntmps138
   go_wp2_with (first | ((with_reducible refine Qbk (f := 135) rfl ?_); refine gL (some 8) Tryz.func135 #[.int .i64 a0] ?_; (with_reducible refine (Qaw.calls a0 true _ A4.out).mono ?_); rintro e w' ⟨rfl, ⟨nd, rfl⟩⟩; refine ⟨_, rfl, ?_⟩))
   go_ret
   exact dR
  rw [if_pos c6] at H
  have c6b0 := decide_eq_true c6
  clear c6
  replace H := Option.bind_eq_some_iff.mp H
  obtain ⟨jG, A70, H⟩ := H
  have A7 := As0 A70
  clear A70
  obtain rfl := Option.some.inj H
  go_enter Tryz.func138, Tryz.ntmps138
  go_wp2_with (first | ((with_reducible refine Qbk (f := 135) rfl ?_); refine gL (some 8) Tryz.func135 #[.int .i64 a0] ?_; (with_reducible refine (Qaw.calls a0 true _ A4.out).mono ?_); rintro e w' ⟨rfl, ⟨nd, rfl⟩⟩; refine ⟨_, rfl, ?_⟩) | (go_at_call 152; (with_reducible refine (Qbd.calls a0 jG _ A7.out).mono ?_); rintro e w' ⟨rfl, ⟨nd, rfl⟩⟩))
  go_ret
  exact dR
 replace c5 := Bool.eq_false_iff.mpr c5
 subst c5
 rw [if_neg bF] at H
 by_cases c8 : a0 ≥ 0
 rotate_left
 ·rw [if_neg c8] at H
  have c8b0 := decide_eq_false c8
  clear c8
  obtain rfl := Option.some.inj H
  go_enter Tryz.func138, Tryz.ntmps138
  go_wp2_with (first | ((with_reducible refine Qbk (f := 135) rfl ?_); refine gL (some 8) Tryz.func135 #[.int .i64 a0] ?_; (with_reducible refine (Qaw.calls a0 false _ A4.out).mono ?_); rintro e w' ⟨rfl, ⟨nd, rfl⟩⟩; refine ⟨_, rfl, ?_⟩))
  go_ret
  exact dR
 rw [if_pos c8] at H
 have c8b0 := decide_eq_true c8
 clear c8
 replace H := Option.bind_eq_some_iff.mp H
 obtain ⟨t181, A90, H⟩ := H
 have A9 := As0 A90
 clear A90
 obtain rfl := Option.some.inj H
 go_enter Tryz.func138, Tryz.ntmps138
 go_wp2_with (first | ((with_reducible refine Qbk (f := 135) rfl ?_); refine gL (some 8) Tryz.func135 #[.int .i64 a0] ?_; (with_reducible refine (Qaw.calls a0 false _ A4.out).mono ?_); rintro e w' ⟨rfl, ⟨nd, rfl⟩⟩; refine ⟨_, rfl, ?_⟩) | (go_at_call 152; (with_reducible refine (Qbd.calls a0 t181 _ A9.out).mono ?_); rintro e w' ⟨rfl, ⟨nd, rfl⟩⟩))
 go_ret
 exact dR
def location_Slot.f (a0 : Int) : Option (Int) := some (wrap64 ((wrap64 (2 * a0)) + 1))
theorem location_Slot.calls (a0 r : Int) (w : World) (h : location_Slot.f a0 = some r) :
 Calls Tryz.prog 151 #[.int .i64 a0] w fun e w' => e = .returned (.int .i64 r) ∧ Qbr w w' := by
 have H : (some (wrap64 ((wrap64 (2 * a0)) + 1))) = some r := h
 clear h
 obtain rfl := Option.some.inj H
 go_enter Tryz.func151, Tryz.ntmps151
 go_wp2
 go_ret
 exact dR
def location_Reg.f (a0 : Int) : Option (Int) := some (wrap64 (2 * a0))
theorem location_Reg.calls (a0 r : Int) (w : World) (h : location_Reg.f a0 = some r) :
 Calls Tryz.prog 161 #[.int .i64 a0] w fun e w' => e = .returned (.int .i64 r) ∧ Qbr w w' := by
 have H : (some (wrap64 (2 * a0))) = some r := h
 clear h
 obtain rfl := Option.some.inj H
 go_enter Tryz.func161, Tryz.ntmps161
 go_wp2
 go_ret
 exact dR
theorem uD_calls (x : Int) (b : Bool) (h : decide (1 ≤ x ∧ x ≤ 16) = b) (w : World) : Calls Tryz.prog 99 #[.int .i64 x] w fun e w' => e = .returned (.bool b) ∧ Qbr w w' := by
 go_enter Tryz.func99, Tryz.ntmps99
 go_wp2
 all_goals go_ret
 all_goals exact ⟨by rw [← h]; simp <;> omega, Qbr.refl _⟩
theorem uA_calls (x : Int) (b : Bool) (h : decide (2 ≤ x ∧ x ≤ 17) = b) (w : World) : Calls Tryz.prog 101 #[.int .i64 x] w fun e w' => e = .returned (.bool b) ∧ Qbr w w' := by
 go_enter Tryz.func101, Tryz.ntmps101
 go_wp2
 all_goals go_ret
 all_goals exact ⟨by rw [← h]; simp <;> omega, Qbr.refl _⟩
theorem uB_calls (x : Int) (b : Bool) (h : decide (5 ≤ x ∧ x ≤ 16) = b) (w : World) : Calls Tryz.prog 102 #[.int .i64 x] w fun e w' => e = .returned (.bool b) ∧ Qbr w w' := by
 go_enter Tryz.func102, Tryz.ntmps102
 go_wp2
 all_goals go_ret
 all_goals exact ⟨by rw [← h]; simp <;> omega, Qbr.refl _⟩
theorem Qen (x n : Int) (b : Bool) (h : decide (0 ≤ x ∧ x < n) = b) (w : World) : Calls Tryz.prog 100 #[.int .i64 x, .int .i64 n] w fun e w' => e = .returned (.bool b) ∧ Qbr w w' := by
 go_enter Tryz.func100, Tryz.ntmps100
 go_wp2
 all_goals go_ret
 all_goals exact ⟨by rw [← h]; simp <;> omega, Qbr.refl _⟩
theorem instr_walk (op d a b im n : Int) (w : World) (r : Int) (p1 p2 pD pA pB jD jA jB zd za zb o1 zi : Bool) (c1 : decide (op < 1) = p1) (c2 : decide (op > 17) = p2) (hD : decide (1 ≤ op ∧ op ≤ 16) = pD) (hA : decide (2 ≤ op ∧ op ≤ 17) = pA) (hB : decide (5 ≤ op ∧ op ≤ 16) = pB)
    (iD : decide (0 ≤ d ∧ d < n) = jD) (iA : decide (0 ≤ a ∧ a < n) = jA) (iB : decide (0 ≤ b ∧ b < n) = jB) (ezd : (d != 0) = zd) (eza : (a != 0) = za) (ezb : (b != 0) = zb) (eo1 : (op != 1) = o1) (ezi : (im != 0) = zi)
    (h : (bif p1 || p2 then (8 : Int) else bif (pD && !jD) || (pA && !jA) || (pB && !jB) then 9 else bif (!pD && zd) || (!pA && za) || (!pB && zb) || (o1 && zi) then 12 else 0) = r) :
    Calls Tryz.prog 54 #[.agg #[.int .i64 op, .int .i64 d, .int .i64 a, .int .i64 b, .int .i64 im], .int .i64 n] w fun e w' => e = .returned (.int .i64 r) ∧ Below w.heap.size w w' := by
 have hu := Tryz.underlying41
 go_enter Tryz.func54, Tryz.ntmps54
 go_wp2_with (first
  | ((with_reducible refine gD 2 ?_); refine bX ?_; intro gb hgb w1 aC hb; have HB := Qbf.mk hb; have z0 := Qbh aC 0; have z1 := Qbh aC 1; have z2 := Qbh aC 2; have z3 := Qbh aC 3; have z4 := Qbh aC 4; simp only [List.getElem?_toArray, List.getElem?_cons_zero, List.getElem?_cons_succ] at z0 z1 z2 z3 z4; clear aC hb hgb)
  | (go_at_call 99; (with_reducible refine (uD_calls op _ hD _).mono ?_); rintro e w' ⟨rfl, ⟨nd, rfl⟩⟩)
  | (go_at_call 101; (with_reducible refine (uA_calls op _ hA _).mono ?_); rintro e w' ⟨rfl, ⟨nd, rfl⟩⟩)
  | (go_at_call 102; (with_reducible refine (uB_calls op _ hB _).mono ?_); rintro e w' ⟨rfl, ⟨nd, rfl⟩⟩)
  | (go_at_call 100; (with_reducible refine (Qen d n _ iD _).mono ?_); rintro e w' ⟨rfl, ⟨nd, rfl⟩⟩)
  | (go_at_call 100; (with_reducible refine (Qen a n _ iA _).mono ?_); rintro e w' ⟨rfl, ⟨nd, rfl⟩⟩)
  | (go_at_call 100; (with_reducible refine (Qen b n _ iB _).mono ?_); rintro e w' ⟨rfl, ⟨nd, rfl⟩⟩))
 all_goals go_ret
 all_goals exact ⟨by rw [← h]; simp_all, by repeat (first | exact HB.out | apply Qb4 | apply Qc4)⟩
def insR (op d a b im n : Int) : Int :=
 bif decide (op < 1) || decide (op > 17) then (8 : Int)
 else bif (decide (1 ≤ op ∧ op ≤ 16) && !decide (0 ≤ d ∧ d < n)) || (decide (2 ≤ op ∧ op ≤ 17) && !decide (0 ≤ a ∧ a < n)) || (decide (5 ≤ op ∧ op ≤ 16) && !decide (0 ≤ b ∧ b < n)) then 9
 else bif (!decide (1 ≤ op ∧ op ≤ 16) && (d != 0)) || (!decide (2 ≤ op ∧ op ≤ 17) && (a != 0)) || (!decide (5 ≤ op ∧ op ≤ 16) && (b != 0)) || ((op != 1) && (im != 0)) then 12 else 0
theorem rinstr_calls (a0_0 a0_1 a0_2 a0_3 a0_4 a1 : Int) (w : World) :
    Calls Tryz.prog 54 #[.agg #[.int .i64 a0_0, .int .i64 a0_1, .int .i64 a0_2, .int .i64 a0_3, .int .i64 a0_4], .int .i64 a1] w fun e w' => e = .returned (.int .i64 (insR a0_0 a0_1 a0_2 a0_3 a0_4 a1)) ∧ Below w.heap.size w w' :=
 instr_walk a0_0 a0_1 a0_2 a0_3 a0_4 a1 w (insR a0_0 a0_1 a0_2 a0_3 a0_4 a1) _ _ _ _ _ _ _ _ _ _ _ _ _ rfl rfl rfl rfl rfl rfl rfl rfl rfl rfl rfl rfl rfl rfl
theorem term_walk (kd a tt el n m : Int) (w : World) (r : Int) (p1 p2 p3 jA jT jE za zt ze : Bool) (c1 : (kd == 1) = p1) (c2 : (kd == 2) = p2) (c3 : (kd == 3) = p3)
    (iA : decide (0 ≤ a ∧ a < n) = jA) (iT : decide (0 ≤ tt ∧ tt < m) = jT) (iE : decide (0 ≤ el ∧ el < m) = jE) (eza : (a != 0) = za) (ezt : (tt != 0) = zt) (eze : (el != 0) = ze)
    (h : (bif p1 then (bif !jT then 11 else bif za || ze then 12 else 0) else bif p2 then (bif !jA then 9 else bif !jT || !jE then 11 else 0) else bif p3 then (bif !jA then 9 else bif zt || ze then 12 else 0) else (16 : Int)) = r) :
    Calls Tryz.prog 55 #[.agg #[.int .i64 kd, .int .i64 a, .int .i64 tt, .int .i64 el], .int .i64 n, .int .i64 m] w fun e w' => e = .returned (.int .i64 r) ∧ Below w.heap.size w w' := by
 have hu := Tryz.underlying37
 go_enter Tryz.func55, Tryz.ntmps55
 go_wp2_with (first
  | ((with_reducible refine gD 3 ?_); refine bX ?_; intro gb hgb w1 aC hb; have HB := Qbf.mk hb; have z0 := Qbh aC 0; have z1 := Qbh aC 1; have z2 := Qbh aC 2; have z3 := Qbh aC 3; simp only [List.getElem?_toArray, List.getElem?_cons_zero, List.getElem?_cons_succ] at z0 z1 z2 z3; clear aC hb hgb)
  | (go_at_call 100; (with_reducible refine (Qen a n _ iA _).mono ?_); rintro e w' ⟨rfl, ⟨nd, rfl⟩⟩)
  | (go_at_call 100; (with_reducible refine (Qen tt m _ iT _).mono ?_); rintro e w' ⟨rfl, ⟨nd, rfl⟩⟩)
  | (go_at_call 100; (with_reducible refine (Qen el m _ iE _).mono ?_); rintro e w' ⟨rfl, ⟨nd, rfl⟩⟩))
 all_goals go_ret
 all_goals exact ⟨by rw [← h]; simp_all, by repeat (first | exact HB.out | apply Qb4 | apply Qc4)⟩
def trmR (kd a tt el n m : Int) : Int :=
 bif (kd == 1) then (bif !decide (0 ≤ tt ∧ tt < m) then 11 else bif (a != 0) || (el != 0) then 12 else 0)
 else bif (kd == 2) then (bif !decide (0 ≤ a ∧ a < n) then 9 else bif !decide (0 ≤ tt ∧ tt < m) || !decide (0 ≤ el ∧ el < m) then 11 else 0)
 else bif (kd == 3) then (bif !decide (0 ≤ a ∧ a < n) then 9 else bif (tt != 0) || (el != 0) then 12 else 0) else (16 : Int)
theorem Qdx (a0_0 a0_1 a0_2 a0_3 a1 a2 : Int) (w : World) :
    Calls Tryz.prog 55 #[.agg #[.int .i64 a0_0, .int .i64 a0_1, .int .i64 a0_2, .int .i64 a0_3], .int .i64 a1, .int .i64 a2] w fun e w' => e = .returned (.int .i64 (trmR a0_0 a0_1 a0_2 a0_3 a1 a2)) ∧ Below w.heap.size w w' :=
 term_walk a0_0 a0_1 a0_2 a0_3 a1 a2 w (trmR a0_0 a0_1 a0_2 a0_3 a1 a2) _ _ _ _ _ _ _ _ _ rfl rfl rfl rfl rfl rfl rfl rfl rfl rfl
def inrB (l r s : Int) : Bool := bif decide (l < 0) then false else bif (Int.tmod l 2 == 1) then decide (wrap64 (Int.tdiv l 2) < s) else decide (wrap64 (Int.tdiv l 2) < r)
theorem inr_calls (l r s : Int) (b : Bool) (h : inrB l r s = b) (w : World) : Calls Tryz.prog 57 #[.int .i64 l, .int .i64 r, .int .i64 s] w fun e w' => e = .returned (.bool b) ∧ Qbr w w' := by
 go_enter Tryz.func57, Tryz.ntmps57
 go_wp2
 all_goals go_ret
 all_goals exact ⟨by rw [← h]; unfold inrB; first | (simp_all [Qbo]; done) | (have hz : 0 ≤ l := (by assumption); simp_all [Qbo, Int.tmod_eq_emod_of_nonneg hz, Int.not_lt.2 hz]; done) | (have hz : 0 ≤ l := (by assumption); have hm : (l % 2 == 1) = false := (by first | assumption | exact beq_eq_false_iff_ne.2 (by assumption)); rw [Int.tmod_eq_emod_of_nonneg hz, hm]; simp_all [Qbo, Int.not_lt.2 hz]; done), by repeat (first | exact Qbr.refl _ | apply Qbr.step)⟩
theorem rmi_walk (op d a b im ds sr n m : Int) (w : World) (r : Int) (p1 p2 p3 p4 j1 j2 m1 m2 zd za zb zi y1 y2 e0 : Bool) (c1 : decide (op < 1) = p1) (c2 : decide (op > 18) = p2) (c3 : (op == 2) = p3) (c4 : (op == 18) = p4)
    (i1 : inrB ds n m = j1) (i2 : inrB sr n m = j2) (em1 : (Int.tmod ds 2 == 1) = m1) (em2 : (Int.tmod sr 2 == 1) = m2) (ezd : (d != 0) = zd) (eza : (a != 0) = za) (ezb : (b != 0) = zb) (ezi : (im != 0) = zi) (ey1 : (ds != 0) = y1) (ey2 : (sr != 0) = y2) (ee : (insR op d a b im n == 0) = e0)
    (h : (bif p1 || p2 || p3 then (8 : Int) else bif p4 then (bif !j1 || !j2 || (m1 && m2) then 10 else bif zd || za || zb || zi then 12 else 0) else bif e0 && (y1 || y2) then 12 else insR op d a b im n) = r) :
    Calls Tryz.prog 56 #[.agg #[.int .i64 op, .int .i64 d, .int .i64 a, .int .i64 b, .int .i64 im, .int .i64 ds, .int .i64 sr], .int .i64 n, .int .i64 m] w fun e w' => e = .returned (.int .i64 r) ∧ Below w.heap.size w w' := by
 have hu := Tryz.underlying59
 have hu2 := Tryz.underlying41
 go_enter Tryz.func56, Tryz.ntmps56
 go_wp2_with (first
  | ((with_reducible refine gD 3 ?_); refine bX ?_; intro gb hgb w1 aC hb; have HB := Qbf.mk hb; have z0 := Qbh aC 0; have z1 := Qbh aC 1; have z2 := Qbh aC 2; have z3 := Qbh aC 3; have z4 := Qbh aC 4; have z5 := Qbh aC 5; have z6 := Qbh aC 6; simp only [List.getElem?_toArray, List.getElem?_cons_zero, List.getElem?_cons_succ] at z0 z1 z2 z3 z4 z5 z6; have HX := Qbf.mk aC; clear aC hb hgb)
  | (go_at_call 57; (with_reducible refine (inr_calls ds n m _ i1 _).mono ?_); rintro e w' ⟨rfl, ⟨nd, rfl⟩⟩)
  | (go_at_call 57; (with_reducible refine (inr_calls sr n m _ i2 _).mono ?_); rintro e w' ⟨rfl, ⟨nd, rfl⟩⟩)
  | (go_at_call 54; (with_reducible refine (rinstr_calls op d a b im n _).mono ?_); rintro e w' ⟨rfl, hb⟩; replace HX := Qbf.mk (Qbg (by (with_reducible repeat (first | refine blk_drewN ?_ _ | refine Qbm ?_)); exact HX.out) hb); clear z0 z1 z2 z3 z4 z5 z6; have z5 := Qbh HX.out 5; have z6 := Qbh HX.out 6; simp only [List.getElem?_toArray, List.getElem?_cons_zero, List.getElem?_cons_succ] at z5 z6; replace HB := Qbf.mk (Qbw (by repeat (first | exact HB.out | apply Qb4 | apply Qc4)) hb); clear hb))
 all_goals go_ret
 all_goals exact ⟨by rw [← h]; simp_all, by repeat (first | exact HB.out | apply Qb4 | apply Qc4)⟩
def mInB (op d a b im ds sr n m : Int) : Int :=
 bif decide (op < 1) || decide (op > 18) || (op == 2) then (8 : Int) else bif (op == 18) then (bif !inrB ds n m || !inrB sr n m || ((Int.tmod ds 2 == 1) && (Int.tmod sr 2 == 1)) then 10 else bif (d != 0) || (a != 0) || (b != 0) || (im != 0) then 12 else 0) else bif (insR op d a b im n == 0) && ((ds != 0) || (sr != 0)) then 12 else insR op d a b im n
theorem rmi_calls (op d a b im ds sr n m : Int) (w : World) :
    Calls Tryz.prog 56 #[.agg #[.int .i64 op, .int .i64 d, .int .i64 a, .int .i64 b, .int .i64 im, .int .i64 ds, .int .i64 sr], .int .i64 n, .int .i64 m] w fun e w' => e = .returned (.int .i64 (mInB op d a b im ds sr n m)) ∧ Below w.heap.size w w' :=
 rmi_walk op d a b im ds sr n m w _ _ _ _ _ _ _ _ _ _ _ _ _ _ _ _ rfl rfl rfl rfl rfl rfl rfl rfl rfl rfl rfl rfl rfl rfl rfl rfl
theorem less_calls (a b c d : Int) (r p : Bool) (hp : (a != c) = p) (h : (bif p then decide (a < c) else decide (b < d)) = r) (w : World) :
    Calls Tryz.prog 58 #[.agg #[.int .i64 a, .int .i64 b], .agg #[.int .i64 c, .int .i64 d]] w fun e w' => e = .returned (.bool r) ∧ Below w.heap.size w w' := by
 have hu := Tryz.underlying47
 go_enter Tryz.func58, Tryz.ntmps58
 go_wp2_with (first
  | ((with_reducible refine gD 2 ?_); refine bX ?_; intro gb hgb w1 aC hb; have HB := Qbf.mk hb; have HX := Qbf.mk aC; clear aC hb hgb)
  | ((with_reducible refine gD 3 ?_); refine bX ?_; intro gc hgb w2 aC hb; replace HX := Qbf.mk (Qbg HX.out hb); replace HB := Qbf.mk (Qbw HB.out hb); have x0 := Qbh HX.out 0; have x1 := Qbh HX.out 1; have y0 := Qbh aC 0; have y1 := Qbh aC 1; simp only [List.getElem?_toArray, List.getElem?_cons_zero, List.getElem?_cons_succ] at x0 x1 y0 y1; clear aC hb hgb))
 all_goals go_ret
 all_goals exact ⟨by rw [← h]; simp_all, by repeat (first | exact HB.out | apply Qb4 | apply Qc4)⟩
attribute [local go_sem high] eqA47
def Qa5.l0 : Nat → Int → Int → Int → Int → List (S39) → Option (Int)
 | 0, _, _, _, _, _ => none
 | k + 1, x3, x4, x458000, x458001, x458002 => if x4 < (x458002.length : Int) then (if 0 ≤ x4 then (Qa5.l0 k (wrap64 (x3 + (((Qag x458002 x4).f0).length : Int))) (wrap64 (x4 + 1)) x458000 x458001 x458002) else (none)) else (some x3)
def Qa5.f (k : Nat) (a0_0 a0_1 : Int) (l0_2 : List (S39)) : Option (Int) := Qa5.l0 k 0 0 a0_0 a0_1 l0_2
theorem Qa5.calls (k : Nat) (a0_0 a0_1 : Int) (A0_2 : Option Addr) (c0_2 : Nat) (l0_2 : List (S39)) (r : Int) (w : World) (hr0_2 : Kd.C k39 w A0_2 l0_2.length l0_2) (hc0_2 : l0_2.length ≤ c0_2) (h : Qa5.f k a0_0 a0_1 l0_2 = some r) :
 Calls Tryz.prog 52 #[.agg #[.int .i64 a0_0, .int .i64 a0_1, .slice A0_2 l0_2.length c0_2]] w fun e w' => e = .returned (.int .i64 r) ∧ Below w.heap.size w w' := by
 have hu24 := Tryz.underlying24
 have R0_2 := As0 hr0_2
 have C0_2 := As0 hc0_2
 clear hr0_2 hc0_2
 have HB := As0 (Below.refl w.heap.size w)
 have H : (Qa5.l0 k 0 0 a0_0 a0_1 l0_2) = some r := h
 clear h
 have H' := As0 H
 clear H
 go_enter Tryz.func52, Tryz.ntmps52
 go_wp2_with (first | ((with_reducible refine gD 1 ?_); refine bY HB.out ?_; intro gb457 w2 hg hb K457 GW457 HB; clear hb hg))
 go_loopg [3, 4] k (fun kq v3 v4 w' => ∃ (cI : Int) (aE : Int), v3 = .int .i64 cI ∧ v4 = .int .i64 aE ∧ Qbf (Qa5.l0 kq cI aE a0_0 a0_1 l0_2 = some r) ∧ Qbf (kq ≤ k) ∧ Qbf (w'.heap[gb457]? = some (.cells #[.int .i64 a0_0, .int .i64 a0_1, (.slice A0_2 l0_2.length c0_2)] 24 (0, 0))) ∧ Qbf (Below w.heap.size w w'))
 case atStart => exact ⟨(0), (0), eR, eR, H', ⟨Nat.le_refl _⟩, ⟨bU K457.out⟩, ⟨BU HB.out⟩⟩
 case round =>
  clear H'
  obtain ⟨cI, aE, rfl, rfl, HA, HK1, K457, HB⟩ := hrel
  cases gk with
  | zero => exact absurd HA.out (by simp [Qa5.l0])
  | succ k1 =>
   have H := HA.out
   clear HA
   simp only [Qa5.l0] at H
   by_cases c3 : aE < (l0_2.length : Int)
   rotate_left
   ·rw [if_neg c3] at H
    have c3b0 := decide_eq_false c3
    clear c3
    obtain rfl := Option.some.inj H
    have q6_ := cN3 K457.out
    go_wp2
    go_ret
    exact ⟨oR, BU HB.out⟩
   rw [if_pos c3] at H
   have c3b0 := decide_eq_true c3
   clear c3
   by_cases c4 : 0 ≤ aE
   rotate_left
   ·rw [if_neg c4] at H
    exact absurd H (by simp)
   rw [if_pos c4] at H
   have c4b0 := decide_eq_true c4
   clear c4
   have H' := As0 H
   clear H
   have q5_ := cN3 K457.out
   have p458 : 0 ≤ (aE : Int) := qR
   have q458 : aE < (l0_2.length : Int) := qR
   obtain ⟨ad458, A458_0, c458_0, e458, hx458_0, hx458_1, hx458_2, hx458_3, hx458_4, hl458_0, hi458_0⟩ := Qed R0_2.out aE p458 q458
   cases e458
   replace hx458_0 := cl HB hx458_0
   replace hx458_1 := cl HB hx458_1
   replace hx458_2 := cl HB hx458_2
   replace hx458_3 := cl HB hx458_3
   replace hx458_4 := cl HB hx458_4
   have R458_0 := As0 hi458_0
   have C458_0 := As0 hl458_0
   clear hi458_0 hl458_0
   replace p458 := eq_true p458
   replace q458 := eq_true q458
   go_wp2
   go_roundg k1
   case measure => have := HK1.out; omega
   case rel => exact ⟨(wrap64 (cI + (((Qag l0_2 aE).f0).length : Int))), (wrap64 (aE + 1)), eR, eR, H', ⟨by have := HK1.out; omega⟩, ⟨bU K457.out⟩, ⟨BU HB.out⟩⟩
mutual
def Qav.j0 : Nat → Bool → Int → Int → List (S39) → Option (Bool)
 | 0, _, _, _, _ => none
 | k + 1, jU, x460000, x460001, iP => if jU = true then (some false) else (Qav.l0 k 0 x460000 x460001 iP)
def Qav.l0 : Nat → Int → Int → Int → List (S39) → Option (Bool)
 | 0, _, _, _, _ => none
 | k + 1, x3, x460000, x460001, iP => if x3 < (iP.length : Int) then (if 0 ≤ x3 then (if (((Qag iP x3).f0).length : Int) > 100 then (some false) else (Qav.l0 k (wrap64 (x3 + 1)) x460000 x460001 iP)) else (none)) else ((Qa5.f k x460000 x460001 iP).bind fun t460 => (some (decide (t460 ≤ 300))))
end
def Qav.f (k : Nat) (a0_0 a0_1 : Int) (l0_2 : List (S39)) : Option (Bool) := if (l0_2.length : Int) > 40 then (Qav.j0 k true a0_0 a0_1 l0_2) else (Qav.j0 k (decide (a0_1 > 60)) a0_0 a0_1 l0_2)
theorem Qav.calls (k : Nat) (a0_0 a0_1 : Int) (A0_2 : Option Addr) (c0_2 : Nat) (l0_2 : List (S39)) (r : Bool) (w : World) (hr0_2 : Kd.C k39 w A0_2 l0_2.length l0_2) (hc0_2 : l0_2.length ≤ c0_2) (h : Qav.f k a0_0 a0_1 l0_2 = some r) :
 Calls Tryz.prog 22 #[.agg #[.int .i64 a0_0, .int .i64 a0_1, .slice A0_2 l0_2.length c0_2]] w fun e w' => e = .returned (.bool r) ∧ Below w.heap.size w w' := by
 have hu24 := Tryz.underlying24
 have R0_2 := As0 hr0_2
 have C0_2 := As0 hc0_2
 clear hr0_2 hc0_2
 have HB := As0 (Below.refl w.heap.size w)
 have H : (if (l0_2.length : Int) > 40 then (Qav.j0 k true a0_0 a0_1 l0_2) else (Qav.j0 k (decide (a0_1 > 60)) a0_0 a0_1 l0_2)) = some r := h
 clear h
 have C2 := As0 H
 clear H
 go_enter Tryz.func22, Tryz.ntmps22
 go_upto_region 1 with (first | ((with_reducible refine gD 1 ?_); refine bY HB.out ?_; intro gb459 w3 hg hb K459 GW459 HB; clear hb hg))
 (try simp only [Act.put, sL1, sL2, sL3])
 go_cut [12] (fun v12 wc => ∃ (kq : Nat) (aN : Bool), v12 = .bool aN ∧ Qbf (Qav.j0 kq aN a0_0 a0_1 l0_2 = some r) ∧ Qbf (kq ≤ k) ∧ Qbf (wc.heap[gb459]? = some (.cells #[.int .i64 a0_0, .int .i64 a0_1, (.slice A0_2 l0_2.length c0_2)] 24 (0, 0))) ∧ Qbf (Below w.heap.size w wc))
 case first =>
  have H := C2.out
  clear C2
  by_cases c4 : (l0_2.length : Int) > 40
  rotate_left
  ·rw [if_neg c4] at H
   have c4b0 := decide_eq_false c4
   have c4b1 : decide (40 < l0_2.length) = false := decide_eq_false (by omega)
   clear c4
   (first | rw [c4b0] | (simp only [Qbo, Qbp]; rw [c4b0]) | skip)
   have H' := As0 H
   clear H
   have q6_ := cN3 K459.out
   go_wp2
   go_meet
   case rel => exact ⟨_, (decide (a0_1 > 60)), eR, H', ⟨by first | omega | exact Nat.le_refl _⟩, ⟨bU K459.out⟩, ⟨BU HB.out⟩⟩
  rw [if_pos c4] at H
  have c4b0 := decide_eq_true c4
  have c4b1 : decide (40 < l0_2.length) = true := decide_eq_true (by omega)
  clear c4
  (first | rw [c4b0] | (simp only [Qbo, Qbp]; rw [c4b0]) | skip)
  have H' := As0 H
  clear H
  have q5_ := cN3 K459.out
  go_wp2
  go_meet
  case rel => exact ⟨_, (true), eR, H', ⟨by first | omega | exact Nat.le_refl _⟩, ⟨bU K459.out⟩, ⟨BU HB.out⟩⟩
 case rest =>
  clear C2
  obtain ⟨kq, aN, rfl, HA, HJ1, K459, HB⟩ := hcut
  cases kq with
  | zero => exact absurd HA.out (by simp [Qav.j0])
  | succ kj1 =>
   have H := HA.out
   clear HA
   simp only [Qav.j0] at H
   by_cases c7 : aN = true
   ·subst c7
    rw [if_pos rfl] at H
    obtain rfl := Option.some.inj H
    go_wp2
    go_ret
    exact ⟨oR, BU HB.out⟩
   replace c7 := Bool.eq_false_iff.mpr c7
   subst c7
   rw [if_neg bF] at H
   have H' := As0 H
   clear H
   go_wp2
   go_loopg [3] kj1 (fun kq v3 w' => ∃ (eG : Int), v3 = .int .i64 eG ∧ Qbf (Qav.l0 kq eG a0_0 a0_1 l0_2 = some r) ∧ Qbf (kq ≤ kj1) ∧ Qbf (w'.heap[gb459]? = some (.cells #[.int .i64 a0_0, .int .i64 a0_1, (.slice A0_2 l0_2.length c0_2)] 24 (0, 0))) ∧ Qbf (Below w.heap.size w w'))
   case atStart => exact ⟨(0), eR, H', ⟨Nat.le_refl _⟩, ⟨bU K459.out⟩, ⟨BU HB.out⟩⟩
   case round =>
    clear H'
    obtain ⟨eG, rfl, HA, HK2, K459, HB⟩ := hrel
    cases gk with
    | zero => exact absurd HA.out (by simp [Qav.l0])
    | succ k2 =>
     have H := HA.out
     clear HA
     simp only [Qav.l0] at H
     by_cases c8 : eG < (l0_2.length : Int)
     rotate_left
     ·rw [if_neg c8] at H
      have c8b0 := decide_eq_false c8
      clear c8
      replace H := Option.bind_eq_some_iff.mp H
      obtain ⟨t460, A130, H⟩ := H
      have A13 := As0 A130
      clear A130
      obtain rfl := Option.some.inj H
      have q14_ := cN3 K459.out
      go_wp2_with (first | ((with_reducible refine Qbk (f := 52) rfl ?_); refine gL (some 29) Tryz.func52 #[.agg #[.int .i64 a0_0, .int .i64 a0_1, .slice A0_2 l0_2.length c0_2]] ?_; (with_reducible refine (Qa5.calls k2 a0_0 a0_1 _ _ l0_2 t460 _ ?side1 ?side2 A13.out).mono ?_); (case side1 => exact CU (Kd.C_below R0_2.out HB.out)); (case side2 => exact C0_2.out); rintro e w15 ⟨rfl, hb⟩; refine ⟨_, rfl, ?_⟩; replace K459 := kB K459 hb; replace HB := sB HB hb; (try clear hb)))
      go_ret
      exact ⟨oR, BU HB.out⟩
     rw [if_pos c8] at H
     have c8b0 := decide_eq_true c8
     clear c8
     by_cases c9 : 0 ≤ eG
     rotate_left
     ·rw [if_neg c9] at H
      exact absurd H (by simp)
     rw [if_pos c9] at H
     have c9b0 := decide_eq_true c9
     clear c9
     by_cases c10 : (((Qag l0_2 eG).f0).length : Int) > 100
     ·rw [if_pos c10] at H
      have c10b0 := decide_eq_true c10
      have c10b1 : decide (100 < ((Qag l0_2 eG).f0).length) = true := decide_eq_true (by omega)
      clear c10
      obtain rfl := Option.some.inj H
      have q11_ := cN3 K459.out
      have p461 : 0 ≤ (eG : Int) := qR
      have q461 : eG < (l0_2.length : Int) := qR
      obtain ⟨ad461, A461_0, c461_0, e461, kM, kL, kK, kJ, kI, hl461_0, hi461_0⟩ := Qed R0_2.out eG p461 q461
      cases e461
      replace kM := cl HB kM
      replace kL := cl HB kL
      replace kK := cl HB kK
      replace kJ := cl HB kJ
      replace kI := cl HB kI
      have R461_0 := As0 hi461_0
      have C461_0 := As0 hl461_0
      clear hi461_0 hl461_0
      replace p461 := eq_true p461
      replace q461 := eq_true q461
      go_wp2
      go_ret
      exact ⟨oR, BU HB.out⟩
     rw [if_neg c10] at H
     have c10b0 := decide_eq_false c10
     have c10b1 : decide (100 < ((Qag l0_2 eG).f0).length) = false := decide_eq_false (by omega)
     clear c10
     have H' := As0 H
     clear H
     have q12_ := cN3 K459.out
     have p461 : 0 ≤ (eG : Int) := qR
     have q461 : eG < (l0_2.length : Int) := qR
     obtain ⟨ad461, A461_0, c461_0, e461, kM, kL, kK, kJ, kI, hl461_0, hi461_0⟩ := Qed R0_2.out eG p461 q461
     cases e461
     replace kM := cl HB kM
     replace kL := cl HB kL
     replace kK := cl HB kK
     replace kJ := cl HB kJ
     replace kI := cl HB kI
     have R461_0 := As0 hi461_0
     have C461_0 := As0 hl461_0
     clear hi461_0 hl461_0
     replace p461 := eq_true p461
     replace q461 := eq_true q461
     go_wp2
     go_roundg k2
     case measure => have := HJ1.out; have := HK2.out; omega
     case rel => exact ⟨(wrap64 (eG + 1)), eR, H', ⟨by have := HJ1.out; have := HK2.out; omega⟩, ⟨bU K459.out⟩, ⟨BU HB.out⟩⟩
def Qa4.l0 : Nat → Int → Int → Int → Int → Int → List (S57) → Option (Int)
 | 0, _, _, _, _, _, _ => none
 | k + 1, x3, x4, x463000, x463001, x463002, x463003 => if x4 < (x463003.length : Int) then (if 0 ≤ x4 then (Qa4.l0 k (wrap64 (x3 + (((Qaq x463003 x4).f0).length : Int))) (wrap64 (x4 + 1)) x463000 x463001 x463002 x463003) else (none)) else (some x3)
def Qa4.f (k : Nat) (a0_0 a0_1 a0_2 : Int) (l0_3 : List (S57)) : Option (Int) := Qa4.l0 k 0 0 a0_0 a0_1 a0_2 l0_3
theorem Qa4.calls (k : Nat) (a0_0 a0_1 a0_2 : Int) (A0_3 : Option Addr) (c0_3 : Nat) (l0_3 : List (S57)) (r : Int) (w : World) (hr0_3 : Kd.C k57 w A0_3 l0_3.length l0_3) (hc0_3 : l0_3.length ≤ c0_3) (h : Qa4.f k a0_0 a0_1 a0_2 l0_3 = some r) :
 Calls Tryz.prog 53 #[.agg #[.int .i64 a0_0, .int .i64 a0_1, .int .i64 a0_2, .slice A0_3 l0_3.length c0_3]] w fun e w' => e = .returned (.int .i64 r) ∧ Below w.heap.size w w' := by
 have hu27 := Tryz.underlying27
 have R0_3 := As0 hr0_3
 have C0_3 := As0 hc0_3
 clear hr0_3 hc0_3
 have HB := As0 (Below.refl w.heap.size w)
 have H : (Qa4.l0 k 0 0 a0_0 a0_1 a0_2 l0_3) = some r := h
 clear h
 have H' := As0 H
 clear H
 go_enter Tryz.func53, Tryz.ntmps53
 go_wp2_with (first | ((with_reducible refine gD 1 ?_); refine bY HB.out ?_; intro gb462 w2 hg hb K462 GW462 HB; clear hb hg))
 go_loopg [3, 4] k (fun kq v3 v4 w' => ∃ (cI : Int) (aE : Int), v3 = .int .i64 cI ∧ v4 = .int .i64 aE ∧ Qbf (Qa4.l0 kq cI aE a0_0 a0_1 a0_2 l0_3 = some r) ∧ Qbf (kq ≤ k) ∧ Qbf (w'.heap[gb462]? = some (.cells #[.int .i64 a0_0, .int .i64 a0_1, .int .i64 a0_2, (.slice A0_3 l0_3.length c0_3)] 27 (0, 0))) ∧ Qbf (Below w.heap.size w w'))
 case atStart => exact ⟨(0), (0), eR, eR, H', ⟨Nat.le_refl _⟩, ⟨bU K462.out⟩, ⟨BU HB.out⟩⟩
 case round =>
  clear H'
  obtain ⟨cI, aE, rfl, rfl, HA, HK1, K462, HB⟩ := hrel
  cases gk with
  | zero => exact absurd HA.out (by simp [Qa4.l0])
  | succ k1 =>
   have H := HA.out
   clear HA
   simp only [Qa4.l0] at H
   by_cases c3 : aE < (l0_3.length : Int)
   rotate_left
   ·rw [if_neg c3] at H
    have c3b0 := decide_eq_false c3
    clear c3
    obtain rfl := Option.some.inj H
    have q6_ := cN4 K462.out
    go_wp2
    go_ret
    exact ⟨oR, BU HB.out⟩
   rw [if_pos c3] at H
   have c3b0 := decide_eq_true c3
   clear c3
   by_cases c4 : 0 ≤ aE
   rotate_left
   ·rw [if_neg c4] at H
    exact absurd H (by simp)
   rw [if_pos c4] at H
   have c4b0 := decide_eq_true c4
   clear c4
   have H' := As0 H
   clear H
   have q5_ := cN4 K462.out
   have p463 : 0 ≤ (aE : Int) := qR
   have q463 : aE < (l0_3.length : Int) := qR
   obtain ⟨ad463, A463_0, c463_0, e463, hx463_0, hx463_1, hx463_2, hx463_3, hx463_4, hl463_0, hi463_0⟩ := Qep R0_3.out aE p463 q463
   cases e463
   replace hx463_0 := cl HB hx463_0
   replace hx463_1 := cl HB hx463_1
   replace hx463_2 := cl HB hx463_2
   replace hx463_3 := cl HB hx463_3
   replace hx463_4 := cl HB hx463_4
   have R463_0 := As0 hi463_0
   have C463_0 := As0 hl463_0
   clear hi463_0 hl463_0
   replace p463 := eq_true p463
   replace q463 := eq_true q463
   go_wp2
   go_roundg k1
   case measure => have := HK1.out; omega
   case rel => exact ⟨(wrap64 (cI + (((Qaq l0_3 aE).f0).length : Int))), (wrap64 (aE + 1)), eR, eR, H', ⟨by have := HK1.out; omega⟩, ⟨bU K462.out⟩, ⟨BU HB.out⟩⟩
mutual
def Qau.j0 : Nat → Bool → Int → Int → Int → List (S57) → Option (Bool)
 | 0, _, _, _, _, _ => none
 | k + 1, x17, x465000, x465001, x465002, iO => if x17 = true then (some false) else (Qau.l0 k 0 x465000 x465001 x465002 iO)
def Qau.l0 : Nat → Int → Int → Int → Int → List (S57) → Option (Bool)
 | 0, _, _, _, _, _ => none
 | k + 1, x3, x465000, x465001, x465002, iO => if x3 < (iO.length : Int) then (if 0 ≤ x3 then (if (((Qaq iO x3).f0).length : Int) > 300 then (some false) else (Qau.l0 k (wrap64 (x3 + 1)) x465000 x465001 x465002 iO)) else (none)) else ((Qa4.f k x465000 x465001 x465002 iO).bind fun t465 => (some (decide (t465 ≤ 900))))
end
def Qau.f (k : Nat) (a0_0 a0_1 a0_2 : Int) (l0_3 : List (S57)) : Option (Bool) := if (l0_3.length : Int) > 40 then (Qau.j0 k true a0_0 a0_1 a0_2 l0_3) else (if a0_1 > 60 then (Qau.j0 k true a0_0 a0_1 a0_2 l0_3) else (Qau.j0 k (decide (a0_2 > 60)) a0_0 a0_1 a0_2 l0_3))
theorem Qau.calls (k : Nat) (a0_0 a0_1 a0_2 : Int) (A0_3 : Option Addr) (c0_3 : Nat) (l0_3 : List (S57)) (r : Bool) (w : World) (hr0_3 : Kd.C k57 w A0_3 l0_3.length l0_3) (hc0_3 : l0_3.length ≤ c0_3) (h : Qau.f k a0_0 a0_1 a0_2 l0_3 = some r) :
 Calls Tryz.prog 23 #[.agg #[.int .i64 a0_0, .int .i64 a0_1, .int .i64 a0_2, .slice A0_3 l0_3.length c0_3]] w fun e w' => e = .returned (.bool r) ∧ Below w.heap.size w w' := by
 have hu27 := Tryz.underlying27
 have R0_3 := As0 hr0_3
 have C0_3 := As0 hc0_3
 clear hr0_3 hc0_3
 have HB := As0 (Below.refl w.heap.size w)
 have H : (if (l0_3.length : Int) > 40 then (Qau.j0 k true a0_0 a0_1 a0_2 l0_3) else (if a0_1 > 60 then (Qau.j0 k true a0_0 a0_1 a0_2 l0_3) else (Qau.j0 k (decide (a0_2 > 60)) a0_0 a0_1 a0_2 l0_3))) = some r := h
 clear h
 have C2 := As0 H
 clear H
 go_enter Tryz.func23, Tryz.ntmps23
 go_upto_region 1 with (first | ((with_reducible refine gD 1 ?_); refine bY HB.out ?_; intro gb464 w3 hg hb jL GW464 HB; clear hb hg))
 (try simp only [Act.put, sL1, sL2, sL3])
 go_cut [17] (fun v17 wc => ∃ (kq : Nat) (x17_1 : Bool), v17 = .bool x17_1 ∧ Qbf (Qau.j0 kq x17_1 a0_0 a0_1 a0_2 l0_3 = some r) ∧ Qbf (kq ≤ k) ∧ Qbf (wc.heap[gb464]? = some (.cells #[.int .i64 a0_0, .int .i64 a0_1, .int .i64 a0_2, (.slice A0_3 l0_3.length c0_3)] 27 (0, 0))) ∧ Qbf (Below w.heap.size w wc))
 case first =>
  have H := C2.out
  clear C2
  by_cases c4 : (l0_3.length : Int) > 40
  ·rw [if_pos c4] at H
   have c4b0 := decide_eq_true c4
   have c4b1 : decide (40 < l0_3.length) = true := decide_eq_true (by omega)
   clear c4
   (first | rw [c4b0] | (simp only [Qbo, Qbp]; rw [c4b0]) | skip)
   have H' := As0 H
   clear H
   have q5_ := cN4 jL.out
   go_wp2
   go_meet
   case rel => exact ⟨_, (true), eR, H', ⟨by first | omega | exact Nat.le_refl _⟩, ⟨bU jL.out⟩, ⟨BU HB.out⟩⟩
  rw [if_neg c4] at H
  have c4b0 := decide_eq_false c4
  have c4b1 : decide (40 < l0_3.length) = false := decide_eq_false (by omega)
  clear c4
  (first | rw [c4b0] | (simp only [Qbo, Qbp]; rw [c4b0]) | skip)
  by_cases c6 : a0_1 > 60
  rotate_left
  ·rw [if_neg c6] at H
   have c6b0 := decide_eq_false c6
   clear c6
   have H' := As0 H
   clear H
   have q8_ := cN4 jL.out
   go_wp2
   go_meet
   case rel => exact ⟨_, (decide (a0_2 > 60)), eR, H', ⟨by first | omega | exact Nat.le_refl _⟩, ⟨bU jL.out⟩, ⟨BU HB.out⟩⟩
  rw [if_pos c6] at H
  have c6b0 := decide_eq_true c6
  clear c6
  have H' := As0 H
  clear H
  have q7_ := cN4 jL.out
  go_wp2
  go_meet
  case rel => exact ⟨_, (true), eR, H', ⟨by first | omega | exact Nat.le_refl _⟩, ⟨bU jL.out⟩, ⟨BU HB.out⟩⟩
 case rest =>
  clear C2
  obtain ⟨kq, x17_1, rfl, HA, HJ1, jL, HB⟩ := hcut
  cases kq with
  | zero => exact absurd HA.out (by simp [Qau.j0])
  | succ kj1 =>
   have H := HA.out
   clear HA
   simp only [Qau.j0] at H
   by_cases c9 : x17_1 = true
   ·subst c9
    rw [if_pos rfl] at H
    obtain rfl := Option.some.inj H
    go_wp2
    go_ret
    exact ⟨oR, BU HB.out⟩
   replace c9 := Bool.eq_false_iff.mpr c9
   subst c9
   rw [if_neg bF] at H
   have H' := As0 H
   clear H
   go_wp2
   go_loopg [3] kj1 (fun kq v3 w' => ∃ (eG : Int), v3 = .int .i64 eG ∧ Qbf (Qau.l0 kq eG a0_0 a0_1 a0_2 l0_3 = some r) ∧ Qbf (kq ≤ kj1) ∧ Qbf (w'.heap[gb464]? = some (.cells #[.int .i64 a0_0, .int .i64 a0_1, .int .i64 a0_2, (.slice A0_3 l0_3.length c0_3)] 27 (0, 0))) ∧ Qbf (Below w.heap.size w w'))
   case atStart => exact ⟨(0), eR, H', ⟨Nat.le_refl _⟩, ⟨bU jL.out⟩, ⟨BU HB.out⟩⟩
   case round =>
    clear H'
    obtain ⟨eG, rfl, HA, HK2, jL, HB⟩ := hrel
    cases gk with
    | zero => exact absurd HA.out (by simp [Qau.l0])
    | succ k2 =>
     have H := HA.out
     clear HA
     simp only [Qau.l0] at H
     by_cases c10 : eG < (l0_3.length : Int)
     rotate_left
     ·rw [if_neg c10] at H
      have c10b0 := decide_eq_false c10
      clear c10
      replace H := Option.bind_eq_some_iff.mp H
      obtain ⟨t465, A150, H⟩ := H
      have A15 := As0 A150
      clear A150
      obtain rfl := Option.some.inj H
      have q16_ := cN4 jL.out
      go_wp2_with (first | ((with_reducible refine Qbk (f := 53) rfl ?_); refine gL (some 34) Tryz.func53 #[.agg #[.int .i64 a0_0, .int .i64 a0_1, .int .i64 a0_2, .slice A0_3 l0_3.length c0_3]] ?_; (with_reducible refine (Qa4.calls k2 a0_0 a0_1 a0_2 _ _ l0_3 t465 _ ?side1 ?side2 A15.out).mono ?_); (case side1 => exact CU (Kd.C_below R0_3.out HB.out)); (case side2 => exact C0_3.out); rintro e w17 ⟨rfl, hb⟩; refine ⟨_, rfl, ?_⟩; replace jL := kB jL hb; replace HB := sB HB hb; (try clear hb)))
      go_ret
      exact ⟨oR, BU HB.out⟩
     rw [if_pos c10] at H
     have c10b0 := decide_eq_true c10
     clear c10
     by_cases c11 : 0 ≤ eG
     rotate_left
     ·rw [if_neg c11] at H
      exact absurd H (by simp)
     rw [if_pos c11] at H
     have c11b0 := decide_eq_true c11
     clear c11
     by_cases c12 : (((Qaq l0_3 eG).f0).length : Int) > 300
     ·rw [if_pos c12] at H
      have c12b0 := decide_eq_true c12
      have c12b1 : decide (300 < ((Qaq l0_3 eG).f0).length) = true := decide_eq_true (by omega)
      clear c12
      obtain rfl := Option.some.inj H
      have q13_ := cN4 jL.out
      have p466 : 0 ≤ (eG : Int) := qR
      have q466 : eG < (l0_3.length : Int) := qR
      obtain ⟨ad466, A466_0, c466_0, e466, kH, kG, kE, kD, kA, hl466_0, hi466_0⟩ := Qep R0_3.out eG p466 q466
      cases e466
      replace kH := cl HB kH
      replace kG := cl HB kG
      replace kE := cl HB kE
      replace kD := cl HB kD
      replace kA := cl HB kA
      have R466_0 := As0 hi466_0
      have C466_0 := As0 hl466_0
      clear hi466_0 hl466_0
      replace p466 := eq_true p466
      replace q466 := eq_true q466
      go_wp2
      go_ret
      exact ⟨oR, BU HB.out⟩
     rw [if_neg c12] at H
     have c12b0 := decide_eq_false c12
     have c12b1 : decide (300 < ((Qaq l0_3 eG).f0).length) = false := decide_eq_false (by omega)
     clear c12
     have H' := As0 H
     clear H
     have q14_ := cN4 jL.out
     have p466 : 0 ≤ (eG : Int) := qR
     have q466 : eG < (l0_3.length : Int) := qR
     obtain ⟨ad466, A466_0, c466_0, e466, kH, kG, kE, kD, kA, hl466_0, hi466_0⟩ := Qep R0_3.out eG p466 q466
     cases e466
     replace kH := cl HB kH
     replace kG := cl HB kG
     replace kE := cl HB kE
     replace kD := cl HB kD
     replace kA := cl HB kA
     have R466_0 := As0 hi466_0
     have C466_0 := As0 hl466_0
     clear hi466_0 hl466_0
     replace p466 := eq_true p466
     replace q466 := eq_true q466
     go_wp2
     go_roundg k2
     case measure => have := HJ1.out; have := HK2.out; omega
     case rel => exact ⟨(wrap64 (eG + 1)), eR, H', ⟨by have := HJ1.out; have := HK2.out; omega⟩, ⟨bU jL.out⟩, ⟨BU HB.out⟩⟩
mutual
def Qa2.l0 : Nat → List (List (S47)) → Int → Option (Bool)
 | 0, _, _ => none
 | k + 1, x0, x3 => if x3 < (x0.length : Int) then (Qa2.j1 k x0 x3 (decide (x3 ≤ 40))) else (Qa2.j1 k x0 x3 false)
def Qa2.j1 : Nat → List (List (S47)) → Int → Bool → Option (Bool)
 | 0, _, _, _ => none
 | k + 1, x0, x3, fL => if fL = true then (if 0 ≤ x3 then (if x3 < (x0.length : Int) then (if ((Qao x0 x3).length : Int) > 400 then (some false) else (Qa2.l0 k x0 (wrap64 (x3 + 1)))) else (none)) else (none)) else (some (decide ((x0.length : Int) ≤ 40)))
end
def Qa2.f (k : Nat) (l0 : List (List (S47))) : Option (Bool) := Qa2.l0 k l0 0
theorem Qa2.calls (k : Nat) (A0 : Option Addr) (c0 : Nat) (l0 : List (List (S47))) (r : Bool) (w : World) (hr0 : Kd.C (Kd.slice 47 k47) w A0 l0.length l0) (hc0 : l0.length ≤ c0) (h : Qa2.f k l0 = some r) :
 Calls Tryz.prog 24 #[.slice A0 l0.length c0] w fun e w' => e = .returned (.bool r) ∧ Qbr w w' := by
 have R0 := As0 hr0
 have C0 := As0 hc0
 clear hr0 hc0
 have H : (Qa2.l0 k l0 0) = some r := h
 clear h
 have H' := As0 H
 clear H
 go_enter Tryz.func24, Tryz.ntmps24
 go_wp2
 go_loopg [3] k (fun kq v3 w' => ∃ (cI : Int), v3 = .int .i64 cI ∧ Qbf (Qa2.l0 kq l0 cI = some r) ∧ Qbf (kq ≤ k) ∧ Qbr w w')
 case atStart => exact ⟨(0), eR, H', ⟨Nat.le_refl _⟩, by repeat (first | exact Qbr.refl _ | apply Qbr.step)⟩
 case round =>
  clear H'
  obtain ⟨cI, rfl, HA, HK1, ⟨m1, rfl⟩⟩ := hrel
  cases gk with
  | zero => exact absurd HA.out (by simp [Qa2.l0])
  | succ k1 =>
   have H := HA.out
   clear HA
   simp only [Qa2.l0] at H
   have C2 := As0 H
   clear H
   go_upto_region 2 with (fail)
   go_cut [11] (fun v11 wc => ∃ (kq : Nat) (cD : Bool), v11 = .bool cD ∧ Qbf (Qa2.j1 kq l0 cI cD = some r) ∧ Qbf (kq ≤ k1) ∧ Qbr w wc)
   case first =>
    have H := C2.out
    clear C2
    by_cases c3 : cI < (l0.length : Int)
    rotate_left
    ·rw [if_neg c3] at H
     have c3b0 := decide_eq_false c3
     clear c3
     (first | rw [c3b0] | (simp only [Qbo, Qbp]; rw [c3b0]) | skip)
     have H' := As0 H
     clear H
     go_wp2
     go_meet
     case rel => exact ⟨_, (false), eR, H', ⟨by have := HK1.out; first | omega | exact Nat.le_refl _⟩, by repeat (first | exact Qbr.refl _ | apply Qbr.step)⟩
    rw [if_pos c3] at H
    have c3b0 := decide_eq_true c3
    clear c3
    (first | rw [c3b0] | (simp only [Qbo, Qbp]; rw [c3b0]) | skip)
    have H' := As0 H
    clear H
    go_wp2
    go_meet
    case rel => exact ⟨_, (decide (cI ≤ 40)), eR, H', ⟨by have := HK1.out; first | omega | exact Nat.le_refl _⟩, by repeat (first | exact Qbr.refl _ | apply Qbr.step)⟩
   case rest =>
    clear C2
    obtain ⟨kq, cD, rfl, HA, HJ1, ⟨mc1, rfl⟩⟩ := hcut
    cases kq with
    | zero => exact absurd HA.out (by simp [Qa2.j1])
    | succ kj1 =>
     have H := HA.out
     clear HA
     simp only [Qa2.j1] at H
     by_cases c4 : cD = true
     rotate_left
     ·replace c4 := Bool.eq_false_iff.mpr c4
      subst c4
      rw [if_neg bF] at H
      obtain rfl := Option.some.inj H
      go_wp2
      go_ret
      exact dR
     subst c4
     rw [if_pos rfl] at H
     by_cases c5 : 0 ≤ cI
     rotate_left
     ·rw [if_neg c5] at H
      exact absurd H (by simp)
     rw [if_pos c5] at H
     have c5b0 := decide_eq_true c5
     clear c5
     by_cases c6 : cI < (l0.length : Int)
     rotate_left
     ·rw [if_neg c6] at H
      exact absurd H (by simp)
     rw [if_pos c6] at H
     have c6b0 := decide_eq_true c6
     clear c6
     by_cases c7 : ((Qao l0 cI).length : Int) > 400
     ·rw [if_pos c7] at H
      have c7b0 := decide_eq_true c7
      have c7b1 : decide (400 < (Qao l0 cI).length) = true := decide_eq_true (by omega)
      clear c7
      obtain rfl := Option.some.inj H
      have p467 : 0 ≤ (cI : Int) := qR
      have q467 : cI < (l0.length : Int) := qR
      obtain ⟨ad467, A467_0, c467_0, e467, hx467_0, hl467_0, hi467_0⟩ := Qdk R0.out cI p467 q467
      cases e467
      have R467_0 := As0 hi467_0
      have C467_0 := As0 hl467_0
      clear hi467_0 hl467_0
      replace p467 := eq_true p467
      replace q467 := eq_true q467
      go_wp2
      go_ret
      exact dR
     rw [if_neg c7] at H
     have c7b0 := decide_eq_false c7
     have c7b1 : decide (400 < (Qao l0 cI).length) = false := decide_eq_false (by omega)
     clear c7
     have H' := As0 H
     clear H
     have p467 : 0 ≤ (cI : Int) := qR
     have q467 : cI < (l0.length : Int) := qR
     obtain ⟨ad467, A467_0, c467_0, e467, hx467_0, hl467_0, hi467_0⟩ := Qdk R0.out cI p467 q467
     cases e467
     have R467_0 := As0 hi467_0
     have C467_0 := As0 hl467_0
     clear hi467_0 hl467_0
     replace p467 := eq_true p467
     replace q467 := eq_true q467
     go_wp2
     go_roundg kj1
     case measure => have := HK1.out; have := HJ1.out; omega
     case rel => exact ⟨(wrap64 (cI + 1)), eR, H', ⟨by have := HK1.out; have := HJ1.out; omega⟩, by repeat (first | exact Qbr.refl _ | apply Qbr.step)⟩
def regcertref16_Few.f (k : Nat) (a0_0 a0_1 : Int) (l0_2 : List (S39)) (a0_3 a0_4 a0_5 : Int) (l0_6 : List (S57)) (l0_7 : List (List (S47))) : Option (Bool) := (Qav.f k a0_0 a0_1 l0_2).bind fun t469 => (if t469 = true then ((Qau.f k a0_3 a0_4 a0_5 l0_6).bind fun t470 => (if t470 = true then ((Qa2.f k l0_7).bind fun t471 => (some t471)) else (some false))) else (some false))
theorem regcertref16_Few.calls (k : Nat) (a0_0 a0_1 : Int) (A0_2 : Option Addr) (c0_2 : Nat) (l0_2 : List (S39)) (a0_3 a0_4 a0_5 : Int) (A0_6 : Option Addr) (c0_6 : Nat) (l0_6 : List (S57)) (A0_7 : Option Addr) (c0_7 : Nat) (l0_7 : List (List (S47))) (r : Bool) (w : World) (hr0_2 : Kd.C k39 w A0_2 l0_2.length l0_2) (hc0_2 : l0_2.length ≤ c0_2) (hr0_6 : Kd.C k57 w A0_6 l0_6.length l0_6) (hc0_6 : l0_6.length ≤ c0_6) (hr0_7 : Kd.C (Kd.slice 47 k47) w A0_7 l0_7.length l0_7) (hc0_7 : l0_7.length ≤ c0_7) (h : regcertref16_Few.f k a0_0 a0_1 l0_2 a0_3 a0_4 a0_5 l0_6 l0_7 = some r) :
 Calls Tryz.prog 8 #[.agg #[.int .i64 a0_0, .int .i64 a0_1, .slice A0_2 l0_2.length c0_2, .int .i64 a0_3, .int .i64 a0_4, .int .i64 a0_5, .slice A0_6 l0_6.length c0_6, .slice A0_7 l0_7.length c0_7]] w fun e w' => e = .returned (.bool r) ∧ Below w.heap.size w w' := by
 have hu30 := Tryz.underlying30
 have hu24 := Tryz.underlying24
 have hu27 := Tryz.underlying27
 have R0_2 := As0 hr0_2
 have C0_2 := As0 hc0_2
 clear hr0_2 hc0_2
 have R0_6 := As0 hr0_6
 have C0_6 := As0 hc0_6
 clear hr0_6 hc0_6
 have R0_7 := As0 hr0_7
 have C0_7 := As0 hc0_7
 clear hr0_7 hc0_7
 have HB := As0 (Below.refl w.heap.size w)
 have H : ((Qav.f k a0_0 a0_1 l0_2).bind fun t469 => (if t469 = true then ((Qau.f k a0_3 a0_4 a0_5 l0_6).bind fun t470 => (if t470 = true then ((Qa2.f k l0_7).bind fun t471 => (some t471)) else (some false))) else (some false))) = some r := h
 clear h
 replace H := Option.bind_eq_some_iff.mp H
 obtain ⟨t469, A20, H⟩ := H
 have A2 := As0 A20
 clear A20
 by_cases c3 : t469 = true
 rotate_left
 ·replace c3 := Bool.eq_false_iff.mpr c3
  subst c3
  rw [if_neg bF] at H
  obtain rfl := Option.some.inj H
  go_enter Tryz.func8, Tryz.ntmps8
  go_wp2_with (first | ((with_reducible refine gD 1 ?_); refine bY HB.out ?_; intro gb468 w18 hg hb iG GW468 HB; clear hb hg; have q19_ := cN8 iG.out) | ((with_reducible refine Qbk (f := 22) rfl ?_); refine gL (some 5) Tryz.func22 #[.agg #[.int .i64 a0_0, .int .i64 a0_1, .slice A0_2 l0_2.length c0_2]] ?_; (with_reducible refine (Qav.calls k a0_0 a0_1 _ _ l0_2 false _ ?side1 ?side2 A2.out).mono ?_); (case side1 => exact CU (Kd.C_below R0_2.out HB.out)); (case side2 => exact C0_2.out); rintro e w20 ⟨rfl, hb⟩; refine ⟨_, rfl, ?_⟩; replace iG := kB iG hb; replace HB := sB HB hb; (try clear hb)))
  go_ret
  exact ⟨oR, BU HB.out⟩
 subst c3
 rw [if_pos rfl] at H
 replace H := Option.bind_eq_some_iff.mp H
 obtain ⟨t470, A40, H⟩ := H
 have A4 := As0 A40
 clear A40
 by_cases c5 : t470 = true
 rotate_left
 ·replace c5 := Bool.eq_false_iff.mpr c5
  subst c5
  rw [if_neg bF] at H
  obtain rfl := Option.some.inj H
  go_enter Tryz.func8, Tryz.ntmps8
  go_wp2_with (first | ((with_reducible refine gD 1 ?_); refine bY HB.out ?_; intro gb468 w13 hg hb iG GW468 HB; clear hb hg; have q14_ := cN8 iG.out) | ((with_reducible refine Qbk (f := 22) rfl ?_); refine gL (some 5) Tryz.func22 #[.agg #[.int .i64 a0_0, .int .i64 a0_1, .slice A0_2 l0_2.length c0_2]] ?_; (with_reducible refine (Qav.calls k a0_0 a0_1 _ _ l0_2 true _ ?side1 ?side2 A2.out).mono ?_); (case side1 => exact CU (Kd.C_below R0_2.out HB.out)); (case side2 => exact C0_2.out); rintro e w15 ⟨rfl, hb⟩; refine ⟨_, rfl, ?_⟩; replace iG := kB iG hb; replace HB := sB HB hb; (try clear hb); have q16_ := cN8 iG.out) | (go_at_call 23; (with_reducible refine (Qau.calls k a0_3 a0_4 a0_5 _ _ l0_6 false _ ?side1 ?side2 A4.out).mono ?_); (case side1 => exact CU (Kd.C_below R0_6.out HB.out)); (case side2 => exact C0_6.out); rintro e w17 ⟨rfl, hb⟩; replace iG := kB iG hb; replace HB := sB HB hb; (try clear hb)))
  go_ret
  exact ⟨oR, BU HB.out⟩
 subst c5
 rw [if_pos rfl] at H
 replace H := Option.bind_eq_some_iff.mp H
 obtain ⟨t471, A60, H⟩ := H
 have A6 := As0 A60
 clear A60
 obtain rfl := Option.some.inj H
 go_enter Tryz.func8, Tryz.ntmps8
 go_wp2_with (first | ((with_reducible refine gD 1 ?_); refine bY HB.out ?_; intro gb468 w7 hg hb iG GW468 HB; clear hb hg; have q8_ := cN8 iG.out) | ((with_reducible refine Qbk (f := 22) rfl ?_); refine gL (some 5) Tryz.func22 #[.agg #[.int .i64 a0_0, .int .i64 a0_1, .slice A0_2 l0_2.length c0_2]] ?_; (with_reducible refine (Qav.calls k a0_0 a0_1 _ _ l0_2 true _ ?side1 ?side2 A2.out).mono ?_); (case side1 => exact CU (Kd.C_below R0_2.out HB.out)); (case side2 => exact C0_2.out); rintro e w9 ⟨rfl, hb⟩; refine ⟨_, rfl, ?_⟩; replace iG := kB iG hb; replace HB := sB HB hb; (try clear hb); have q10_ := cN8 iG.out) | (go_at_call 23; (with_reducible refine (Qau.calls k a0_3 a0_4 a0_5 _ _ l0_6 true _ ?side1 ?side2 A4.out).mono ?_); (case side1 => exact CU (Kd.C_below R0_6.out HB.out)); (case side2 => exact C0_6.out); rintro e w11 ⟨rfl, hb⟩; replace iG := kB iG hb; replace HB := sB HB hb; (try clear hb); have q12_ := cN8 iG.out) | (go_at_call 24; (with_reducible refine (Qa2.calls k _ _ l0_7 t471 _ ?side1 ?side2 A6.out).mono ?_); (case side1 => exact CU (Kd.C_below R0_7.out HB.out)); (case side2 => exact C0_7.out); rintro e w' ⟨rfl, ⟨nd, rfl⟩⟩))
 go_ret
 exact ⟨oR, BU HB.out⟩
theorem w64i {n : Int} (h1 : -9223372036854775808 ≤ n) (h2 : n ≤ 9223372036854775807) : wrap64 n = n := by unfold wrap64; omega
theorem Ev.pos {α : Type} {c : Prop} [Decidable c] {f g : Nat → Option α} {r : α} (h : c) (k : Ev f r) : Ev (fun n => if c then f n else g n) r := by
 obtain ⟨K, k⟩ := k
 exact ⟨K, fun n hn => by simp only [if_pos h]; exact k n hn⟩
theorem Ev.neg {α : Type} {c : Prop} [Decidable c] {f g : Nat → Option α} {r : α} (h : ¬ c) (k : Ev g r) : Ev (fun n => if c then f n else g n) r := by
 obtain ⟨K, k⟩ := k
 exact ⟨K, fun n hn => by simp only [if_neg h]; exact k n hn⟩
theorem Ev.val {α : Type} {v r : α} (h : v = r) : Ev (fun _ => some v) r := ⟨0, fun _ _ => by rw [h]⟩
theorem Ev.then {α β : Type} {g : Nat → Option α} {f : Nat → α → Option β} {a : α} {r : β} (h : Ev g a) (k : Ev (fun n => f n a) r) : Ev (fun n => (g n).bind (f n)) r := by
 obtain ⟨K, h⟩ := h
 obtain ⟨L, k⟩ := k
 exact ⟨K + L, fun n hn => by show (g n).bind (f n) = some r; rw [h n (by omega)]; exact k n (by omega)⟩
theorem Ev.up {α : Type} {f g : Nat → Option α} {r : α} (h : ∀ k, f (k + 1) = g k) (k : Ev g r) : Ev f r := by
 obtain ⟨K, k⟩ := k
 exact ⟨K + 1, fun n hn => by obtain ⟨m, rfl⟩ : ∃ m, n = m + 1 := ⟨n - 1, by omega⟩; rw [h]; exact k m (by omega)⟩
theorem code07_ev (a r : Int) (l : List S39) (hl : l.length ≤ 9223372036854775807) : ∀ (n i : Nat) (x : Int), l.length - i = n → i ≤ l.length → ∃ v, Ev (fun k => Qa5.l0 k x (i : Int) a r l) v := by
 intro n
 induction n with
 | zero =>
  intro i x hn hi
  refine ⟨x, Ev.up (g := fun k => _) (fun k => rfl) ?_⟩
  exact Ev.neg (by omega) (Ev.val rfl)
 | succ n ih =>
  intro i x hn hi
  have hw : wrap64 ((i : Int) + 1) = ((i + 1 : Nat) : Int) := by rw [w64i (by omega) (by omega)]; omega
  obtain ⟨v, hv⟩ := ih (i + 1) (wrap64 (x + (((Qag l i).f0).length : Int))) (by omega) (by omega)
  refine ⟨v, Ev.up (g := fun k => _) (fun k => rfl) (Ev.pos (by omega) (Ev.pos (by omega) ?_))⟩
  rw [hw]; exact hv
theorem code08_ev (a r s : Int) (l : List S57) (hl : l.length ≤ 9223372036854775807) : ∀ (n i : Nat) (x : Int), l.length - i = n → i ≤ l.length → ∃ v, Ev (fun k => Qa4.l0 k x (i : Int) a r s l) v := by
 intro n
 induction n with
 | zero =>
  intro i x hn hi
  refine ⟨x, Ev.up (g := fun k => _) (fun k => rfl) ?_⟩
  exact Ev.neg (by omega) (Ev.val rfl)
 | succ n ih =>
  intro i x hn hi
  have hw : wrap64 ((i : Int) + 1) = ((i + 1 : Nat) : Int) := by rw [w64i (by omega) (by omega)]; omega
  obtain ⟨v, hv⟩ := ih (i + 1) (wrap64 (x + (((Qaq l i).f0).length : Int))) (by omega) (by omega)
  refine ⟨v, Ev.up (g := fun k => _) (fun k => rfl) (Ev.pos (by omega) (Ev.pos (by omega) ?_))⟩
  rw [hw]; exact hv
theorem j07_true (a r : Int) (l : List S39) : Ev (fun k => Qav.j0 k true a r l) false := ⟨1, fun n hn => by obtain ⟨m, rfl⟩ : ∃ m, n = m + 1 := ⟨n - 1, by omega⟩; rfl⟩
theorem j08_true (a r s : Int) (l : List S57) : Ev (fun k => Qau.j0 k true a r s l) false := ⟨1, fun n hn => by obtain ⟨m, rfl⟩ : ∃ m, n = m + 1 := ⟨n - 1, by omega⟩; rfl⟩
theorem j15_false (l : List (List S47)) (i : Int) : Ev (fun k => Qa2.j1 k l i false) (decide ((l.length : Int) ≤ 40)) := ⟨1, fun n hn => by obtain ⟨m, rfl⟩ : ∃ m, n = m + 1 := ⟨n - 1, by omega⟩; rfl⟩
theorem few07_ev (a r : Int) (l : List S39) (hl : l.length ≤ 9223372036854775807) : ∀ (n i : Nat), l.length - i = n → i ≤ l.length →
    ∃ b, Ev (fun k => Qav.l0 k (i : Int) a r l) b ∧ (b = true → ∀ j : Nat, i ≤ j → j < l.length → (Qag l (j : Int)).f0.length ≤ 100) := by
 intro n
 induction n with
 | zero =>
  intro i hn hi
  obtain ⟨v, hv⟩ := code07_ev a r l hl _ 0 0 rfl (by omega)
  refine ⟨decide (v ≤ 300), Ev.up (g := fun k => _) (fun k => rfl) (Ev.neg (by omega) (Ev.then (a := v) hv (Ev.val rfl))), fun _ j h1 h2 => by omega⟩
 | succ n ih =>
  intro i hn hi
  have hw : wrap64 ((i : Int) + 1) = ((i + 1 : Nat) : Int) := by rw [w64i (by omega) (by omega)]; omega
  by_cases hb : (((Qag l (i : Int)).f0).length : Int) > 100
  ·exact ⟨false, Ev.up (g := fun k => _) (fun k => rfl) (Ev.pos (by omega) (Ev.pos (by omega) (Ev.pos hb (Ev.val rfl)))), by simp⟩
  ·obtain ⟨b, hv, hh⟩ := ih (i + 1) (by omega) (by omega)
   refine ⟨b, Ev.up (g := fun k => _) (fun k => rfl) (Ev.pos (by omega) (Ev.pos (by omega) (Ev.neg hb ?_))), fun hbt j h1 h2 => ?_⟩
   ·rw [hw]; exact hv
   ·rcases Nat.eq_or_lt_of_le h1 with rfl | h3
    ·omega
    ·exact hh hbt j h3 h2
theorem few07 (a r : Int) (l : List S39) (hl : l.length ≤ 9223372036854775807) :
    ∃ b, Ev (fun k => Qav.f k a r l) b ∧ (b = true → l.length ≤ 40 ∧ r ≤ 60 ∧ ∀ j : Nat, j < l.length → (Qag l (j : Int)).f0.length ≤ 100) := by
 unfold Qav.f
 by_cases h1 : (l.length : Int) > 40
 ·exact ⟨false, Ev.pos h1 (j07_true _ _ _), by simp⟩
 ·by_cases h2 : r > 60
  ·exact ⟨false, Ev.neg h1 (Ev.up (g := fun k => _) (fun k => rfl) (Ev.pos (by simpa using h2) (Ev.val rfl))), by simp⟩
  ·obtain ⟨b, hv, hh⟩ := few07_ev a r l hl _ 0 rfl (by omega)
   exact ⟨b, Ev.neg h1 (Ev.up (g := fun k => _) (fun k => rfl) (Ev.neg (by simpa using h2) hv)), fun hb => ⟨by omega, by omega, fun j hj => hh hb j (by omega) hj⟩⟩
theorem few08_ev (a r s : Int) (l : List S57) (hl : l.length ≤ 9223372036854775807) : ∀ (n i : Nat), l.length - i = n → i ≤ l.length →
    ∃ b, Ev (fun k => Qau.l0 k (i : Int) a r s l) b ∧ (b = true → ∀ j : Nat, i ≤ j → j < l.length → (Qaq l (j : Int)).f0.length ≤ 300) := by
 intro n
 induction n with
 | zero =>
  intro i hn hi
  obtain ⟨v, hv⟩ := code08_ev a r s l hl _ 0 0 rfl (by omega)
  refine ⟨decide (v ≤ 900), Ev.up (g := fun k => _) (fun k => rfl) (Ev.neg (by omega) (Ev.then (a := v) hv (Ev.val rfl))), fun _ j h1 h2 => by omega⟩
 | succ n ih =>
  intro i hn hi
  have hw : wrap64 ((i : Int) + 1) = ((i + 1 : Nat) : Int) := by rw [w64i (by omega) (by omega)]; omega
  by_cases hb : (((Qaq l (i : Int)).f0).length : Int) > 300
  ·exact ⟨false, Ev.up (g := fun k => _) (fun k => rfl) (Ev.pos (by omega) (Ev.pos (by omega) (Ev.pos hb (Ev.val rfl)))), by simp⟩
  ·obtain ⟨b, hv, hh⟩ := ih (i + 1) (by omega) (by omega)
   refine ⟨b, Ev.up (g := fun k => _) (fun k => rfl) (Ev.pos (by omega) (Ev.pos (by omega) (Ev.neg hb ?_))), fun hbt j h1 h2 => ?_⟩
   ·rw [hw]; exact hv
   ·rcases Nat.eq_or_lt_of_le h1 with rfl | h3
    ·omega
    ·exact hh hbt j h3 h2
theorem few08 (a r s : Int) (l : List S57) (hl : l.length ≤ 9223372036854775807) :
    ∃ b, Ev (fun k => Qau.f k a r s l) b ∧ (b = true → l.length ≤ 40 ∧ r ≤ 60 ∧ s ≤ 60 ∧ ∀ j : Nat, j < l.length → (Qaq l (j : Int)).f0.length ≤ 300) := by
 unfold Qau.f
 by_cases h1 : (l.length : Int) > 40
 ·exact ⟨false, Ev.pos h1 (j08_true _ _ _ _), by simp⟩
 ·by_cases h2 : r > 60
  ·exact ⟨false, Ev.neg h1 (Ev.pos h2 (j08_true _ _ _ _)), by simp⟩
  ·by_cases h3 : s > 60
   ·exact ⟨false, Ev.neg h1 (Ev.neg h2 (Ev.up (g := fun k => _) (fun k => rfl) (Ev.pos (by simpa using h3) (Ev.val rfl)))), by simp⟩
   ·obtain ⟨b, hv, hh⟩ := few08_ev a r s l hl _ 0 rfl (by omega)
    exact ⟨b, Ev.neg h1 (Ev.neg h2 (Ev.up (g := fun k => _) (fun k => rfl) (Ev.neg (by simpa using h3) hv))), fun hb => ⟨by omega, by omega, by omega, fun j hj => hh hb j (by omega) hj⟩⟩
theorem few15_ev (l : List (List S47)) (hl : l.length ≤ 9223372036854775807) : ∀ (n i : Nat), l.length - i = n → i ≤ l.length → i ≤ 41 →
    ∃ b, Ev (fun k => Qa2.l0 k l (i : Int)) b ∧ (b = true → l.length ≤ 40 ∧ ∀ j : Nat, i ≤ j → j < l.length → (Qao l (j : Int)).length ≤ 400) := by
 intro n
 induction n with
 | zero =>
  intro i hn hi h41
  refine ⟨decide ((l.length : Int) ≤ 40), Ev.up (g := fun k => _) (fun k => rfl) (Ev.neg (by omega) (j15_false _ _)), fun h => ⟨by simp at h; omega, fun j h1 h2 => by omega⟩⟩
 | succ n ih =>
  intro i hn hi h41
  have hw : wrap64 ((i : Int) + 1) = ((i + 1 : Nat) : Int) := by rw [w64i (by omega) (by omega)]; omega
  by_cases h40 : (i : Int) ≤ 40
  ·by_cases hb : ((Qao l (i : Int)).length : Int) > 400
   ·exact ⟨false, Ev.up (g := fun k => _) (fun k => rfl) (Ev.pos (by omega) (Ev.up (g := fun k => _) (fun k => rfl) (Ev.pos (by simpa using h40) (Ev.pos (by omega) (Ev.pos (by omega) (Ev.pos hb (Ev.val rfl))))))), by simp⟩
   ·obtain ⟨b, hv, hh⟩ := ih (i + 1) (by omega) (by omega) (by omega)
    refine ⟨b, Ev.up (g := fun k => _) (fun k => rfl) (Ev.pos (by omega) (Ev.up (g := fun k => _) (fun k => rfl) (Ev.pos (by simpa using h40) (Ev.pos (by omega) (Ev.pos (by omega) (Ev.neg hb ?_)))))), fun hbt => ⟨(hh hbt).1, fun j h1 h2 => ?_⟩⟩
    ·rw [hw]; exact hv
    ·rcases Nat.eq_or_lt_of_le h1 with rfl | h3
     ·omega
     ·exact (hh hbt).2 j h3 h2
  ·exact ⟨false, Ev.up (g := fun k => _) (fun k => rfl) (Ev.pos (by omega) (Ev.up (g := fun k => _) (fun k => rfl) (Ev.neg (by simpa using h40) (Ev.val (by simp; omega))))), by simp⟩
theorem few16 (a0 a1 : Int) (l2 : List S39) (a3 a4 a5 : Int) (l6 : List S57) (l7 : List (List S47)) (h2 : l2.length ≤ 9223372036854775807) (h6 : l6.length ≤ 9223372036854775807) (h7 : l7.length ≤ 9223372036854775807) :
    ∃ b, Ev (fun k => regcertref16_Few.f k a0 a1 l2 a3 a4 a5 l6 l7) b ∧ (b = true → (l2.length ≤ 40 ∧ a1 ≤ 60 ∧ ∀ j : Nat, j < l2.length → (Qag l2 (j : Int)).f0.length ≤ 100) ∧
     (l6.length ≤ 40 ∧ a4 ≤ 60 ∧ a5 ≤ 60 ∧ ∀ j : Nat, j < l6.length → (Qaq l6 (j : Int)).f0.length ≤ 300) ∧ (l7.length ≤ 40 ∧ ∀ j : Nat, j < l7.length → (Qao l7 (j : Int)).length ≤ 400)) := by
 unfold regcertref16_Few.f
 obtain ⟨b1, e1, q1⟩ := few07 a0 a1 l2 h2
 obtain ⟨b2, e2, q2⟩ := few08 a3 a4 a5 l6 h6
 obtain ⟨b3, e3, q3⟩ := few15_ev l7 h7 _ 0 rfl (by omega) (by omega)
 cases b1 with
 | false => exact ⟨false, Ev.then e1 (Ev.neg (by simp) (Ev.val rfl)), by simp⟩
 | true => cases b2 with
  | false => exact ⟨false, Ev.then e1 (Ev.pos rfl (Ev.then e2 (Ev.neg (by simp) (Ev.val rfl)))), by simp⟩
  | true => exact ⟨b3, Ev.then e1 (Ev.pos rfl (Ev.then e2 (Ev.pos rfl (Ev.then e3 (Ev.val rfl))))), fun hb => ⟨q1 rfl, q2 rfl, (q3 hb).1, fun j hj => (q3 hb).2 j (by omega) hj⟩⟩
def okIrsrc (c : List S41) (r : Int) (i : Nat) : Prop := insR (Qam c (i : Int)).f0 (Qam c (i : Int)).f1 (Qam c (i : Int)).f2 (Qam c (i : Int)).f3 (Qam c (i : Int)).f4 r = 0
def okBrsrc (b : S39) (r m : Int) : Prop := (∀ i : Nat, i < b.f0.length → okIrsrc b.f0 r i) ∧ trmR b.f1.f0 b.f1.f1 b.f1.f2 b.f1.f3 r m = 0
theorem rsrc_calls (k : Nat) (a r v : Int) (A0 : Option Addr) (c0 : Nat) (l : List S39) (w : World) (h0 : Kd.C k39 w A0 l.length l) (hc0 : l.length ≤ c0) (hv : Qa5.f k a r l = some v) (hvb : v ≤ 1000000) (hrb : r ≤ 1000) (hl : l.length ≤ 1000) (hcl : ∀ i : Nat, i < l.length → (Qag l (i : Int)).f0.length ≤ 1000) :
    Calls Tryz.prog 25 #[.agg #[.int .i64 a, .int .i64 r, .slice A0 l.length c0]] w fun e w' => (∃ x, e = .returned (.int .i64 x) ∧ (x = 0 → (0 ≤ a ∧ a ≤ r) ∧ l.length ≠ 0 ∧ ∀ i : Nat, i < l.length → okBrsrc (Qag l (i : Int)) r l.length)) ∧ Below w.heap.size w w' := by
 have hu24 := Tryz.underlying24
 have hu39 := Tryz.underlying39
 have hu41 := Tryz.underlying41
 have hu37 := Tryz.underlying37
 have hu35 := Tryz.underlying35
 have H0 := As0 h0
 have HB := As0 (Below.refl w.heap.size w)
 clear h0
 obtain ⟨q0_, c0_⟩ : ∃ q, decide (a < 0) = q := ⟨_, rfl⟩
 obtain ⟨q1_, c1_⟩ : ∃ q, decide (r < a) = q := ⟨_, rfl⟩
 have k0_ : decide (1048576 < r) = false := by first | exact decide_eq_false (by omega) | (simp; omega)
 have k1_ : decide (1048576 < (l.length : Int)) = false := by first | exact decide_eq_false (by omega) | (simp; omega)
 have k2_ : decide (1048576 < l.length) = false := by first | exact decide_eq_false (by omega) | (simp; omega)
 have k3_ : decide (1048576 < v) = false := by first | exact decide_eq_false (by omega) | (simp; omega)
 go_enter Tryz.func25, Tryz.ntmps25
 go_wp2_with (first
  | ((with_reducible refine gD 1 ?_); refine bX ?_; intro gB hg w1 aC hb; have B := As0 aC; have GB := As0 (by rw [hg]; exact Qbi (BU HB.out) : w.heap.size ≤ gB); replace HB := sB HB hb; (obtain ⟨b0, b1, b2, -⟩ := cN3 B.out); clear hb aC hg)
  | (go_at_call 52; refine (Qa5.calls k a r A0 c0 l v _ (Kd.C_below H0.out (BU HB.out)) hc0 hv).mono ?_; rintro e w4 ⟨rfl, hb⟩; clear b0 b1 b2; replace B := kB B hb; replace HB := sB HB hb; (obtain ⟨b0, b1, b2, -⟩ := cN3 B.out); clear hb))
 any_goals (go_ret; exact ⟨⟨_, rfl, fun h => absurd h (by decide)⟩, BU HB.out⟩)
 go_loopg [3] (l.length + 1) (fun kq v3 w' => ∃ x : Int, v3 = .int .i64 x ∧ Qbf (0 ≤ x ∧ x ≤ (l.length : Int) ∧ (kq : Int) + x = (l.length : Int) + 1) ∧ Qbf (∀ i : Nat, (i : Int) < x → okBrsrc (Qag l (i : Int)) r l.length) ∧ Qbf (w'.heap[gB]? = some (.cells #[.int .i64 a, .int .i64 r, .slice A0 l.length c0] 24 (0, 0))) ∧ Qbf (Below w.heap.size w w'))
 case atStart => exact ⟨0, rfl, ⟨by omega⟩, ⟨fun i hi => by omega⟩, ⟨bU B.out⟩, ⟨BU HB.out⟩⟩
 case round =>
  clear b0 b1 b2 B HB
  obtain ⟨x, rfl, HI, HO, B, HB⟩ := hrel
  (obtain ⟨b0, b1, b2, -⟩ := cN3 B.out)
  cases gk with
  | zero => exact absurd HI.out (by omega)
  | succ kq =>
   have hi0 : 0 ≤ x := HI.out.1
   by_cases hlt : x < (l.length : Int)
   ·have hd0 := decide_eq_true hlt
    obtain ⟨ad, A1, c1, e0, hx0, hx1, hx2, hx3, hx4, hl1, hC1⟩ := Qed H0.out x hi0 hlt
    have hcl1 := hcl x.toNat (by omega)
    rw [Int.toNat_of_nonneg hi0] at hcl1
    have hw : wrap64 (x + 1) = x + 1 := w64i (by omega) (by omega)
    generalize hbk : Qag l x = bk at hx0 hx1 hx2 hx3 hx4 hl1 hC1 hcl1
    cases e0
    replace hx0 := cl HB hx0
    replace hx1 := cl HB hx1
    replace hx2 := cl HB hx2
    replace hx3 := cl HB hx3
    replace hx4 := cl HB hx4
    have C1 := As0 hC1
    have HW := As0 hw
    have HK := As0 hbk
    clear hC1 hw hbk
    have p0 := eq_true hi0
    have q0 := eq_true hlt
    go_wp2_with (first
     | ((with_reducible refine gD 4 ?_); refine bX ?_; intro gO hg w5 aC hb; have O := As0 aC; have GO := As0 (by rw [hg]; exact Qbi (BU HB.out) : w.heap.size ≤ gO); have NO := As0 (by have := Qbs (bU B.out); omega : gB ≠ gO); replace B := kB B hb; replace HB := sB HB hb; clear b0 b1 b2; (obtain ⟨b0, b1, b2, -⟩ := cN3 B.out); clear hb aC hg)
     | ((with_reducible refine Qcb (.store 39 (.tmp 4) (.tmp 45)) rfl ?_); go_loud (refine Qae rfl rfl 39 _ _ rfl gO #[.slice A1 bk.f0.length c1, .int .i64 bk.f1.f0, .int .i64 bk.f1.f1, .int .i64 bk.f1.f2, .int .i64 bk.f1.f3] rfl rfl 39 #[.slice none 0 0, .int .i64 0, .int .i64 0, .int .i64 0, .int .i64 0] (bU O.out) (by kernel_rfl) rfl (by kernel_rfl) ?_); intro w6 hg ho hB; replace HB := As0 (hB _ _ GO.out (BU HB.out)); replace B := As0 ((ho _ NO.out).trans (bU B.out)); replace O := As0 hg; clear b0 b1 b2; (obtain ⟨b0, b1, b2, -⟩ := cN3 B.out); (obtain ⟨o0, o1, o2, o3, o4, -⟩ := cN5 O.out); clear hg ho hB))
    go_loopg [5] (bk.f0.length + 1) (fun kq v5 w' => ∃ y : Int, v5 = .int .i64 y ∧ Qbf (0 ≤ y ∧ y ≤ (bk.f0.length : Int) ∧ (kq : Int) + y = (bk.f0.length : Int) + 1) ∧ Qbf (∀ i : Nat, (i : Int) < y → okIrsrc bk.f0 r i) ∧ Qbf (w'.heap[gB]? = some (.cells #[.int .i64 a, .int .i64 r, .slice (some ad) l.length c0] 24 (0, 0))) ∧ Qbf (w'.heap[gO]? = some (.cells #[.slice A1 bk.f0.length c1, .int .i64 bk.f1.f0, .int .i64 bk.f1.f1, .int .i64 bk.f1.f2, .int .i64 bk.f1.f3] 39 (0, 0))) ∧ Qbf (Below w.heap.size w w'))
    case atStart => exact ⟨0, rfl, ⟨by omega⟩, ⟨fun i hi => by omega⟩, ⟨bU B.out⟩, ⟨bU O.out⟩, ⟨BU HB.out⟩⟩
    case round =>
     clear b0 b1 b2 o0 o1 o2 o3 o4 B O HB hx0 hx1 hx2 hx3 hx4 p0 q0 hd0
     obtain ⟨y, rfl, HJ, HP, B, O, HB⟩ := hrel
     (obtain ⟨b0, b1, b2, -⟩ := cN3 B.out)
     (obtain ⟨o0, o1, o2, o3, o4, -⟩ := cN5 O.out)
     cases gk with
     | zero => exact absurd HJ.out (by omega)
     | succ kj =>
      have hj0 : 0 ≤ y := HJ.out.1
      by_cases hjt : y < (bk.f0.length : Int)
      ·have hd1 := decide_eq_true hjt
       obtain ⟨a1, e1, hy0, hy1, hy2, hy3, hy4⟩ := at_T41 C1.out y hj0 hjt
       have HV := As0 (w64i (n := y + 1) (by omega) (by omega))
       generalize hm : Qam bk.f0 y = m at hy0 hy1 hy2 hy3 hy4
       have HM := As0 hm
       clear hm
       cases e1
       replace hy0 := cl HB hy0
       replace hy1 := cl HB hy1
       replace hy2 := cl HB hy2
       replace hy3 := cl HB hy3
       replace hy4 := cl HB hy4
       have p1 := eq_true hj0
       have q1 := eq_true hjt
       obtain ⟨z, hz⟩ : ∃ z, insR m.f0 m.f1 m.f2 m.f3 m.f4 r = z := ⟨_, rfl⟩
       go_wp2
       refine Qb1 (n := 9) (S := fun w' => w'.cell? ⟨gO, 0, none⟩ = some (.slice (some a1) bk.f0.length c1) ∧ w'.cell? (a1.add (y.toNat * 5)) = some (.int .i64 m.f0) ∧ w'.cell? ⟨(a1.add (y.toNat * 5)).block, (a1.add (y.toNat * 5)).off + 1, none⟩ = some (.int .i64 m.f1) ∧ w'.cell? ⟨(a1.add (y.toNat * 5)).block, (a1.add (y.toNat * 5)).off + 2, none⟩ = some (.int .i64 m.f2) ∧ w'.cell? ⟨(a1.add (y.toNat * 5)).block, (a1.add (y.toNat * 5)).off + 3, none⟩ = some (.int .i64 m.f3) ∧ w'.cell? ⟨(a1.add (y.toNat * 5)).block, (a1.add (y.toNat * 5)).off + 4, none⟩ = some (.int .i64 m.f4) ∧ w'.cell? ⟨gB, 1, none⟩ = some (.int .i64 r)) (ds := [7]) (bb 9 0) (by kernel_rfl) rfl rfl ⟨o0, hy0, hy1, hy2, hy3, hy4, b1⟩ (fun aA => ?_)
       refine pu 0 53 (bb 9 1) ?_
       refine pu 2 55 (bb 9 5) ?_
       refine pu 5 58 (bb 9 37) ?_
       refine tu aA 1 54 (bb 9 39) ?_
       refine pu 3 56 (bb 9 47) ?_
       refine tu aA 4 57 (bb 9 63) ?_
       refine tu aA 6 59 (bb 9 127) ?_
       refine Qc7 (i := 7) (N := some 60) (bb 9 255) rfl rfl (by kernel_rfl) (by decide) (fun K hK => ?_)
       refine gG Tryz.func54 #[.agg #[.int .i64 m.f0, .int .i64 m.f1, .int .i64 m.f2, .int .i64 m.f3, .int .i64 m.f4], .int .i64 r] ?_
       with_reducible refine (rinstr_calls m.f0 m.f1 m.f2 m.f3 m.f4 r _).mono ?_
       rintro e w7 ⟨he, hb⟩
       rw [hz] at he
       subst he
       replace B := kB B hb
       replace O := kB O hb
       replace HB := sB HB hb
       refine ⟨_, rfl, ?_⟩
       refine hK.out _ _ ?_
       clear hK K
       refine Qbz (a' := ?_) ?_ ?_
       rotate_left
       ·show Act.put _ (some 60) _ = _
        simp only [Act.put, List.setIfInBounds_toArray, List.set_cons_zero, List.set_cons_succ, Qbo, Qbp]
        rfl
       refine pu 8 6 (bb 9 511) ?_
       refine Qch (by kernel_rfl) ?_
       clear b0 b1 b2 o0 o1 o2 o3 o4 hy0 hy1 hy2 hy3 hy4 p1 q1
       (obtain ⟨b0, b1, b2, -⟩ := cN3 B.out)
       (obtain ⟨o0, o1, o2, o3, o4, -⟩ := cN5 O.out)
       by_cases hz0 : z = 0
       ·have hzb : (z != 0) = false := bne_eq_false_iff_eq.mpr hz0
        go_wp2
        go_roundg kj
        case measure => omega
        case rel => exact ⟨_, rfl, ⟨by (try rw [HV.out]); have := HJ.out; omega⟩, ⟨fun i hi => by (try rw [HV.out] at hi); exact (Int.lt_or_eq_of_le (Int.le_of_lt_add_one hi)).elim (fun h => HP.out i h) (fun h => (by subst h; show okIrsrc _ _ _; unfold okIrsrc; rw [HM.out, hz]; exact hz0))⟩, ⟨bU B.out⟩, ⟨bU O.out⟩, ⟨BU HB.out⟩⟩
       ·have hzb : (z != 0) = true := bne_iff_ne.mpr hz0
        go_wp2
        go_ret
        exact ⟨⟨_, rfl, fun h => absurd h hz0⟩, BU HB.out⟩
      ·have hd1 := decide_eq_false hjt
       have hyn : y = (bk.f0.length : Int) := by have := HJ.out; omega
       obtain ⟨u, hu_⟩ : ∃ u, trmR bk.f1.f0 bk.f1.f1 bk.f1.f2 bk.f1.f3 r l.length = u := ⟨_, rfl⟩
       by_cases hu0 : u = 0
       ·have hub : (u != 0) = false := bne_eq_false_iff_eq.mpr hu0
        go_wp2_with (go_at_call 55; refine (Qdx bk.f1.f0 bk.f1.f1 bk.f1.f2 bk.f1.f3 r (l.length : Int) _).mono ?_; rintro e w8 ⟨he, hb⟩; rw [hu_] at he; subst he; clear b0 b1 b2 o0 o1 o2 o3 o4; replace B := kB B hb; replace O := kB O hb; replace HB := sB HB hb; (obtain ⟨b0, b1, b2, -⟩ := cN3 B.out); clear hb)
        go_roundg kq
        case measure => omega
        case rel => exact ⟨_, rfl, ⟨by (try rw [HW.out]); have := HI.out; omega⟩, ⟨fun i hi => by (try rw [HW.out] at hi); exact (Int.lt_or_eq_of_le (Int.le_of_lt_add_one hi)).elim (fun h => HO.out i h) (fun h => by subst h; rw [HK.out]; exact ⟨fun i hi => HP.out i (by rw [hyn]; exact Int.ofNat_lt.2 hi), by rw [hu_]; exact hu0⟩)⟩, ⟨bU B.out⟩, ⟨BU HB.out⟩⟩
       ·have hub : (u != 0) = true := bne_iff_ne.mpr hu0
        go_wp2_with (go_at_call 55; refine (Qdx bk.f1.f0 bk.f1.f1 bk.f1.f2 bk.f1.f3 r (l.length : Int) _).mono ?_; rintro e w8 ⟨he, hb⟩; rw [hu_] at he; subst he; clear b0 b1 b2 o0 o1 o2 o3 o4; replace B := kB B hb; replace O := kB O hb; replace HB := sB HB hb; (obtain ⟨b0, b1, b2, -⟩ := cN3 B.out); clear hb)
        go_ret
        exact ⟨⟨_, rfl, fun h => absurd h hu0⟩, BU HB.out⟩
   ·have hd0 := decide_eq_false hlt
    go_wp2
    go_ret
    refine ⟨⟨_, rfl, fun _ => ?_⟩, BU HB.out⟩
    have hall : ∀ i : Nat, i < l.length → okBrsrc (Qag l (i : Int)) r l.length := fun i hi => HO.out i (by omega)
    have e0 := of_decide_eq_false (c0_.trans (Bool.eq_false_iff.2 ‹¬q0_ = true›))
    have e1 := of_decide_eq_false (c1_.trans ‹q1_ = false›)
    have e2 := beq_eq_false_iff_ne.1 ‹((l.length : Int) == 0) = false›
    exact ⟨⟨by omega, by omega⟩, fun h => e2 (by rw [h]; rfl), hall⟩
end Go.Proofs.YtchpkjgibloleaaGreat.Z
namespace Go.Proofs
set_option maxRecDepth 100000
set_option maxHeartbeats 8000000
open Go.Shelf
def Tryz.tzSort_ren : Go.Shelf.Ren := ⟨fun | 6 => 116 | 15 => 154 | 14 => 153 | 28 => 182 | 29 => 183 | 20 => 174 | 21 => 175 | 22 => 176 | 23 => 177 | 24 => 178 | 25 => 179 | 26 => 180 | 27 => 181 | 46 => 199 | 47 => 200 | 48 => 201 | 49 => 202 | 50 => 203 | 57 => 223 | n => n, fun | 22 => 44 | 24 => 47 | 25 => 183 | 3 => 3 | 39 => 222 | 0 => 0 | 53 => 250 | 55 => 136 | 4 => 4 | 46 => 243 | 45 => 242 | 50 => 247 | 5 => 5 | 9 => 9 | 66 => 268 | 70 => 204 | 76 => 279 | 77 => 280 | n => n, fun | n => n⟩
theorem Tryz.tzSort : Go.Proofs.SlLaysF0.n6 Tryz.prog Tryz.tzSort_ren := {
 mixed := by kernel_rfl
 f6 := ⟨Tryz.f116.name, by decide, Tryz.func116.trans (congrArg some (by kernel_rfl))⟩
 f14 := ⟨Tryz.f153.name, by decide, Tryz.func153.trans (congrArg some (by kernel_rfl))⟩
 f15 := Tryz.func154.trans (congrArg some (by kernel_rfl))
 f20 := ⟨Tryz.f174.name, by decide, Tryz.func174.trans (congrArg some (by kernel_rfl))⟩
 f21 := ⟨Tryz.f175.name, by decide, Tryz.func175.trans (congrArg some (by kernel_rfl))⟩
 f22 := ⟨Tryz.f176.name, by decide, Tryz.func176.trans (congrArg some (by kernel_rfl))⟩
 f23 := ⟨Tryz.f177.name, by decide, Tryz.func177.trans (congrArg some (by kernel_rfl))⟩
 f24 := ⟨Tryz.f178.name, by decide, Tryz.func178.trans (congrArg some (by kernel_rfl))⟩
 f25 := ⟨Tryz.f179.name, by decide, Tryz.func179.trans (congrArg some (by kernel_rfl))⟩
 f26 := ⟨Tryz.f180.name, by decide, Tryz.func180.trans (congrArg some (by kernel_rfl))⟩
 f27 := ⟨Tryz.f181.name, by decide, Tryz.func181.trans (congrArg some (by kernel_rfl))⟩
 f28 := Tryz.func182.trans (congrArg some (by kernel_rfl))
 f29 := Tryz.func183.trans (congrArg some (by kernel_rfl))
 f46 := ⟨Tryz.f199.name, by decide, Tryz.func199.trans (congrArg some (by kernel_rfl))⟩
 f47 := Tryz.func200.trans (congrArg some (by kernel_rfl))
 f48 := Tryz.func201.trans (congrArg some (by kernel_rfl))
 f49 := ⟨Tryz.f202.name, by decide, Tryz.func202.trans (congrArg some (by kernel_rfl))⟩
 f50 := ⟨Tryz.f203.name, by decide, Tryz.func203.trans (congrArg some (by kernel_rfl))⟩
 f57 := ⟨Tryz.f223.name, by decide, Tryz.func223.trans (congrArg some (by kernel_rfl))⟩
 t0 := Tryz.underlying0
 a0 := Tryz.isAgg0
 z0 := Tryz.sizeOf0
 v0 := Tryz.zeroValue0
 t3 := Tryz.underlying3
 a3 := Tryz.isAgg3
 z3 := Tryz.sizeOf3
 v3 := Tryz.zeroValue3
 t4 := Tryz.underlying4
 a4 := Tryz.isAgg4
 z4 := Tryz.sizeOf4
 v4 := Tryz.zeroValue4
 t5 := Tryz.underlying5
 a5 := Tryz.isAgg5
 z5 := Tryz.sizeOf5
 v5 := Tryz.zeroValue5
 t9 := Tryz.underlying9
 a9 := Tryz.isAgg9
 z9 := Tryz.sizeOf9
 v9 := Tryz.zeroValue9
 t22 := Tryz.underlying44
 a22 := Tryz.isAgg44
 z22 := Tryz.sizeOf44
 v22 := Tryz.zeroValue44
 t25 := Tryz.underlying183
 a25 := Tryz.isAgg183
 z25 := Tryz.sizeOf183
 v25 := Tryz.zeroValue183
 t39 := Tryz.underlying222
 a39 := Tryz.isAgg222
 z39 := Tryz.sizeOf222
 v39 := Tryz.zeroValue222
 t45 := Tryz.underlying242
 a45 := Tryz.isAgg242
 z45 := Tryz.sizeOf242
 v45 := Tryz.zeroValue242
 t46 := Tryz.underlying243
 a46 := Tryz.isAgg243
 z46 := Tryz.sizeOf243
 v46 := Tryz.zeroValue243
 t50 := Tryz.underlying247
 a50 := Tryz.isAgg247
 z50 := Tryz.sizeOf247
 v50 := Tryz.zeroValue247
 t53 := Tryz.underlying250
 a53 := Tryz.isAgg250
 z53 := Tryz.sizeOf250
 v53 := Tryz.zeroValue250
 t55 := Tryz.underlying136
 a55 := Tryz.isAgg136
 z55 := Tryz.sizeOf136
 v55 := Tryz.zeroValue136
 t66 := Tryz.underlying268
 a66 := Tryz.isAgg268
 z66 := Tryz.sizeOf268
 v66 := Tryz.zeroValue268
 t70 := Tryz.underlying204
 a70 := Tryz.isAgg204
 z70 := Tryz.sizeOf204
 v70 := Tryz.zeroValue204
 t76 := Tryz.underlying279
 a76 := Tryz.isAgg279
 z76 := Tryz.sizeOf279
 v76 := Tryz.zeroValue279
 t77 := Tryz.underlying280
 a77 := Tryz.isAgg280
 z77 := Tryz.sizeOf280
 v77 := Tryz.zeroValue280 }
end Go.Proofs
namespace Go.Proofs.YtchpkjgibloleaaGreat.Z
set_option maxRecDepth 100000
set_option maxHeartbeats 8000000
open Go.RowKit Go.Proofs.YtchpkjgibloleaaGreatW.PrintWords Go.Proofs.YtchpkjgibloleaaGreatW.PrintLast Go.Proofs.YtchpkjgibloleaaGreatW.PrintMore
attribute [local go_sem] Qbt Qb0
theorem bXe {P : Program} {OPS : Array Oper} {rest : List Oper} {o : Oper} {a : Act} {Q : Exit → Act → World → Prop} {W : World} {N : Tmp} {cs : Array Value} {t : TypeId}
    (h : ∀ g, g = W.heap.size → ∀ w1, w1 = W.alloc (.cells cs t (0, 0)) → w1.heap[g]? = some (.cells cs t (0, 0)) → wpList P OPS Q rest (a.put o.dst (.pointer (some ⟨g, 0, none⟩))) w1)
    (hd : o.dst = some N := by rfl) (hgd : o.guard = none := by rfl)
    (hrun : (execOp a.eval o).run P W = .ok (.value (.pointer (some ⟨W.heap.size, 0, none⟩))) (W.alloc (.cells cs t (0, 0))) := by first | (go_simp; done) | (go_simp; rfl)) : wpList P OPS Q (o :: rest) a W :=
 Kd.event_run hgd hrun (h _ rfl _ rfl (Qc9 W _))
def Gr (w w' : World) : Prop := ∃ os, w' = Sort.grow w os
theorem Gr.alloc {w w1 : World} (h : Gr w w1) (o : Obj) : Gr w (w1.alloc o) := by
 obtain ⟨os, rfl⟩ := h
 exact ⟨os ++ #[o], by rw [Sort.alloc_eq_grow, Sort.grow_grow]⟩
theorem Gr.trans {w w1 w2 : World} (h : Gr w w1) (k : Gr w1 w2) : Gr w w2 := by
 obtain ⟨os, rfl⟩ := h
 obtain ⟨os', rfl⟩ := k
 exact ⟨os ++ os', by rw [Sort.grow_grow]⟩
theorem Gr.refl (w : World) : Gr w w := ⟨#[], (Sort.grow_empty w).symm⟩
theorem Gr.below {w w1 : World} (h : Gr w w1) : Below w.heap.size w w1 := by
 obtain ⟨os, rfl⟩ := h
 exact ⟨rfl, rfl, rfl, by rw [Sort.size_grow]; omega, fun k hk => Sort.heap_grow_old w os hk⟩
def Qd6 (x0 x1 y0 y1 : Int) : Bool := decide (x0 < y0) || (decide (x0 = y0) && decide (x1 < y1))
def cmpI (x0 x1 y0 y1 : Int) : Int := if Qd6 x0 x1 y0 y1 = true then -1 else if Qd6 y0 y1 x0 x1 = true then 1 else 0
theorem less_w (x0 x1 y0 y1 : Int) (W : World) : Calls Tryz.prog 122 #[.agg #[.int .i64 x0, .int .i64 x1], .agg #[.int .i64 y0, .int .i64 y1]] W fun e w' => e = .returned (.bool (Qd6 x0 x1 y0 y1)) ∧ Gr W w' := by
 have hu47 := Tryz.underlying47
 have GR := As0 (Gr.refl W)
 by_cases c3 : x0 < y0
 ·have r : Qd6 x0 x1 y0 y1 = true := by simp [Qd6, c3]
  have c3b0 := decide_eq_true c3
  rw [r]
  clear c3
  go_enter Tryz.func122, Tryz.ntmps122
  go_wp2_with (first | ((with_reducible refine gD 2 ?_); refine bXe (N := 2) (cs := #[.int .i64 x0, .int .i64 x1]) (t := 47) ?_; intro gX hg w1 he aC; have X := As0 aC; (obtain ⟨z0, z1, u0, u1⟩ := cN2 X.out); replace GR := As0 (he ▸ GR.out.alloc _); clear he aC hg) | ((with_reducible refine gD 3 ?_); refine bXe (N := 3) (cs := #[.int .i64 y0, .int .i64 y1]) (t := 47) ?_; intro gY hg w1 he aC; (try (replace X := As0 (he ▸ Qbq X.out _); clear z0 z1 u0 u1; (obtain ⟨z0, z1, u0, u1⟩ := cN2 X.out))); have Y := As0 aC; (obtain ⟨e0, e1, d0, d1⟩ := cN2 Y.out); replace GR := As0 (he ▸ GR.out.alloc _); clear he aC hg))
  go_ret
  exact ⟨rfl, GR.out⟩
 ·have c3b0 := decide_eq_false c3
  by_cases c9 : x0 = y0
  ·have r : Qd6 x0 x1 y0 y1 = decide (x1 < y1) := by simp [Qd6, c9]
   have c9b0 : (x0 == y0) = true := beq_iff_eq.mpr c9
   rw [r]
   clear c3 c9
   go_enter Tryz.func122, Tryz.ntmps122
   go_wp2_with (first | ((with_reducible refine gD 2 ?_); refine bXe (N := 2) (cs := #[.int .i64 x0, .int .i64 x1]) (t := 47) ?_; intro gX hg w1 he aC; have X := As0 aC; (obtain ⟨z0, z1, u0, u1⟩ := cN2 X.out); replace GR := As0 (he ▸ GR.out.alloc _); clear he aC hg) | ((with_reducible refine gD 3 ?_); refine bXe (N := 3) (cs := #[.int .i64 y0, .int .i64 y1]) (t := 47) ?_; intro gY hg w1 he aC; (try (replace X := As0 (he ▸ Qbq X.out _); clear z0 z1 u0 u1; (obtain ⟨z0, z1, u0, u1⟩ := cN2 X.out))); have Y := As0 aC; (obtain ⟨e0, e1, d0, d1⟩ := cN2 Y.out); replace GR := As0 (he ▸ GR.out.alloc _); clear he aC hg))
   go_ret
   exact ⟨rfl, GR.out⟩
  ·have r : Qd6 x0 x1 y0 y1 = false := by simp [Qd6, c3, c9]
   have c9b0 : (x0 == y0) = false := beq_eq_false_iff_ne.mpr c9
   rw [r]
   clear c3 c9
   go_enter Tryz.func122, Tryz.ntmps122
   go_wp2_with (first | ((with_reducible refine gD 2 ?_); refine bXe (N := 2) (cs := #[.int .i64 x0, .int .i64 x1]) (t := 47) ?_; intro gX hg w1 he aC; have X := As0 aC; (obtain ⟨z0, z1, u0, u1⟩ := cN2 X.out); replace GR := As0 (he ▸ GR.out.alloc _); clear he aC hg) | ((with_reducible refine gD 3 ?_); refine bXe (N := 3) (cs := #[.int .i64 y0, .int .i64 y1]) (t := 47) ?_; intro gY hg w1 he aC; (try (replace X := As0 (he ▸ Qbq X.out _); clear z0 z1 u0 u1; (obtain ⟨z0, z1, u0, u1⟩ := cN2 X.out))); have Y := As0 aC; (obtain ⟨e0, e1, d0, d1⟩ := cN2 Y.out); replace GR := As0 (he ▸ GR.out.alloc _); clear he aC hg))
   go_ret
   exact ⟨rfl, GR.out⟩
theorem compare_w (x0 x1 y0 y1 : Int) (W : World) : Calls Tryz.prog 117 #[.agg #[.int .i64 x0, .int .i64 x1], .agg #[.int .i64 y0, .int .i64 y1]] W fun e w' => e = .returned (.int .i64 (cmpI x0 x1 y0 y1)) ∧ Gr W w' := by
 have hu47 := Tryz.underlying47
 have GR := As0 (Gr.refl W)
 cases c3 : Qd6 x0 x1 y0 y1 with
 | true =>
  have r : cmpI x0 x1 y0 y1 = -1 := by simp [cmpI, c3]
  rw [r]
  go_enter Tryz.func117, Tryz.ntmps117
  go_wp2_with (first | ((with_reducible refine gD 2 ?_); refine bXe (N := 2) (cs := #[.int .i64 x0, .int .i64 x1]) (t := 47) ?_; intro gX hg w1 he aC; have X := As0 aC; (obtain ⟨z0, z1, u0, u1⟩ := cN2 X.out); replace GR := As0 (he ▸ GR.out.alloc _); clear he aC hg) | ((with_reducible refine gD 3 ?_); refine bXe (N := 3) (cs := #[.int .i64 y0, .int .i64 y1]) (t := 47) ?_; intro gY hg w1 he aC; (try (replace X := As0 (he ▸ Qbq X.out _); clear z0 z1 u0 u1; (obtain ⟨z0, z1, u0, u1⟩ := cN2 X.out))); have Y := As0 aC; (obtain ⟨e0, e1, d0, d1⟩ := cN2 Y.out); replace GR := As0 (he ▸ GR.out.alloc _); clear he aC hg) | (go_at_call 122; refine (less_w _ _ _ _ _).mono ?_; rintro e w2 ⟨rfl, hb⟩; (first | rw [c3] | rw [c4]); clear z0 z1 u0 u1 e0 e1 d0 d1; replace X := As0 (Qbg X.out hb.below); replace Y := As0 (Qbg Y.out hb.below); (obtain ⟨z0, z1, u0, u1⟩ := cN2 X.out); (obtain ⟨e0, e1, d0, d1⟩ := cN2 Y.out); replace GR := As0 (GR.out.trans hb); clear hb))
  go_ret
  exact ⟨rfl, GR.out⟩
 | false =>
  cases c4 : Qd6 y0 y1 x0 x1 with
  | true =>
   have r : cmpI x0 x1 y0 y1 = 1 := by simp [cmpI, c3, c4]
   rw [r]
   go_enter Tryz.func117, Tryz.ntmps117
   go_wp2_with (first | ((with_reducible refine gD 2 ?_); refine bXe (N := 2) (cs := #[.int .i64 x0, .int .i64 x1]) (t := 47) ?_; intro gX hg w1 he aC; have X := As0 aC; (obtain ⟨z0, z1, u0, u1⟩ := cN2 X.out); replace GR := As0 (he ▸ GR.out.alloc _); clear he aC hg) | ((with_reducible refine gD 3 ?_); refine bXe (N := 3) (cs := #[.int .i64 y0, .int .i64 y1]) (t := 47) ?_; intro gY hg w1 he aC; (try (replace X := As0 (he ▸ Qbq X.out _); clear z0 z1 u0 u1; (obtain ⟨z0, z1, u0, u1⟩ := cN2 X.out))); have Y := As0 aC; (obtain ⟨e0, e1, d0, d1⟩ := cN2 Y.out); replace GR := As0 (he ▸ GR.out.alloc _); clear he aC hg) | (go_at_call 122; refine (less_w _ _ _ _ _).mono ?_; rintro e w2 ⟨rfl, hb⟩; (first | rw [c3] | rw [c4]); clear z0 z1 u0 u1 e0 e1 d0 d1; replace X := As0 (Qbg X.out hb.below); replace Y := As0 (Qbg Y.out hb.below); (obtain ⟨z0, z1, u0, u1⟩ := cN2 X.out); (obtain ⟨e0, e1, d0, d1⟩ := cN2 Y.out); replace GR := As0 (GR.out.trans hb); clear hb) | (go_at_call 122; refine (less_w _ _ _ _ _).mono ?_; rintro e w2 ⟨rfl, hb⟩; (first | rw [c3] | rw [c4]); clear z0 z1 u0 u1 e0 e1 d0 d1; replace X := As0 (Qbg X.out hb.below); replace Y := As0 (Qbg Y.out hb.below); (obtain ⟨z0, z1, u0, u1⟩ := cN2 X.out); (obtain ⟨e0, e1, d0, d1⟩ := cN2 Y.out); replace GR := As0 (GR.out.trans hb); clear hb))
   go_ret
   exact ⟨rfl, GR.out⟩
  | false =>
   have r : cmpI x0 x1 y0 y1 = 0 := by simp [cmpI, c3, c4]
   rw [r]
   go_enter Tryz.func117, Tryz.ntmps117
   go_wp2_with (first | ((with_reducible refine gD 2 ?_); refine bXe (N := 2) (cs := #[.int .i64 x0, .int .i64 x1]) (t := 47) ?_; intro gX hg w1 he aC; have X := As0 aC; (obtain ⟨z0, z1, u0, u1⟩ := cN2 X.out); replace GR := As0 (he ▸ GR.out.alloc _); clear he aC hg) | ((with_reducible refine gD 3 ?_); refine bXe (N := 3) (cs := #[.int .i64 y0, .int .i64 y1]) (t := 47) ?_; intro gY hg w1 he aC; (try (replace X := As0 (he ▸ Qbq X.out _); clear z0 z1 u0 u1; (obtain ⟨z0, z1, u0, u1⟩ := cN2 X.out))); have Y := As0 aC; (obtain ⟨e0, e1, d0, d1⟩ := cN2 Y.out); replace GR := As0 (he ▸ GR.out.alloc _); clear he aC hg) | (go_at_call 122; refine (less_w _ _ _ _ _).mono ?_; rintro e w2 ⟨rfl, hb⟩; (first | rw [c3] | rw [c4]); clear z0 z1 u0 u1 e0 e1 d0 d1; replace X := As0 (Qbg X.out hb.below); replace Y := As0 (Qbg Y.out hb.below); (obtain ⟨z0, z1, u0, u1⟩ := cN2 X.out); (obtain ⟨e0, e1, d0, d1⟩ := cN2 Y.out); replace GR := As0 (GR.out.trans hb); clear hb) | (go_at_call 122; refine (less_w _ _ _ _ _).mono ?_; rintro e w2 ⟨rfl, hb⟩; (first | rw [c3] | rw [c4]); clear z0 z1 u0 u1 e0 e1 d0 d1; replace X := As0 (Qbg X.out hb.below); replace Y := As0 (Qbg Y.out hb.below); (obtain ⟨z0, z1, u0, u1⟩ := cN2 X.out); (obtain ⟨e0, e1, d0, d1⟩ := cN2 Y.out); replace GR := As0 (GR.out.trans hb); clear hb))
   go_ret
   exact ⟨rfl, GR.out⟩
attribute [local go_sem high] eqA47
def Qb7 (x y : S47) : Bool := Qd6 x.f0 x.f1 y.f0 y.f1
theorem Qdf (x y : S47) : Qb7 x y = true ↔ x.f0 < y.f0 ∨ (x.f0 = y.f0 ∧ x.f1 < y.f1) := by simp [Qb7, Qd6]
theorem Qd7 (x y : S47) : Qb7 x y = false ↔ ¬ (x.f0 < y.f0 ∨ (x.f0 = y.f0 ∧ x.f1 < y.f1)) := by rw [← Qdf]; simp
def Asc (l : List S47) : Prop := l.Pairwise (fun x y => Qb7 x y = true)
instance : Inhabited S47 := ⟨z47⟩
def enc47 (x : S47) : List Value := [.int .i64 x.f0, .int .i64 x.f1]
def cmp47 (x y : S47) : Int := cmpI x.f0 x.f1 y.f0 y.f1
theorem lt47 (x y : S47) : ltOf cmp47 x y = Qb7 x y := by
 unfold ltOf cmp47 cmpI
 show decide ((if Qb7 x y = true then (-1 : Int) else if Qb7 y x = true then 1 else 0) < 0) = Qb7 x y
 cases h : Qb7 x y with
 | true => simp
 | false => cases h2 : Qb7 y x <;> simp
theorem swo47 : Sort.SWO (ltOf cmp47) where
 irrefl x := by rw [lt47, Qd7]; omega
 trans x y z h1 h2 := by rw [lt47, Qdf] at *; omega
 ntrans x y z h1 h2 := by rw [lt47, Qd7] at *; omega
theorem tot47 (x y : S47) (h1 : ltOf cmp47 x y = false) (h2 : ltOf cmp47 y x = false) : x = y := by
 rw [lt47, Qd7] at *
 cases x; cases y
 simp only [S47.mk.injEq]
 constructor <;> (simp only at h1 h2; omega)
theorem Asc.merge {l : List S47} (h : Asc l) : (l.mergeSort fun x y => !(ltOf cmp47) y x) = l := by
 refine List.mergeSort_of_pairwise (List.Pairwise.imp (fun {x y} hxy => ?_) h)
 rw [lt47]
 have : Qb7 y x = false := by rw [Qd7]; rw [Qdf] at hxy; omega
 rw [this]; rfl
theorem Gr.drewN {w : World} (n : Nat) (os : Array Obj) : Below w.heap.size w (Sort.grow (w.drewN n) os) :=
 ⟨rfl, rfl, rfl, by rw [Sort.size_grow]; show w.heap.size ≤ w.heap.size + os.size; omega, fun k hk => Sort.heap_grow_old (w.drewN n) os hk⟩
theorem cmpLays47 (blk off size : Nat) (w : World) : CmpLays Tryz.prog 117 #[] enc47 2 cmp47 blk off size w :=
 fun _ _ _ _ x y => (compare_w x.f0 x.f1 y.f0 y.f1 _).mono fun _ _ ⟨he, os, hw⟩ => ⟨he, 0, os, hw⟩
theorem holds47 {w : World} {g cap : Nat} {cur : Array Value} {l : List S47} (hg : w.heap[g]? = some (.cells cur 47 (0, 0))) (hC : Kd.C k47 w (some ⟨g, 0, none⟩) l.length l) : Go.Sort.HoldsK enc47 2 w g 0 l.toArray := by
 intro j hj
 rw [Go.Sort.size_flatK] at hj
 simp only [List.size_toArray] at hj
 have hi : j / 2 < l.length := by omega
 obtain ⟨ad, e, h0, h1⟩ := Qcc hC ((j / 2 : Nat) : Int) (Int.natCast_nonneg _) (by omega)
 cases e
 simp only [Int.toNat_natCast] at h0 h1
 have key : ∀ q : Nat, q < l.length → Qaa l (q : Int) = l.toArray[q]! := by
  intro q hq
  have h2 : (l.toArray)[q]! = l[q] := by simp [hq]
  rw [h2]; simp [Qaa, List.getD_eq_getElem?_getD, hq]
 rw [key _ hi, Addr.add_lit] at h0
 rw [key _ hi, Addr.add_lit] at h1
 dsimp only at h1
 rw [Nat.zero_add] at h0 h1
 rw [Go.Sort.get_flatK _ _ _ _ (by simpa using hj)]
 refine ⟨?_, Qbj hg _⟩
 rcases Nat.mod_two_eq_zero_or_one j with h | h
 ·rw [h, show 0 + j = j / 2 * 2 by omega]
  exact h0
 ·rw [h, show 0 + j = j / 2 * 2 + 1 by omega]
  exact h1
theorem agg47 : ∀ w, (isAgg (Tryz.tzSort_ren.t 24)).run Tryz.prog w = .ok true w := Tryz.isAgg47
theorem siz47 : ∀ w, (Go.sizeOf (Tryz.tzSort_ren.t 24)).run Tryz.prog w = .ok 2 w := Tryz.sizeOf47
theorem sort_calls {base : Nat} {ok : Nat → Prop} (v : Value) (l : List S47) (w : World) (hR : Kd.R k47 47 w base ok v l) (hs : Asc l) (hl : l.length < 8796093022208) :
    Calls Tryz.prog 116 #[v, .func (.func 117) #[] #[]] w fun e w' => e = .returned (.tuple #[]) ∧ Below w.heap.size w w' := by
 obtain ⟨inner, hlen, h | ⟨g, cap, cur, rfl, hb, hg, hle, hmx, hsz, htk⟩⟩ := Kd.R_own hR
 ·obtain ⟨rfl, h0⟩ := h
  have := AnyF.slices_SortFunc_none (P := Tryz.prog) (ρ := Tryz.tzSort_ren) Tryz.tzSort none 0 (.func (.func 117) #[] #[]) w
  exact this.mono fun _ _ ⟨he, hw⟩ => ⟨he, by rw [hw]; exact Below.refl _ _⟩
 ·have hC := (Kd.R_reads' hR).2.2
  have hH := holds47 (cap := cap) hg hC
  have hblk : g < w.heap.size := Qbs hg
  have := AnyQ.slices_SortFunc_total (P := Tryz.prog) (ρ := Tryz.tzSort_ren) Tryz.tzSort 2 agg47 siz47 enc47 (fun _ => rfl) (fun x v hv => by simp [enc47] at hv; rcases hv with rfl | rfl <;> rfl) cmp47 swo47 117 #[] g 0 cap l.toArray w (enters_of Tryz.func117 (by kernel_rfl) rfl) (cmpLays47 g 0 l.toArray.size w) hH hblk (by simp; omega) tot47
  change Calls Tryz.prog 116 _ _ _ at this
  rw [show l.toArray.toList = l from rfl, hs.merge] at this
  simp only [List.size_toArray] at this
  refine this.mono ?_
  rintro e w' ⟨he, n, os, rfl⟩
  refine ⟨he, ?_⟩
  unfold sortWorldK
  rw [Go.Sort.putRowK_self enc47 2 _ _ _ _ (Go.Sort.holdsK_ahead enc47 2 w n g 0 _ hH)]
  exact Gr.drewN n os
theorem clone_calls (w : World) (A : Option Addr) (c : Nat) (l : List S47) (hC : Kd.C k47 w A l.length l) (hl : l.length < 8796093022208) :
    Calls Tryz.prog 115 #[.slice A l.length c] w fun e w' => ∃ v, e = .returned v ∧ Kd.R k47 47 w' w.heap.size (fun _ => True) v l ∧ Below w.heap.size w w' := by
 have hu44 := Tryz.underlying44
 have hu47 := Tryz.underlying47
 have HC := Qbf.mk hC
 have hq : ∀ (w : World) (a : Option Addr) (n c : Nat), (binOp .eql 44 (.slice a n c) (.slice none 0 0)).run Tryz.prog w = .ok (.bool a.isNone) w := fun w a n c => Lib.run_eql_slice_nil w 44 47 a n c 0 0 Tryz.underlying44
 cases A with
 | none =>
  have h0 : l = [] := by
   rcases l with _ | ⟨x, xs⟩
   ·rfl
   ·obtain ⟨ad, h, _⟩ := hC.2.2 (by simp)
    cases h
  subst h0
  clear hC
  go_enter Tryz.func115, Tryz.ntmps115
  go_wp2
  go_ret
  exact ⟨_, rfl, Kd.R_nil _ _ _ _ _, Below.refl _ _⟩
 | some ad =>
  clear hC
  go_enter Tryz.func115, Tryz.ntmps115
  go_wp2_with (first
   | ((with_reducible refine gD 5 ?_); refine Kd.R_lit k47 w.heap.size 47 rfl (N := 5) rfl (xs := ([] : List S47)) (inner := []) (ok := fun _ => True) (okp := fun _ => True) (by first | (go_simp; done) | (go_simp; rfl)) (Reps.none _ _) (fun _ hk => hk) trivial (Below.refl _ _) (Nat.le_refl _) (by simp) ?_; intro v1 w1 R1 HB1 HG1 HA1)
   | ((with_reducible refine Qb6 (b := .append) rfl ?_); go_loud (refine Kd.R_append_rows k47 (w0 := w) w.heap.size rfl (.tmp 5) (.tmp 6) 44 47 (.agg #[(.int .i64 0), (.int .i64 0)]) 16 rfl Tryz.underlying44 Qcq rfl (by decide) (by decide) v1 [] l _ _ _ (fun _ => True) (fun _ => False) rfl rfl R1 (Kd.C_below HC.out HB1) (fun _ _ h => h) (fun _ h => h.elim) (fun _ _ => trivial) HB1 HB1.size (by simp only [List.length_nil]; omega) ?_); intro v2 w2 R2 HB2 HG2 HA2))
  all_goals go_ret
  all_goals exact ⟨_, rfl, R2, HB2⟩
theorem compact_calls (w : World) (A : Option Addr) (c : Nat) (l : List S47) (hC : Kd.C k47 w A l.length l) (hc : l.length ≤ c) (hs : Asc l) (hl : l.length < 8796093022208) :
    Calls Tryz.prog 118 #[.slice A l.length c] w fun e w' => e = .returned (.slice A l.length c) ∧ Below w.heap.size w w' := by
 have hu44 := Tryz.underlying44
 have hu47 := Tryz.underlying47
 have HC := As0 hC
 have HS := As0 hs
 have HL := As0 hl
 have HB := As0 (Below.refl w.heap.size w)
 clear hC hs hl
 by_cases h2 : l.length < 2
 ·have h2' : (l.length : Int) < 2 := by omega
  clear HC
  go_enter Tryz.func118, Tryz.ntmps118
  go_wp2
  go_ret
  exact ⟨rfl, HB.out⟩
 ·have h2' : ¬ (l.length : Int) < 2 := by omega
  go_enter Tryz.func118, Tryz.ntmps118
  go_wp2
  go_loopg [3] (l.length + 1) (fun g v3 w' => ∃ i : Nat, v3 = .int .i64 (i : Int) ∧ Qbf (1 ≤ i ∧ i ≤ l.length ∧ l.length - i < g) ∧ Qbf (Below w.heap.size w w'))
  case atStart => exact ⟨1, rfl, ⟨by omega, by omega, by omega⟩, ⟨BU HB.out⟩⟩
  case round =>
   clear HB
   obtain ⟨i, rfl, HI, HB⟩ := hrel
   have hi1 := HI.out.1
   by_cases hi : i < l.length
   ·have hlt : (i : Int) < (l.length : Int) := by omega
    have hlt1 : (i : Int) - 1 < (l.length : Int) := by omega
    have h0 : (0 : Int) ≤ (i : Int) := by omega
    have h01 : (0 : Int) ≤ (i : Int) - 1 := by omega
    obtain ⟨ad, e, hx0, hx1⟩ := Qcc HC.out i h0 hlt
    cases e
    obtain ⟨ad', e', hy0, hy1⟩ := Qcc HC.out ((i : Int) - 1) h01 hlt1
    cases e'
    replace hx0 := cl HB hx0
    replace hx1 := cl HB hx1
    replace hy0 := cl HB hy0
    replace hy1 := cl HB hy1
    have hw : wrap64 ((i : Int) + 1) = ((i + 1 : Nat) : Int) := by have := HL.out; unfold wrap64; omega
    have hw1 : wrap64 ((i : Int) - 1) = (i : Int) - 1 := by have := HL.out; unfold wrap64; omega
    have hne : ((Qaa l i).f0 == (Qaa l ((i : Int) - 1)).f0 && ((Qaa l i).f1 == (Qaa l ((i : Int) - 1)).f1)) = false := by
     have h1 := (List.pairwise_iff_getElem.mp HS.out) (i - 1) i (by omega) hi (by omega)
     have e1 : Qaa l (i : Int) = l[i] := by simp [Qaa, List.getD_eq_getElem?_getD, hi]
     have e2 : Qaa l ((i : Int) - 1) = l[i - 1] := by
      have : ((i : Int) - 1).toNat = i - 1 := by omega
      simp [Qaa, List.getD_eq_getElem?_getD, this, show i - 1 < l.length by omega]
     rw [e1, e2]
     rw [Qdf] at h1
     simp
     omega
    have e3 : ((i : Int) - 1).toNat = i - 1 := by omega
    rw [e3] at hy0 hy1
    simp only [Int.toNat_natCast] at hx0 hx1
    generalize Qaa l (i : Int) = p at hx0 hx1 hne
    generalize Qaa l ((i : Int) - 1) = q at hy0 hy1 hne
    go_wp2
    go_region
    go_wp2
    go_roundg (l.length - i)
    case measure => have := HI.out; omega
    case rel => exact ⟨i + 1, by rw [hw], ⟨by omega, by omega, by omega⟩, ⟨BU HB.out⟩⟩
   ·have hi' : i = l.length := by have := HI.out; omega
    subst hi'
    go_wp2
    go_ret
    exact ⟨rfl, BU HB.out⟩
theorem Qem (w : World) (A : Option Addr) (c : Nat) (l : List S47) (hC : Kd.C k47 w A l.length l) (hs : Asc l) (hl : l.length < 8796093022208) :
    Calls Tryz.prog 65 #[.slice A l.length c] w fun e w' => ∃ v, e = .returned v ∧ Kd.R k47 47 w' w.heap.size (fun _ => True) v l ∧ Below w.heap.size w w' := by
 have HC := As0 hC
 clear hC
 go_enter Tryz.func65, Tryz.ntmps65
 go_wp2_with (first
  | (go_at_call 115; refine (clone_calls _ A c l HC.out hl).mono ?_; rintro e w1 ⟨v1, rfl, ho, hb⟩; have HO := As0 ho; have HB := As0 hb; clear ho hb)
  | (go_at_call 116; refine (sort_calls v1 l _ HO.out hs hl).mono ?_; rintro e w2 ⟨rfl, hb⟩; replace HO := As0 (Kd.R_below HO.out hb); replace HB := sB HB hb; (obtain ⟨A1, c1, e1, hc1, C1⟩ := Kd.R_reads HO.out); subst e1; replace C1 := As0 C1; clear hb)
  | (go_at_call 118; refine (compact_calls _ A1 c1 l C1.out hc1 hs hl).mono ?_; rintro e w3 ⟨rfl, hb⟩; replace HO := As0 (Kd.R_below HO.out hb); replace HB := sB HB hb; clear hb))
 go_ret
 exact ⟨_, rfl, RU HO.out, BU HB.out⟩
def Qba.f (a0 : Int) : Option (Bool) := if a0 ≥ 1 then (some (decide (a0 ≤ 18))) else (some false)
theorem Qba.calls (a0 : Int) (r : Bool) (w : World) (h : Qba.f a0 = some r) :
 Calls Tryz.prog 162 #[.int .i64 a0] w fun e w' => e = .returned (.bool r) ∧ Qbr w w' := by
 have H : (if a0 ≥ 1 then (some (decide (a0 ≤ 18))) else (some false)) = some r := h
 clear h
 by_cases c2 : a0 ≥ 1
 rotate_left
 ·rw [if_neg c2] at H
  have c2b0 := decide_eq_false c2
  clear c2
  obtain rfl := Option.some.inj H
  go_enter Tryz.func162, Tryz.ntmps162
  go_wp2
  go_ret
  exact dR
 rw [if_pos c2] at H
 have c2b0 := decide_eq_true c2
 clear c2
 obtain rfl := Option.some.inj H
 go_enter Tryz.func162, Tryz.ntmps162
 go_wp2
 go_ret
 exact dR
def opcode_Source.f (a0 : Int) : Option (Bool) := (Qba.f a0).bind fun t115 => (if t115 = true then (some (a0 != 18)) else (some false))
theorem opcode_Source.calls (a0 : Int) (r : Bool) (w : World) (h : opcode_Source.f a0 = some r) :
 Calls Tryz.prog 128 #[.int .i64 a0] w fun e w' => e = .returned (.bool r) ∧ Qbr w w' := by
 have H : ((Qba.f a0).bind fun t115 => (if t115 = true then (some (a0 != 18)) else (some false))) = some r := h
 clear h
 replace H := Option.bind_eq_some_iff.mp H
 obtain ⟨t115, A20, H⟩ := H
 have A2 := As0 A20
 clear A20
 by_cases c3 : t115 = true
 ·subst c3
  rw [if_pos rfl] at H
  obtain rfl := Option.some.inj H
  go_enter Tryz.func128, Tryz.ntmps128
  go_wp2_with (first | ((with_reducible refine Qbk (f := 162) rfl ?_); refine gL (some 4) Tryz.func162 #[.int .i64 a0] ?_; (with_reducible refine (Qba.calls a0 true _ A2.out).mono ?_); rintro e w' ⟨rfl, ⟨nd, rfl⟩⟩; refine ⟨_, rfl, ?_⟩))
  go_ret
  exact dR
 replace c3 := Bool.eq_false_iff.mpr c3
 subst c3
 rw [if_neg bF] at H
 obtain rfl := Option.some.inj H
 go_enter Tryz.func128, Tryz.ntmps128
 go_wp2_with (first | ((with_reducible refine Qbk (f := 162) rfl ?_); refine gL (some 4) Tryz.func162 #[.int .i64 a0] ?_; (with_reducible refine (Qba.calls a0 false _ A2.out).mono ?_); rintro e w' ⟨rfl, ⟨nd, rfl⟩⟩; refine ⟨_, rfl, ?_⟩))
 go_ret
 exact dR
def opcode_Machine.f (a0 : Int) : Option (Bool) := (Qba.f a0).bind fun t164 => (if t164 = true then (some (a0 != 2)) else (some false))
theorem opcode_Machine.calls (a0 : Int) (r : Bool) (w : World) (h : opcode_Machine.f a0 = some r) :
 Calls Tryz.prog 133 #[.int .i64 a0] w fun e w' => e = .returned (.bool r) ∧ Qbr w w' := by
 have H : ((Qba.f a0).bind fun t164 => (if t164 = true then (some (a0 != 2)) else (some false))) = some r := h
 clear h
 replace H := Option.bind_eq_some_iff.mp H
 obtain ⟨t164, A20, H⟩ := H
 have A2 := As0 A20
 clear A20
 by_cases c3 : t164 = true
 ·subst c3
  rw [if_pos rfl] at H
  obtain rfl := Option.some.inj H
  go_enter Tryz.func133, Tryz.ntmps133
  go_wp2_with (first | ((with_reducible refine Qbk (f := 162) rfl ?_); refine gL (some 4) Tryz.func162 #[.int .i64 a0] ?_; (with_reducible refine (Qba.calls a0 true _ A2.out).mono ?_); rintro e w' ⟨rfl, ⟨nd, rfl⟩⟩; refine ⟨_, rfl, ?_⟩))
  go_ret
  exact dR
 replace c3 := Bool.eq_false_iff.mpr c3
 subst c3
 rw [if_neg bF] at H
 obtain rfl := Option.some.inj H
 go_enter Tryz.func133, Tryz.ntmps133
 go_wp2_with (first | ((with_reducible refine Qbk (f := 162) rfl ?_); refine gL (some 4) Tryz.func162 #[.int .i64 a0] ?_; (with_reducible refine (Qba.calls a0 false _ A2.out).mono ?_); rintro e w' ⟨rfl, ⟨nd, rfl⟩⟩; refine ⟨_, rfl, ?_⟩))
 go_ret
 exact dR
def opcode_Of.f (a0 : Int) : Option (Bool × Bool × Bool × Bool × Bool) := (Qba.f a0).bind fun t117 => (if t117 = true then (if a0 = 1 then (some (true, false, false, true, true)) else (if a0 ≤ 4 then (some (true, true, false, false, true)) else (if a0 ≤ 16 then (some (true, true, true, false, true)) else (some (false, (a0 == 17), false, false, true))))) else (some (false, false, false, false, false)))
def wiB (p : S235) : Bool := !(p.f1 && (decide (p.f0 < 0) || decide (p.f2 ≤ p.f0)))
def blB (p : S235) : Bool := p.f1 || !(p.f0 != 0)
theorem Qcg {α : Type} (l : List α) (z : α) (i : Nat) (h : i < l.length) : l.drop i = l.getD i z :: l.drop (i + 1) := by
 rw [List.drop_eq_getElem_cons h, List.getD_eq_getElem?_getD, List.getElem?_eq_getElem h]; rfl
theorem Qeq (A0 : Option Addr) (c0 n : Nat) (l : List S235) (w : World) (hn : n = l.length) (h0 : Kd.C k235 w A0 l.length l) (hc : l.length ≤ c0) (hl : l.length ≤ 1000) :
    Calls Tryz.prog 170 #[.slice A0 n c0] w fun e w' => e = .returned (.bool (l.all wiB)) ∧ Below w.heap.size w w' := by
 subst hn
 have hu235 := Tryz.underlying235
 have hu236 := Tryz.underlying236
 have H0 := As0 h0
 have HB := As0 (Below.refl w.heap.size w)
 clear h0
 go_enter Tryz.func170, Tryz.ntmps170
 go_wp2
 go_loopg [7] (l.length + 1) (fun kq v7 w' => ∃ x : Int, v7 = .int .i64 x ∧ Qbf (0 ≤ x ∧ x ≤ (l.length : Int) ∧ (kq : Int) + x = (l.length : Int) + 1) ∧ Qbf (l.all wiB = (l.drop x.toNat).all wiB) ∧ Qbf (Below w.heap.size w w'))
 case atStart => exact ⟨0, rfl, ⟨by omega⟩, ⟨rfl⟩, ⟨BU HB.out⟩⟩
 case round =>
  clear HB
  obtain ⟨x, rfl, HI, HO, HB⟩ := hrel
  cases gk with
  | zero => exact absurd HI.out (by omega)
  | succ kq =>
   have hi0 : 0 ≤ x := HI.out.1
   by_cases hlt : x < (l.length : Int)
   ·have hd0 := decide_eq_true hlt
    obtain ⟨ad, e0, hx0, hx1, hx2⟩ := at_T235 H0.out x hi0 hlt
    have hd : l.drop x.toNat = Qer l x :: l.drop (x.toNat + 1) := Qcg l _ x.toNat (by omega)
    have HW := As0 (w64i (n := x + 1) (by omega) (by omega))
    have HN := As0 (show x.toNat + 1 = (x + 1).toNat by omega)
    have O2 := HO.out
    rw [hd, List.all_cons, HN.out] at O2
    generalize Qer l x = p at hx0 hx1 hx2 O2
    replace HO := As0 O2
    clear O2 hd
    cases e0
    replace hx0 := cl HB hx0
    replace hx1 := cl HB hx1
    replace hx2 := cl HB hx2
    have p0 := eq_true hi0
    have q0 := eq_true hlt
    obtain ⟨u, hu_⟩ : ∃ u, p.f1 = u := ⟨_, rfl⟩
    obtain ⟨z0, hz0⟩ : ∃ u, decide (p.f0 < 0) = u := ⟨_, rfl⟩
    obtain ⟨z1, hz1⟩ : ∃ u, decide (p.f2 ≤ p.f0) = u := ⟨_, rfl⟩
    rw [hu_] at hx1
    have HU := As0 hu_
    clear hu_
    have hv : wiB p = !(u && (z0 || z1)) := by unfold wiB; rw [HU.out, hz0, hz1]
    replace HO := As0 (HO.out.trans (by rw [hv]))
    clear hv HU
    all_goals (cases u <;> cases z0 <;> cases z1)
    all_goals go_wp2_with (first
     | ((with_reducible refine gD 4 ?_); refine bX ?_; intro gO hg w1 aC hb; have O := As0 aC; have GO := As0 (by rw [hg]; exact Qbi (BU HB.out) : w.heap.size ≤ gO); replace HB := sB HB hb; (obtain ⟨o0, o1, o2, -⟩ := cN3 O.out); clear hb aC hg)
     | ((with_reducible refine Qcb (.store 235 (.tmp 4) (.tmp 10)) rfl ?_); go_loud (refine Qae rfl rfl 235 _ _ rfl gO _ rfl rfl 235 #[.int .i64 0, .bool false, .int .i64 0] (bU O.out) (by kernel_rfl) rfl (by kernel_rfl) ?_); intro w6 hg ho hB; replace HB := As0 (hB _ _ GO.out (BU HB.out)); replace O := As0 hg; clear o0 o1 o2; (obtain ⟨o0, o1, o2, -⟩ := cN3 O.out); clear hg ho hB))
    all_goals first
     | (go_ret; exact ⟨by rw [HO.out]; rfl, BU HB.out⟩)
     | (go_roundg kq
        case measure => omega
        case rel => exact ⟨_, rfl, ⟨by have := HI.out; omega⟩, ⟨HO.out⟩, ⟨BU HB.out⟩⟩)
   ·have hd0 := decide_eq_false hlt
    go_wp2
    go_ret
    exact ⟨by rw [HO.out, List.drop_of_length_le (by omega)]; rfl, BU HB.out⟩
theorem blank_walk (A0 : Option Addr) (c0 n : Nat) (l : List S235) (w : World) (hn : n = l.length) (h0 : Kd.C k235 w A0 l.length l) (hc : l.length ≤ c0) (hl : l.length ≤ 1000) :
    Calls Tryz.prog 171 #[.slice A0 n c0] w fun e w' => e = .returned (.bool (l.all blB)) ∧ Below w.heap.size w w' := by
 subst hn
 have hu235 := Tryz.underlying235
 have hu236 := Tryz.underlying236
 have H0 := As0 h0
 have HB := As0 (Below.refl w.heap.size w)
 clear h0
 go_enter Tryz.func171, Tryz.ntmps171
 go_wp2
 go_loopg [7] (l.length + 1) (fun kq v7 w' => ∃ x : Int, v7 = .int .i64 x ∧ Qbf (0 ≤ x ∧ x ≤ (l.length : Int) ∧ (kq : Int) + x = (l.length : Int) + 1) ∧ Qbf (l.all blB = (l.drop x.toNat).all blB) ∧ Qbf (Below w.heap.size w w'))
 case atStart => exact ⟨0, rfl, ⟨by omega⟩, ⟨rfl⟩, ⟨BU HB.out⟩⟩
 case round =>
  clear HB
  obtain ⟨x, rfl, HI, HO, HB⟩ := hrel
  cases gk with
  | zero => exact absurd HI.out (by omega)
  | succ kq =>
   have hi0 : 0 ≤ x := HI.out.1
   by_cases hlt : x < (l.length : Int)
   ·have hd0 := decide_eq_true hlt
    obtain ⟨ad, e0, hx0, hx1, hx2⟩ := at_T235 H0.out x hi0 hlt
    have hd : l.drop x.toNat = Qer l x :: l.drop (x.toNat + 1) := Qcg l _ x.toNat (by omega)
    have HW := As0 (w64i (n := x + 1) (by omega) (by omega))
    have HN := As0 (show x.toNat + 1 = (x + 1).toNat by omega)
    have O2 := HO.out
    rw [hd, List.all_cons, HN.out] at O2
    generalize Qer l x = p at hx0 hx1 hx2 O2
    replace HO := As0 O2
    clear O2 hd
    cases e0
    replace hx0 := cl HB hx0
    replace hx1 := cl HB hx1
    replace hx2 := cl HB hx2
    have p0 := eq_true hi0
    have q0 := eq_true hlt
    obtain ⟨u, hu_⟩ : ∃ u, p.f1 = u := ⟨_, rfl⟩
    obtain ⟨z0, hz0⟩ : ∃ u, (p.f0 != 0) = u := ⟨_, rfl⟩
    obtain ⟨z1, hz1⟩ : ∃ u, decide (p.f2 ≤ p.f0) = u := ⟨_, rfl⟩
    rw [hu_] at hx1
    have HU := As0 hu_
    clear hu_
    have hv : blB p = (u || !z0) := by unfold blB; rw [HU.out, hz0]
    replace HO := As0 (HO.out.trans (by rw [hv]))
    clear hv HU
    all_goals (cases u <;> cases z0)
    all_goals go_wp2_with (first
     | ((with_reducible refine gD 4 ?_); refine bX ?_; intro gO hg w1 aC hb; have O := As0 aC; have GO := As0 (by rw [hg]; exact Qbi (BU HB.out) : w.heap.size ≤ gO); replace HB := sB HB hb; (obtain ⟨o0, o1, o2, -⟩ := cN3 O.out); clear hb aC hg)
     | ((with_reducible refine Qcb (.store 235 (.tmp 4) (.tmp 10)) rfl ?_); go_loud (refine Qae rfl rfl 235 _ _ rfl gO _ rfl rfl 235 #[.int .i64 0, .bool false, .int .i64 0] (bU O.out) (by kernel_rfl) rfl (by kernel_rfl) ?_); intro w6 hg ho hB; replace HB := As0 (hB _ _ GO.out (BU HB.out)); replace O := As0 hg; clear o0 o1 o2; (obtain ⟨o0, o1, o2, -⟩ := cN3 O.out); clear hg ho hB))
    all_goals first
     | (go_ret; exact ⟨by rw [HO.out]; rfl, BU HB.out⟩)
     | (go_roundg kq
        case measure => omega
        case rel => exact ⟨_, rfl, ⟨by have := HI.out; omega⟩, ⟨HO.out⟩, ⟨BU HB.out⟩⟩)
   ·have hd0 := decide_eq_false hlt
    go_wp2
    go_ret
    exact ⟨by rw [HO.out, List.drop_of_length_le (by omega)]; rfl, BU HB.out⟩
theorem opcode_Of.calls (a0 : Int) (r1 r2 r3 r4 r5 : Bool) (w : World) (h : opcode_Of.f a0 = some (r1, r2, r3, r4, r5)) :
 Calls Tryz.prog 129 #[.int .i64 a0] w fun e w' => e = .returned (.tuple #[.agg #[.bool r1, .bool r2, .bool r3, .bool r4], .bool r5]) ∧ Below w.heap.size w w' := by
 have hu196 := Tryz.underlying196
 have HB := As0 (Below.refl w.heap.size w)
 obtain ⟨kn, hk⟩ : ∃ b, Qba.f a0 = some b := by unfold Qba.f; split <;> exact ⟨_, rfl⟩
 obtain ⟨q0, h0⟩ : ∃ q, (a0 == 1) = q := ⟨_, rfl⟩
 obtain ⟨q1, h1⟩ : ∃ q, decide (a0 ≤ 4) = q := ⟨_, rfl⟩
 obtain ⟨q2, h2⟩ : ∃ q, decide (a0 ≤ 16) = q := ⟨_, rfl⟩
 obtain ⟨q3, h3⟩ : ∃ q, (a0 == 17) = q := ⟨_, rfl⟩
 have H0 : (bif kn then (bif q0 then (true, false, false, true, true) else bif q1 then (true, true, false, false, true) else bif q2 then (true, true, true, false, true) else (false, q3, false, false, true)) else (false, false, false, false, false)) = (r1, r2, r3, r4, r5) := by
  unfold opcode_Of.f at h; rw [hk] at h
  simp only [Option.bind_some] at h
  cases kn with
  | false => exact Option.some.inj h
  | true =>
   rw [if_pos rfl] at h
   by_cases e0 : a0 = 1
   ·rw [if_pos e0] at h; rw [← h0, beq_iff_eq.2 e0]; exact Option.some.inj h
   rw [if_neg e0] at h; rw [← h0, beq_eq_false_iff_ne.2 e0]
   by_cases e1 : a0 ≤ 4
   ·rw [if_pos e1] at h; rw [← h1, decide_eq_true e1]; exact Option.some.inj h
   rw [if_neg e1] at h; rw [← h1, decide_eq_false e1]
   by_cases e2 : a0 ≤ 16
   rotate_left
   ·rw [if_neg e2] at h; rw [← h2, decide_eq_false e2, ← h3]; exact Option.some.inj h
   rw [if_pos e2] at h; rw [← h2, decide_eq_true e2]; exact Option.some.inj h
 have H := As0 H0
 clear H0
 have HK := As0 hk
 clear h hk
 go_enter Tryz.func129, Tryz.ntmps129
 go_wp2_with (first
  | ((with_reducible refine gD 2 ?_); refine bX ?_; intro gO hg w1 aC hb; have O := As0 aC; have GO := As0 (by rw [hg]; exact Qbi (BU HB.out) : w.heap.size ≤ gO); replace HB := sB HB hb; clear hb aC hg)
  | (go_at_call 162; (with_reducible refine (Qba.calls a0 kn _ HK.out).mono ?_); rintro e w' ⟨rfl, ⟨nd, rfl⟩⟩)
  | ((with_reducible refine Qcb (.store 196 (.tmp 2) (.tmp 8)) rfl ?_); go_loud (refine Qae rfl rfl 196 _ _ rfl gO #[.bool false, .bool false, .bool false, .bool false] rfl rfl 196 #[.bool false, .bool false, .bool false, .bool false] (bU O.out) (by kernel_rfl) rfl (by kernel_rfl) ?_); intro w6 hg ho hB; replace HB := As0 (hB _ _ GO.out (BU HB.out)); replace O := As0 hg; clear hg ho hB)
  | ((with_reducible refine Qcb (.store 196 (.tmp 2) (.tmp 12)) rfl ?_); go_loud (refine Qae rfl rfl 196 _ _ rfl gO #[.bool true, .bool false, .bool false, .bool true] rfl rfl 196 #[.bool false, .bool false, .bool false, .bool false] (bU O.out) (by kernel_rfl) rfl (by kernel_rfl) ?_); intro w6 hg ho hB; replace HB := As0 (hB _ _ GO.out (BU HB.out)); replace O := As0 hg; clear hg ho hB)
  | ((with_reducible refine Qcb (.store 196 (.tmp 2) (.tmp 16)) rfl ?_); go_loud (refine Qae rfl rfl 196 _ _ rfl gO #[.bool true, .bool true, .bool false, .bool false] rfl rfl 196 #[.bool false, .bool false, .bool false, .bool false] (bU O.out) (by kernel_rfl) rfl (by kernel_rfl) ?_); intro w6 hg ho hB; replace HB := As0 (hB _ _ GO.out (BU HB.out)); replace O := As0 hg; clear hg ho hB)
  | ((with_reducible refine Qcb (.store 196 (.tmp 2) (.tmp 20)) rfl ?_); go_loud (refine Qae rfl rfl 196 _ _ rfl gO #[.bool true, .bool true, .bool true, .bool false] rfl rfl 196 #[.bool false, .bool false, .bool false, .bool false] (bU O.out) (by kernel_rfl) rfl (by kernel_rfl) ?_); intro w6 hg ho hB; replace HB := As0 (hB _ _ GO.out (BU HB.out)); replace O := As0 hg; clear hg ho hB)
  | ((with_reducible refine Qcb (.store 196 (.tmp 2) (.tmp 23)) rfl ?_); go_loud (refine Qae rfl rfl 196 _ _ rfl gO #[.bool false, .bool q3, .bool false, .bool false] rfl rfl 196 #[.bool false, .bool false, .bool false, .bool false] (bU O.out) (by kernel_rfl) rfl (by kernel_rfl) ?_); intro w6 hg ho hB; replace HB := As0 (hB _ _ GO.out (BU HB.out)); replace O := As0 hg; clear hg ho hB))
 all_goals (have H := H.out; cases kn <;> cases q0 <;> cases q1 <;> cases q2 <;> first | contradiction | (simp at H; obtain ⟨rfl, rfl, rfl, rfl, rfl⟩ := H; exact bodyPost_ret (Qcu rfl _ _ gO 196 _ (0, 0) _ rfl (bU O.out) Tryz.underlying196 rfl (by kernel_rfl)) rfl ⟨rfl, BU HB.out⟩))
theorem sinstr_walk (op d a b im m : Int) (t1 t2 t3 t4 t5 s0 wv bv zi : Bool) (r : Int) (w : World) (hof : opcode_Of.f op = some (t1, t2, t3, t4, t5)) (hs : opcode_Source.f op = some s0) (hw : [(⟨d, t1, m⟩ : S235), (⟨a, t2, m⟩ : S235), (⟨b, t3, m⟩ : S235)].all wiB = wv) (hb_ : [(⟨d, t1, m⟩ : S235), (⟨a, t2, m⟩ : S235), (⟨b, t3, m⟩ : S235)].all blB = bv) (hz : (im != 0) = zi)
    (h : (bif !s0 then (8 : Int) else bif !wv then 9 else bif !bv || (!t4 && zi) then 12 else 0) = r) :
    Calls Tryz.prog 148 #[.agg #[.int .i64 op, .int .i64 d, .int .i64 a, .int .i64 b, .int .i64 im], .int .i64 m] w fun e w' => e = .returned (.int .i64 r) ∧ Below w.heap.size w w' := by
 have hu41 := Tryz.underlying41
 have hu49 := Tryz.underlying49
 have hu196 := Tryz.underlying196
 have hu197 := Tryz.underlying197
 have hu235 := Tryz.underlying235
 have hu236 := Tryz.underlying236
 have HB := As0 (Below.refl w.heap.size w)
 have A1 := As0 hof
 have A2 := As0 hs
 have A3 := As0 hw
 have A4 := As0 hb_
 clear hof hs hw hb_
 go_enter Tryz.func148, Tryz.ntmps148
 go_wp2_with (first
  | ((with_reducible refine gD 2 ?_); refine bX ?_; intro gB hg w1 aC hb; have B := As0 aC; have GB := As0 (by rw [hg]; exact Qbi (BU HB.out) : w.heap.size ≤ gB); replace HB := sB HB hb; (obtain ⟨b0, b1, b2, b3, b4, -⟩ := cN5 B.out); clear hb aC hg)
  | (go_at_call 129; refine (opcode_Of.calls op t1 t2 t3 t4 t5 _ A1.out).mono ?_; rintro e w2 ⟨rfl, hb⟩; clear b0 b1 b2 b3 b4; replace B := kB B hb; replace HB := sB HB hb; (obtain ⟨b0, b1, b2, b3, b4, -⟩ := cN5 B.out); clear hb)
  | ((with_reducible refine gD 5 ?_); refine bX ?_; intro gO hg w1 aC hb; have O := As0 aC; have GO := As0 (by rw [hg]; exact Qbi (BU HB.out) : w.heap.size ≤ gO); have YBO := As0 (by have := Qbs (bU B.out); omega : gB ≠ gO); replace B := kB B hb; replace HB := sB HB hb; clear b0 b1 b2 b3 b4; (obtain ⟨b0, b1, b2, b3, b4, -⟩ := cN5 B.out); (obtain ⟨o0, o1, o2, o3, -⟩ := cN4 O.out); clear hb aC hg)
  | ((with_reducible refine Qcb (.store 196 (.tmp 5) (.tmp 12)) rfl ?_); go_loud (refine Qae rfl rfl 196 _ _ rfl gO #[.bool t1, .bool t2, .bool t3, .bool t4] rfl rfl 196 #[.bool false, .bool false, .bool false, .bool false] (bU O.out) (by kernel_rfl) rfl (by kernel_rfl) ?_); intro w6 hg ho hB; replace HB := As0 (hB _ _ GO.out (BU HB.out)); replace B := As0 ((ho _ YBO.out).trans (bU B.out)); replace O := As0 hg; clear b0 b1 b2 b3 b4; (obtain ⟨b0, b1, b2, b3, b4, -⟩ := cN5 B.out); clear o0 o1 o2 o3; (obtain ⟨o0, o1, o2, o3, -⟩ := cN4 O.out); clear hg ho hB)
  | ((with_reducible refine gD 32 ?_); refine Kd.R_lit k235 _ 235 ?hg (N := 32) ?hd (xs := ([(⟨d, t1, m⟩ : S235), (⟨a, t2, m⟩ : S235), (⟨b, t3, m⟩ : S235)] : List S235)) (inner := [.int .i64 d, .bool t1, .int .i64 m, .int .i64 a, .bool t2, .int .i64 m, .int .i64 b, .bool t3, .int .i64 m]) (ok := fun _ => True) (okp := fun _ => True) ?hr ?hp (fun _ hk => hk) trivial (Below.refl _ _) (Nat.le_refl _) (by simp) ?_; (case hd => rfl); (case hg => rfl); (case hr => first | (go_simp; done) | (go_simp; rfl)); (case hp => exact (Reps.c3 (Qdb _ _ _ (⟨d, t1, m⟩ : S235)) (Reps.c3 (Qdb _ _ _ (⟨a, t2, m⟩ : S235)) (Reps.c3 (Qdb _ _ _ (⟨b, t3, m⟩ : S235)) (Reps.none _ _))))); intro lv w52 ho hb hg_ hnew_; clear hg_ hnew_; (obtain ⟨lA, lc, rfl, lh, lC⟩ := Kd.R_reads ho); clear ho; replace B := kB B hb; replace O := kB O hb; replace HB := sB HB hb; have lK := As0 lC; clear b0 b1 b2 b3 b4; (obtain ⟨b0, b1, b2, b3, b4, -⟩ := cN5 B.out); clear o0 o1 o2 o3; (obtain ⟨o0, o1, o2, o3, -⟩ := cN4 O.out); clear hb)
  | (go_at_call 128; refine (opcode_Source.calls op s0 _ A2.out).mono ?_; rintro e w' ⟨rfl, ⟨nd, rfl⟩⟩)
  | (go_at_call 170; (with_reducible refine (Qeq lA lc _ [(⟨d, t1, m⟩ : S235), (⟨a, t2, m⟩ : S235), (⟨b, t3, m⟩ : S235)] _ ?hn ?hC ?hc ?hl).mono ?_); (case hn => rfl); (case hC => (repeat (first | exact lK.out | refine Kd.C_drewN ?_ _ | refine Kd.C_drew ?_ | refine Kd.C_alloc ?_ _))); (case hc => exact lh); (case hl => simp); rintro e w8 ⟨he, hb⟩; rw [A3.out] at he; subst he; replace B := kB B hb; replace O := kB O hb; (try replace lK := As0 (Kd.C_below (by repeat (first | exact lK.out | refine Kd.C_drewN ?_ _ | refine Kd.C_drew ?_)) hb)); replace HB := sB HB hb; clear b0 b1 b2 b3 b4; (obtain ⟨b0, b1, b2, b3, b4, -⟩ := cN5 B.out); clear o0 o1 o2 o3; (obtain ⟨o0, o1, o2, o3, -⟩ := cN4 O.out); clear hb)
  | (go_at_call 171; (with_reducible refine (blank_walk lA lc _ [(⟨d, t1, m⟩ : S235), (⟨a, t2, m⟩ : S235), (⟨b, t3, m⟩ : S235)] _ ?hn ?hC ?hc ?hl).mono ?_); (case hn => rfl); (case hC => (repeat (first | exact lK.out | refine Kd.C_drewN ?_ _ | refine Kd.C_drew ?_ | refine Kd.C_alloc ?_ _))); (case hc => exact lh); (case hl => simp); rintro e w8 ⟨he, hb⟩; rw [A4.out] at he; subst he; replace B := kB B hb; replace O := kB O hb; (try replace lK := As0 (Kd.C_below (by repeat (first | exact lK.out | refine Kd.C_drewN ?_ _ | refine Kd.C_drew ?_)) hb)); replace HB := sB HB hb; clear b0 b1 b2 b3 b4; (obtain ⟨b0, b1, b2, b3, b4, -⟩ := cN5 B.out); clear o0 o1 o2 o3; (obtain ⟨o0, o1, o2, o3, -⟩ := cN4 O.out); clear hb))
 all_goals go_ret
 all_goals exact ⟨by rw [← h]; simp_all, BU HB.out⟩
theorem sterm_walk (kd a tt el n m : Int) (p1 p2 u1 u2 u3 w1 w2 bv : Bool) (r : Int) (w : World) (h1 : decide (kd < 1) = p1) (h2 : decide (3 < kd) = p2) (hu1 : (kd != 1) = u1) (hu2 : (kd != 3) = u2) (hu3 : (kd == 2) = u3)
    (hw1 : [(⟨a, u1, n⟩ : S235)].all wiB = w1) (hw2 : [(⟨tt, u2, m⟩ : S235), (⟨el, u3, m⟩ : S235)].all wiB = w2) (hb_ : [(⟨a, u1, n⟩ : S235), (⟨tt, u2, m⟩ : S235), (⟨el, u3, m⟩ : S235)].all blB = bv) (h : (bif p1 || p2 then (16 : Int) else bif !w1 then 9 else bif !w2 then 11 else bif !bv then 12 else 0) = r) :
    Calls Tryz.prog 149 #[.agg #[.int .i64 kd, .int .i64 a, .int .i64 tt, .int .i64 el], .int .i64 n, .int .i64 m] w fun e w' => e = .returned (.int .i64 r) ∧ Below w.heap.size w w' := by
 have hv37 := Tryz.underlying37
 have hv49 := Tryz.underlying49
 have hv235 := Tryz.underlying235
 have hv236 := Tryz.underlying236
 have HB := As0 (Below.refl w.heap.size w)
 have A1 := As0 hw1
 have A2 := As0 hw2
 have A3 := As0 hb_
 clear hw1 hw2 hb_
 go_enter Tryz.func149, Tryz.ntmps149
 go_wp2_with (first
  | ((with_reducible refine gD 3 ?_); refine bX ?_; intro gB hg w1 aC hb; have B := As0 aC; have GB := As0 (by rw [hg]; exact Qbi (BU HB.out) : w.heap.size ≤ gB); replace HB := sB HB hb; (obtain ⟨b0, b1, b2, b3, -⟩ := cN4 B.out); clear hb aC hg)
  | ((with_reducible refine gD 7 ?_); refine bX ?_; intro gP hg w1 aC hb; have P := As0 aC; have GP := As0 (by rw [hg]; exact Qbi (BU HB.out) : w.heap.size ≤ gP); have YBP := As0 (by have := Qbs (bU B.out); omega : gB ≠ gP); replace B := kB B hb; replace HB := sB HB hb; clear b0 b1 b2 b3; (obtain ⟨b0, b1, b2, b3, -⟩ := cN4 B.out); (obtain ⟨p0, p1, p2, -⟩ := cN3 P.out); clear hb aC hg)
  | ((with_reducible refine Qcb (.store 235 (.tmp 7) (.tmp 16)) rfl ?_); go_loud (refine Qae rfl rfl 235 _ _ rfl gP #[.int .i64 a, .bool u1, .int .i64 n] rfl rfl 235 #[.int .i64 0, .bool false, .int .i64 0] (bU P.out) (by kernel_rfl) rfl (by kernel_rfl) ?_); intro w6 hg ho hB; replace HB := As0 (hB _ _ GP.out (BU HB.out)); replace B := As0 ((ho _ YBP.out).trans (bU B.out)); replace P := As0 hg; clear b0 b1 b2 b3; (obtain ⟨b0, b1, b2, b3, -⟩ := cN4 B.out); clear p0 p1 p2; (obtain ⟨p0, p1, p2, -⟩ := cN3 P.out); clear hg ho hB)
  | ((with_reducible refine gD 8 ?_); refine bX ?_; intro gQ hg w1 aC hb; have Q := As0 aC; have GQ := As0 (by rw [hg]; exact Qbi (BU HB.out) : w.heap.size ≤ gQ); have YBQ := As0 (by have := Qbs (bU B.out); omega : gB ≠ gQ); have YPQ := As0 (by have := Qbs (bU P.out); omega : gP ≠ gQ); replace B := kB B hb; replace P := kB P hb; replace HB := sB HB hb; clear b0 b1 b2 b3; (obtain ⟨b0, b1, b2, b3, -⟩ := cN4 B.out); clear p0 p1 p2; (obtain ⟨p0, p1, p2, -⟩ := cN3 P.out); (obtain ⟨q0, q1, q2, -⟩ := cN3 Q.out); clear hb aC hg)
  | ((with_reducible refine Qcb (.store 235 (.tmp 8) (.tmp 23)) rfl ?_); go_loud (refine Qae rfl rfl 235 _ _ rfl gQ #[.int .i64 tt, .bool u2, .int .i64 m] rfl rfl 235 #[.int .i64 0, .bool false, .int .i64 0] (bU Q.out) (by kernel_rfl) rfl (by kernel_rfl) ?_); intro w6 hg ho hB; replace HB := As0 (hB _ _ GQ.out (BU HB.out)); replace B := As0 ((ho _ YBQ.out).trans (bU B.out)); replace P := As0 ((ho _ YPQ.out).trans (bU P.out)); replace Q := As0 hg; clear b0 b1 b2 b3; (obtain ⟨b0, b1, b2, b3, -⟩ := cN4 B.out); clear p0 p1 p2; (obtain ⟨p0, p1, p2, -⟩ := cN3 P.out); clear q0 q1 q2; (obtain ⟨q0, q1, q2, -⟩ := cN3 Q.out); clear hg ho hB)
  | ((with_reducible refine gD 9 ?_); refine bX ?_; intro gO hg w1 aC hb; have O := As0 aC; have GO := As0 (by rw [hg]; exact Qbi (BU HB.out) : w.heap.size ≤ gO); have YBO := As0 (by have := Qbs (bU B.out); omega : gB ≠ gO); have YPO := As0 (by have := Qbs (bU P.out); omega : gP ≠ gO); have YQO := As0 (by have := Qbs (bU Q.out); omega : gQ ≠ gO); replace B := kB B hb; replace P := kB P hb; replace Q := kB Q hb; replace HB := sB HB hb; clear b0 b1 b2 b3; (obtain ⟨b0, b1, b2, b3, -⟩ := cN4 B.out); clear p0 p1 p2; (obtain ⟨p0, p1, p2, -⟩ := cN3 P.out); clear q0 q1 q2; (obtain ⟨q0, q1, q2, -⟩ := cN3 Q.out); (obtain ⟨o0, o1, o2, -⟩ := cN3 O.out); clear hb aC hg)
  | ((with_reducible refine Qcb (.store 235 (.tmp 9) (.tmp 30)) rfl ?_); go_loud (refine Qae rfl rfl 235 _ _ rfl gO #[.int .i64 el, .bool u3, .int .i64 m] rfl rfl 235 #[.int .i64 0, .bool false, .int .i64 0] (bU O.out) (by kernel_rfl) rfl (by kernel_rfl) ?_); intro w6 hg ho hB; replace HB := As0 (hB _ _ GO.out (BU HB.out)); replace B := As0 ((ho _ YBO.out).trans (bU B.out)); replace P := As0 ((ho _ YPO.out).trans (bU P.out)); replace Q := As0 ((ho _ YQO.out).trans (bU Q.out)); replace O := As0 hg; clear b0 b1 b2 b3; (obtain ⟨b0, b1, b2, b3, -⟩ := cN4 B.out); clear p0 p1 p2; (obtain ⟨p0, p1, p2, -⟩ := cN3 P.out); clear q0 q1 q2; (obtain ⟨q0, q1, q2, -⟩ := cN3 Q.out); clear o0 o1 o2; (obtain ⟨o0, o1, o2, -⟩ := cN3 O.out); clear hg ho hB)
  | ((with_reducible refine gD 42 ?_); refine Kd.R_lit k235 _ 235 ?hg (N := 42) ?hd (xs := ([(⟨a, u1, n⟩ : S235)] : List S235)) (inner := [.int .i64 a, .bool u1, .int .i64 n]) (ok := fun _ => True) (okp := fun _ => True) ?hr ?hp (fun _ hk => hk) trivial (Below.refl _ _) (Nat.le_refl _) (by simp) ?_; (case hd => rfl); (case hg => rfl); (case hr => first | (go_simp; done) | (go_simp; rfl)); (case hp => exact (Reps.c3 (Qdb _ _ _ (⟨a, u1, n⟩ : S235)) (Reps.none _ _))); intro iv w52 ho hb hg_ hnew_; clear hg_ hnew_; (obtain ⟨iA, ic, rfl, ih, iC⟩ := Kd.R_reads ho); clear ho; replace B := kB B hb; replace P := kB P hb; replace Q := kB Q hb; replace O := kB O hb; replace HB := sB HB hb; have iK := As0 iC; clear b0 b1 b2 b3; (obtain ⟨b0, b1, b2, b3, -⟩ := cN4 B.out); clear p0 p1 p2; (obtain ⟨p0, p1, p2, -⟩ := cN3 P.out); clear q0 q1 q2; (obtain ⟨q0, q1, q2, -⟩ := cN3 Q.out); clear o0 o1 o2; (obtain ⟨o0, o1, o2, -⟩ := cN3 O.out); clear hb)
  | (go_at_call 170; (with_reducible refine (Qeq iA ic _ [(⟨a, u1, n⟩ : S235)] _ ?hn ?hC ?hc ?hl).mono ?_); (case hn => rfl); (case hC => (repeat (first | exact iK.out | refine Kd.C_drewN ?_ _ | refine Kd.C_drew ?_ | refine Kd.C_alloc ?_ _))); (case hc => exact ih); (case hl => simp); rintro e w8 ⟨he, hb⟩; rw [A1.out] at he; subst he; replace B := kB B hb; replace P := kB P hb; replace Q := kB Q hb; replace O := kB O hb; (try replace iK := As0 (Kd.C_below (by repeat (first | exact iK.out | refine Kd.C_drewN ?_ _ | refine Kd.C_drew ?_)) hb)); replace HB := sB HB hb; clear b0 b1 b2 b3; (obtain ⟨b0, b1, b2, b3, -⟩ := cN4 B.out); clear p0 p1 p2; (obtain ⟨p0, p1, p2, -⟩ := cN3 P.out); clear q0 q1 q2; (obtain ⟨q0, q1, q2, -⟩ := cN3 Q.out); clear o0 o1 o2; (obtain ⟨o0, o1, o2, -⟩ := cN3 O.out); clear hb)
  | ((with_reducible refine gD 48 ?_); refine Kd.R_lit k235 _ 235 ?hg (N := 48) ?hd (xs := ([(⟨tt, u2, m⟩ : S235), (⟨el, u3, m⟩ : S235)] : List S235)) (inner := [.int .i64 tt, .bool u2, .int .i64 m, .int .i64 el, .bool u3, .int .i64 m]) (ok := fun _ => True) (okp := fun _ => True) ?hr ?hp (fun _ hk => hk) trivial (Below.refl _ _) (Nat.le_refl _) (by simp) ?_; (case hd => rfl); (case hg => rfl); (case hr => first | (go_simp; done) | (go_simp; rfl)); (case hp => exact (Reps.c3 (Qdb _ _ _ (⟨tt, u2, m⟩ : S235)) (Reps.c3 (Qdb _ _ _ (⟨el, u3, m⟩ : S235)) (Reps.none _ _)))); intro jv w52 ho hb hg_ hnew_; clear hg_ hnew_; (obtain ⟨jA, jc, rfl, jh, jC⟩ := Kd.R_reads ho); clear ho; replace B := kB B hb; replace P := kB P hb; replace Q := kB Q hb; replace O := kB O hb; replace HB := sB HB hb; have jK := As0 jC; clear b0 b1 b2 b3; (obtain ⟨b0, b1, b2, b3, -⟩ := cN4 B.out); clear p0 p1 p2; (obtain ⟨p0, p1, p2, -⟩ := cN3 P.out); clear q0 q1 q2; (obtain ⟨q0, q1, q2, -⟩ := cN3 Q.out); clear o0 o1 o2; (obtain ⟨o0, o1, o2, -⟩ := cN3 O.out); clear hb)
  | (go_at_call 170; (with_reducible refine (Qeq jA jc _ [(⟨tt, u2, m⟩ : S235), (⟨el, u3, m⟩ : S235)] _ ?hn ?hC ?hc ?hl).mono ?_); (case hn => rfl); (case hC => (repeat (first | exact jK.out | refine Kd.C_drewN ?_ _ | refine Kd.C_drew ?_ | refine Kd.C_alloc ?_ _))); (case hc => exact jh); (case hl => simp); rintro e w8 ⟨he, hb⟩; rw [A2.out] at he; subst he; replace B := kB B hb; replace P := kB P hb; replace Q := kB Q hb; replace O := kB O hb; (try replace jK := As0 (Kd.C_below (by repeat (first | exact jK.out | refine Kd.C_drewN ?_ _ | refine Kd.C_drew ?_)) hb)); replace HB := sB HB hb; clear b0 b1 b2 b3; (obtain ⟨b0, b1, b2, b3, -⟩ := cN4 B.out); clear p0 p1 p2; (obtain ⟨p0, p1, p2, -⟩ := cN3 P.out); clear q0 q1 q2; (obtain ⟨q0, q1, q2, -⟩ := cN3 Q.out); clear o0 o1 o2; (obtain ⟨o0, o1, o2, -⟩ := cN3 O.out); clear hb)
  | ((with_reducible refine gD 55 ?_); refine Kd.R_lit k235 _ 235 ?hg (N := 55) ?hd (xs := ([(⟨a, u1, n⟩ : S235), (⟨tt, u2, m⟩ : S235), (⟨el, u3, m⟩ : S235)] : List S235)) (inner := [.int .i64 a, .bool u1, .int .i64 n, .int .i64 tt, .bool u2, .int .i64 m, .int .i64 el, .bool u3, .int .i64 m]) (ok := fun _ => True) (okp := fun _ => True) ?hr ?hp (fun _ hk => hk) trivial (Below.refl _ _) (Nat.le_refl _) (by simp) ?_; (case hd => rfl); (case hg => rfl); (case hr => first | (go_simp; done) | (go_simp; rfl)); (case hp => exact (Reps.c3 (Qdb _ _ _ (⟨a, u1, n⟩ : S235)) (Reps.c3 (Qdb _ _ _ (⟨tt, u2, m⟩ : S235)) (Reps.c3 (Qdb _ _ _ (⟨el, u3, m⟩ : S235)) (Reps.none _ _))))); intro lv w52 ho hb hg_ hnew_; clear hg_ hnew_; (obtain ⟨lA, lc, rfl, lh, lC⟩ := Kd.R_reads ho); clear ho; replace B := kB B hb; replace P := kB P hb; replace Q := kB Q hb; replace O := kB O hb; replace HB := sB HB hb; have lK := As0 lC; clear b0 b1 b2 b3; (obtain ⟨b0, b1, b2, b3, -⟩ := cN4 B.out); clear p0 p1 p2; (obtain ⟨p0, p1, p2, -⟩ := cN3 P.out); clear q0 q1 q2; (obtain ⟨q0, q1, q2, -⟩ := cN3 Q.out); clear o0 o1 o2; (obtain ⟨o0, o1, o2, -⟩ := cN3 O.out); clear hb)
  | (go_at_call 171; (with_reducible refine (blank_walk lA lc _ [(⟨a, u1, n⟩ : S235), (⟨tt, u2, m⟩ : S235), (⟨el, u3, m⟩ : S235)] _ ?hn ?hC ?hc ?hl).mono ?_); (case hn => rfl); (case hC => (repeat (first | exact lK.out | refine Kd.C_drewN ?_ _ | refine Kd.C_drew ?_ | refine Kd.C_alloc ?_ _))); (case hc => exact lh); (case hl => simp); rintro e w8 ⟨he, hb⟩; rw [A3.out] at he; subst he; replace B := kB B hb; replace P := kB P hb; replace Q := kB Q hb; replace O := kB O hb; (try replace lK := As0 (Kd.C_below (by repeat (first | exact lK.out | refine Kd.C_drewN ?_ _ | refine Kd.C_drew ?_)) hb)); replace HB := sB HB hb; clear b0 b1 b2 b3; (obtain ⟨b0, b1, b2, b3, -⟩ := cN4 B.out); clear p0 p1 p2; (obtain ⟨p0, p1, p2, -⟩ := cN3 P.out); clear q0 q1 q2; (obtain ⟨q0, q1, q2, -⟩ := cN3 Q.out); clear o0 o1 o2; (obtain ⟨o0, o1, o2, -⟩ := cN3 O.out); clear hb))
 all_goals go_ret
 all_goals exact ⟨by rw [← h]; simp_all, BU HB.out⟩
theorem out_in (x m : Int) : (decide (x < 0) || decide (m ≤ x)) = !decide (0 ≤ x ∧ x < m) := by
 by_cases h1 : x < 0
 ·rw [decide_eq_true h1, decide_eq_false (show ¬ (0 ≤ x ∧ x < m) by omega)]; rfl
 ·by_cases h2 : m ≤ x
  ·rw [decide_eq_true h2, decide_eq_false (show ¬ (0 ≤ x ∧ x < m) by omega), Bool.or_true]; rfl
  ·rw [decide_eq_false h1, decide_eq_false h2, decide_eq_true (show 0 ≤ x ∧ x < m by omega)]; rfl
theorem b6 : ∀ D A B x y z : Bool, (!(!(D && x) && (!(A && y) && (!(B && z) && true)))) = (D && x || A && y || B && z) := by decide
theorem b8 : ∀ D A B x y z p q : Bool, (!((D || !x) && ((A || !y) && ((B || !z) && true))) || (!p && q)) = (!D && x || !A && y || !B && z || !p && q) := by decide
theorem src_val (a : Int) : opcode_Source.f a = some (!(decide (a < 1) || decide (a > 17))) := by
 unfold opcode_Source.f Qba.f
 by_cases h1 : a ≥ 1
 ·rw [if_pos h1]
  simp only [Option.bind_some]
  rw [decide_eq_false (show ¬ a < 1 by omega)]
  by_cases h2 : a ≤ 18
  ·rw [if_pos (decide_eq_true h2)]
   by_cases h3 : a = 18
   ·rw [decide_eq_true (show a > 17 by omega), bne_eq_false_iff_eq.2 h3]; rfl
   ·rw [decide_eq_false (show ¬ a > 17 by omega), bne_iff_ne.2 h3]; rfl
  ·rw [decide_eq_false h2, decide_eq_true (show a > 17 by omega)]; rfl
 ·rw [if_neg h1, decide_eq_true (show a < 1 by omega)]; rfl
theorem Of_val {a : Int} (h1 : 1 ≤ a) (h2 : a ≤ 17) : opcode_Of.f a = some (decide (1 ≤ a ∧ a ≤ 16), decide (2 ≤ a ∧ a ≤ 17), decide (5 ≤ a ∧ a ≤ 16), a == 1, true) := by
 unfold opcode_Of.f Qba.f
 rw [if_pos (show a ≥ 1 from h1)]
 simp only [Option.bind_some]
 rw [if_pos (decide_eq_true (show a ≤ 18 by omega))]
 by_cases e1 : a = 1
 ·subst e1; rfl
 ·rw [if_neg e1, beq_eq_false_iff_ne.2 e1]
  by_cases e2 : a ≤ 4
  ·rw [if_pos e2, decide_eq_true (show 1 ≤ a ∧ a ≤ 16 by omega), decide_eq_true (show 2 ≤ a ∧ a ≤ 17 by omega), decide_eq_false (show ¬ (5 ≤ a ∧ a ≤ 16) by omega)]
  ·rw [if_neg e2]
   by_cases e3 : a ≤ 16
   ·rw [if_pos e3, decide_eq_true (show 1 ≤ a ∧ a ≤ 16 by omega), decide_eq_true (show 2 ≤ a ∧ a ≤ 17 by omega), decide_eq_true (show 5 ≤ a ∧ a ≤ 16 by omega)]
   ·rw [if_neg e3, decide_eq_false (show ¬ (1 ≤ a ∧ a ≤ 16) by omega), decide_eq_true (show 2 ≤ a ∧ a ≤ 17 by omega), decide_eq_false (show ¬ (5 ≤ a ∧ a ≤ 16) by omega), beq_iff_eq.2 (show a = 17 by omega)]
theorem ins_eq (op d a b im m : Int) {t1 t2 t3 t4 t5 s0 : Bool} (hof : opcode_Of.f op = some (t1, t2, t3, t4, t5)) (hs : opcode_Source.f op = some s0) :
    (bif !s0 then (8 : Int) else bif ![(⟨d, t1, m⟩ : S235), (⟨a, t2, m⟩ : S235), (⟨b, t3, m⟩ : S235)].all wiB then 9 else bif ![(⟨d, t1, m⟩ : S235), (⟨a, t2, m⟩ : S235), (⟨b, t3, m⟩ : S235)].all blB || (!t4 && (im != 0)) then 12 else 0) = insR op d a b im m := by
 rw [src_val] at hs
 obtain rfl := Option.some.inj hs
 unfold insR
 rw [Bool.not_not]
 cases hq : (decide (op < 1) || decide (op > 17)) with
 | true => rfl
 | false =>
  obtain ⟨o1, o2⟩ := Bool.or_eq_false_iff.1 hq
  have o3 := of_decide_eq_false o1
  have o4 := of_decide_eq_false o2
  rw [Of_val (by omega) (by omega)] at hof
  simp only [Option.some.injEq, Prod.mk.injEq] at hof
  obtain ⟨rfl, rfl, rfl, rfl, rfl⟩ := hof
  simp only [List.all_cons, List.all_nil, wiB, blB, out_in]
  rw [b6, b8]
  rfl
theorem trm_eq (kd a tt el n m : Int) : (bif decide (kd < 1) || decide (3 < kd) then (16 : Int) else bif ![(⟨a, kd != 1, n⟩ : S235)].all wiB then 9 else bif ![(⟨tt, kd != 3, m⟩ : S235), (⟨el, kd == 2, m⟩ : S235)].all wiB then 11 else bif ![(⟨a, kd != 1, n⟩ : S235), (⟨tt, kd != 3, m⟩ : S235), (⟨el, kd == 2, m⟩ : S235)].all blB then 12 else 0) = trmR kd a tt el n m := by
 unfold trmR
 simp only [List.all_cons, List.all_nil, wiB, blB, out_in]
 by_cases k1 : kd = 1
 ·subst k1; simp
 ·by_cases k2 : kd = 2
  ·subst k2; simp
  ·by_cases k3 : kd = 3
   ·subst k3; simp
   ·rw [beq_eq_false_iff_ne.2 k1, beq_eq_false_iff_ne.2 k2, beq_eq_false_iff_ne.2 k3]
    have : (decide (kd < 1) || decide (3 < kd)) = true := by simp; omega
    rw [this]; rfl
def source_Instr.f (k : Nat) (a0_0 a0_1 a0_2 a0_3 a0_4 a1 : Int) : Option Int := some (insR a0_0 a0_1 a0_2 a0_3 a0_4 a1)
theorem source_Instr.calls (k : Nat) (a0_0 a0_1 a0_2 a0_3 a0_4 a1 r : Int) (w : World) (h : source_Instr.f k a0_0 a0_1 a0_2 a0_3 a0_4 a1 = some r) :
    Calls Tryz.prog 148 #[.agg #[.int .i64 a0_0, .int .i64 a0_1, .int .i64 a0_2, .int .i64 a0_3, .int .i64 a0_4], .int .i64 a1] w fun e w' => e = .returned (.int .i64 r) ∧ Below w.heap.size w w' := by
 obtain ⟨⟨t1, t2, t3, t4, t5⟩, ho⟩ : ∃ t, opcode_Of.f a0_0 = some t := by
  unfold opcode_Of.f Qba.f
  by_cases h1 : a0_0 ≥ 1
  rotate_left
  ·rw [if_neg h1]; exact ⟨_, rfl⟩
  rw [if_pos h1]; simp only [Option.bind_some]; repeat' split
  all_goals exact ⟨_, rfl⟩
 exact sinstr_walk a0_0 a0_1 a0_2 a0_3 a0_4 a1 t1 t2 t3 t4 t5 _ _ _ _ r w ho (src_val _) rfl rfl rfl ((ins_eq _ _ _ _ _ _ ho (src_val _)).trans (Option.some.inj h))
def source_Term.f (k : Nat) (a0_0 a0_1 a0_2 a0_3 a1 a2 : Int) : Option Int := some (trmR a0_0 a0_1 a0_2 a0_3 a1 a2)
theorem source_Term.calls (k : Nat) (a0_0 a0_1 a0_2 a0_3 a1 a2 r : Int) (w : World) (h : source_Term.f k a0_0 a0_1 a0_2 a0_3 a1 a2 = some r) :
    Calls Tryz.prog 149 #[.agg #[.int .i64 a0_0, .int .i64 a0_1, .int .i64 a0_2, .int .i64 a0_3], .int .i64 a1, .int .i64 a2] w fun e w' => e = .returned (.int .i64 r) ∧ Below w.heap.size w w' :=
 sterm_walk a0_0 a0_1 a0_2 a0_3 a1 a2 _ _ _ _ _ _ _ _ r w rfl rfl rfl rfl rfl rfl rfl rfl ((trm_eq _ _ _ _ _ _).trans (Option.some.inj h))
def source_block.l0 : Nat → Int → Int → List (S41) → Int → Int → List (S41) → Int → Int → Int → Int → Option (Int)
 | 0, _, _, _, _, _, _, _, _, _, _ => none
 | k + 1, x1, x2, fL, jU, x13, x152000, x152001, x152002, x152003, x152004 => if x13 < jU then (if 0 ≤ x13 then (if x13 < (fL.length : Int) then ((source_Instr.f k ((Qam fL x13).f0) ((Qam fL x13).f1) ((Qam fL x13).f2) ((Qam fL x13).f3) ((Qam fL x13).f4) x1).bind fun t155 => (if t155 = 0 then (source_block.l0 k x1 x2 fL jU (wrap64 (x13 + 1)) x152000 x152001 x152002 x152003 x152004) else (some t155))) else (none)) else (none)) else ((source_Term.f k x152001 x152002 x152003 x152004 x1 x2).bind fun t152 => (some t152))
def source_block.f (k : Nat) (l0_0 : List (S41)) (a0_1 a0_2 a0_3 a0_4 a1 a2 : Int) : Option (Int) := source_block.l0 k a1 a2 l0_0 (l0_0.length : Int) 0 l0_0 a0_1 a0_2 a0_3 a0_4
theorem source_block.calls (k : Nat) (A0_0 : Option Addr) (c0_0 : Nat) (l0_0 : List (S41)) (a0_1 a0_2 a0_3 a0_4 a1 a2 r : Int) (w : World) (hr0_0 : Kd.C k41 w A0_0 l0_0.length l0_0) (hc0_0 : l0_0.length ≤ c0_0) (h : source_block.f k l0_0 a0_1 a0_2 a0_3 a0_4 a1 a2 = some r) :
 Calls Tryz.prog 104 #[.agg #[.slice A0_0 l0_0.length c0_0, .int .i64 a0_1, .int .i64 a0_2, .int .i64 a0_3, .int .i64 a0_4], .int .i64 a1, .int .i64 a2] w fun e w' => e = .returned (.int .i64 r) ∧ Below w.heap.size w w' := by
 have hu39 := Tryz.underlying39
 have hu41 := Tryz.underlying41
 have hu37 := Tryz.underlying37
 have R0_0 := As0 hr0_0
 have C0_0 := As0 hc0_0
 clear hr0_0 hc0_0
 have HB := As0 (Below.refl w.heap.size w)
 have H : (source_block.l0 k a1 a2 l0_0 (l0_0.length : Int) 0 l0_0 a0_1 a0_2 a0_3 a0_4) = some r := h
 clear h
 have H' := As0 H
 clear H
 go_enter Tryz.func104, Tryz.ntmps104
 go_wp2_with (first | ((with_reducible refine gD 3 ?_); refine bY HB.out ?_; intro gb151 w4 hg hb hU GW151 HB; clear hb hg; have q5_ := cN5 hU.out))
 go_loopg [13] k (fun kq v13 w' => ∃ (aK : Int), v13 = .int .i64 aK ∧ Qbf (source_block.l0 kq a1 a2 l0_0 (l0_0.length : Int) aK l0_0 a0_1 a0_2 a0_3 a0_4 = some r) ∧ Qbf (kq ≤ k) ∧ Qbf (w'.heap[gb151]? = some (.cells #[(.slice A0_0 l0_0.length c0_0), .int .i64 a0_1, .int .i64 a0_2, .int .i64 a0_3, .int .i64 a0_4] 39 (0, 0))) ∧ Qbf (Below w.heap.size w w'))
 case atStart => exact ⟨(0), eR, H', ⟨Nat.le_refl _⟩, ⟨bU hU.out⟩, ⟨BU HB.out⟩⟩
 case round =>
  clear H'
  obtain ⟨aK, rfl, HA, HK1, hU, HB⟩ := hrel
  cases gk with
  | zero => exact absurd HA.out (by simp [source_block.l0])
  | succ k1 =>
   have H := HA.out
   clear HA
   simp only [source_block.l0] at H
   by_cases c6 : aK < (l0_0.length : Int)
   rotate_left
   ·rw [if_neg c6] at H
    have c6b0 := decide_eq_false c6
    clear c6
    replace H := Option.bind_eq_some_iff.mp H
    obtain ⟨t152, A190, H⟩ := H
    have A19 := As0 A190
    clear A190
    obtain rfl := Option.some.inj H
    have q20_ := cN5 hU.out
    go_wp2_with (first | ((with_reducible refine Qbk (f := 149) rfl ?_); refine gL (some 28) Tryz.func149 #[.agg #[.int .i64 a0_1, .int .i64 a0_2, .int .i64 a0_3, .int .i64 a0_4], .int .i64 a1, .int .i64 a2] ?_; (with_reducible refine (source_Term.calls k1 a0_1 a0_2 a0_3 a0_4 a1 a2 t152 _ A19.out).mono ?_); rintro e w21 ⟨rfl, hb⟩; refine ⟨_, rfl, ?_⟩; replace hU := kB hU hb; replace HB := sB HB hb; (try clear hb)))
    go_ret
    exact ⟨oR, BU HB.out⟩
   rw [if_pos c6] at H
   have c6b0 := decide_eq_true c6
   clear c6
   by_cases c7 : 0 ≤ aK
   rotate_left
   ·rw [if_neg c7] at H
    exact absurd H (by simp)
   rw [if_pos c7] at H
   have c7b0 := decide_eq_true c7
   clear c7
   by_cases c8 : aK < (l0_0.length : Int)
   rotate_left
   ·rw [if_neg c8] at H
    exact absurd H (by simp)
   rw [if_pos c8] at H
   have c8b0 := decide_eq_true c8
   clear c8
   replace H := Option.bind_eq_some_iff.mp H
   obtain ⟨t155, A90, H⟩ := H
   have A9 := As0 A90
   clear A90
   by_cases c10 : t155 = 0
   rotate_left
   ·rw [if_neg c10] at H
    have c10b0 : (t155 == 0) = false := beq_eq_false_iff_ne.mpr c10
    have c10b1 : (t155 != 0) = true := bne_iff_ne.mpr c10
    obtain rfl := Option.some.inj H
    have p153 : 0 ≤ (aK : Int) := qR
    have q153 : aK < (l0_0.length : Int) := qR
    obtain ⟨ad153, e153, lU, lT, lS, lR, lQ⟩ := at_T41 R0_0.out aK p153 q153
    cases e153
    replace lU := cl HB lU
    replace lT := cl HB lT
    replace lS := cl HB lS
    replace lR := cl HB lR
    replace lQ := cl HB lQ
    replace p153 := eq_true p153
    replace q153 := eq_true q153
    go_wp2_with (first | ((with_reducible refine gD 8 ?_); refine bY HB.out ?_; intro gb154 w15 hg hb K154 GW154 HB; have N151_154 := pL hg hU; have N154_151 := pR hg hU; replace hU := kB hU hb; clear hb hg; have q17_ := cN5 K154.out) | ((with_reducible refine Qbk (f := 148) rfl ?_); refine gL (some 19) Tryz.func148 #[.agg #[.int .i64 ((Qam l0_0 aK).f0), .int .i64 ((Qam l0_0 aK).f1), .int .i64 ((Qam l0_0 aK).f2), .int .i64 ((Qam l0_0 aK).f3), .int .i64 ((Qam l0_0 aK).f4)], .int .i64 a1] ?_; (with_reducible refine (source_Instr.calls k1 ((Qam l0_0 aK).f0) ((Qam l0_0 aK).f1) ((Qam l0_0 aK).f2) ((Qam l0_0 aK).f3) ((Qam l0_0 aK).f4) a1 t155 _ A9.out).mono ?_); rintro e w18 ⟨rfl, hb⟩; refine ⟨_, rfl, ?_⟩; replace hU := kF hU hb; replace K154 := kP (.cells #[.int .i64 ((Qam l0_0 aK).f0), .int .i64 ((Qam l0_0 aK).f1), .int .i64 ((Qam l0_0 aK).f2), .int .i64 ((Qam l0_0 aK).f3), .int .i64 ((Qam l0_0 aK).f4)] 41 (0, 0)) K154 hb (e := by first | rfl | (rw [← Nbq8.out]; rfl)); replace HB := sB HB hb; (try clear hb)))
    go_ret
    exact ⟨oR, BU HB.out⟩
   rw [if_pos c10] at H
   have c10b0 : (t155 == 0) = true := beq_iff_eq.mpr c10
   have c10b1 : (t155 != 0) = false := bne_eq_false_iff_eq.mpr c10
   clear c10
   have H' := As0 H
   clear H
   have p153 : 0 ≤ (aK : Int) := qR
   have q153 : aK < (l0_0.length : Int) := qR
   obtain ⟨ad153, e153, lU, lT, lS, lR, lQ⟩ := at_T41 R0_0.out aK p153 q153
   cases e153
   replace lU := cl HB lU
   replace lT := cl HB lT
   replace lS := cl HB lS
   replace lR := cl HB lR
   replace lQ := cl HB lQ
   replace p153 := eq_true p153
   replace q153 := eq_true q153
   go_wp2_with (first | ((with_reducible refine gD 8 ?_); refine bY HB.out ?_; intro gb154 w11 hg hb K154 GW154 HB; have N151_154 := pL hg hU; have N154_151 := pR hg hU; replace hU := kB hU hb; clear hb hg; have q13_ := cN5 K154.out) | ((with_reducible refine Qbk (f := 148) rfl ?_); refine gL (some 19) Tryz.func148 #[.agg #[.int .i64 ((Qam l0_0 aK).f0), .int .i64 ((Qam l0_0 aK).f1), .int .i64 ((Qam l0_0 aK).f2), .int .i64 ((Qam l0_0 aK).f3), .int .i64 ((Qam l0_0 aK).f4)], .int .i64 a1] ?_; (with_reducible refine (source_Instr.calls k1 ((Qam l0_0 aK).f0) ((Qam l0_0 aK).f1) ((Qam l0_0 aK).f2) ((Qam l0_0 aK).f3) ((Qam l0_0 aK).f4) a1 t155 _ A9.out).mono ?_); rintro e w14 ⟨rfl, hb⟩; refine ⟨_, rfl, ?_⟩; replace hU := kF hU hb; replace K154 := kP (.cells #[.int .i64 ((Qam l0_0 aK).f0), .int .i64 ((Qam l0_0 aK).f1), .int .i64 ((Qam l0_0 aK).f2), .int .i64 ((Qam l0_0 aK).f3), .int .i64 ((Qam l0_0 aK).f4)] 41 (0, 0)) K154 hb (e := by first | rfl | (rw [← Nbq8.out]; rfl)); replace HB := sB HB hb; (try clear hb)))
   go_roundg k1
   case measure => have := HK1.out; omega
   case rel => exact ⟨(wrap64 (aK + 1)), eR, H', ⟨by have := HK1.out; omega⟩, ⟨bU hU.out⟩, ⟨BU HB.out⟩⟩
def source_Code.l0 : Nat → Int → List (S39) → Int → Int → Option (Int)
 | 0, _, _, _, _ => none
 | k + 1, x3, x7, x8, x9 => if x9 < x8 then (if 0 ≤ x9 then (if x9 < (x7.length : Int) then (source_Code.l0 k (wrap64 (x3 + (((Qag x7 x9).f0).length : Int))) x7 x8 (wrap64 (x9 + 1))) else (none)) else (none)) else (some x3)
def source_Code.f (k : Nat) (a0_0 a0_1 : Int) (l0_2 : List (S39)) : Option (Int) := source_Code.l0 k 0 l0_2 (l0_2.length : Int) 0
theorem source_Code.calls (k : Nat) (a0_0 a0_1 : Int) (A0_2 : Option Addr) (c0_2 : Nat) (l0_2 : List (S39)) (r : Int) (w : World) (hr0_2 : Kd.C k39 w A0_2 l0_2.length l0_2) (hc0_2 : l0_2.length ≤ c0_2) (h : source_Code.f k a0_0 a0_1 l0_2 = some r) :
 Calls Tryz.prog 103 #[.agg #[.int .i64 a0_0, .int .i64 a0_1, .slice A0_2 l0_2.length c0_2]] w fun e w' => e = .returned (.int .i64 r) ∧ Below w.heap.size w w' := by
 have hu24 := Tryz.underlying24
 have hu39 := Tryz.underlying39
 have R0_2 := As0 hr0_2
 have C0_2 := As0 hc0_2
 clear hr0_2 hc0_2
 have HB := As0 (Below.refl w.heap.size w)
 have H : (source_Code.l0 k 0 l0_2 (l0_2.length : Int) 0) = some r := h
 clear h
 have H' := As0 H
 clear H
 go_enter Tryz.func103, Tryz.ntmps103
 go_wp2_with (first | ((with_reducible refine gD 1 ?_); refine bY HB.out ?_; intro gb112 w2 hg hb K112 GW112 HB; clear hb hg; have q3_ := cN3 K112.out))
 go_loopg [3, 9] k (fun kq v3 v9 w' => ∃ (cI : Int) (cL : Int), v3 = .int .i64 cI ∧ v9 = .int .i64 cL ∧ Qbf (source_Code.l0 kq cI l0_2 (l0_2.length : Int) cL = some r) ∧ Qbf (kq ≤ k) ∧ Qbf (w'.heap[gb112]? = some (.cells #[.int .i64 a0_0, .int .i64 a0_1, (.slice A0_2 l0_2.length c0_2)] 24 (0, 0))) ∧ Qbf (Below w.heap.size w w'))
 case atStart => exact ⟨(0), (0), eR, eR, H', ⟨Nat.le_refl _⟩, ⟨bU K112.out⟩, ⟨BU HB.out⟩⟩
 case round =>
  clear H'
  obtain ⟨cI, cL, rfl, rfl, HA, HK1, K112, HB⟩ := hrel
  cases gk with
  | zero => exact absurd HA.out (by simp [source_Code.l0])
  | succ k1 =>
   have H := HA.out
   clear HA
   simp only [source_Code.l0] at H
   by_cases c4 : cL < (l0_2.length : Int)
   rotate_left
   ·rw [if_neg c4] at H
    have c4b0 := decide_eq_false c4
    clear c4
    obtain rfl := Option.some.inj H
    go_wp2
    go_ret
    exact ⟨oR, BU HB.out⟩
   rw [if_pos c4] at H
   have c4b0 := decide_eq_true c4
   clear c4
   by_cases c5 : 0 ≤ cL
   rotate_left
   ·rw [if_neg c5] at H
    exact absurd H (by simp)
   rw [if_pos c5] at H
   have c5b0 := decide_eq_true c5
   clear c5
   by_cases c6 : cL < (l0_2.length : Int)
   rotate_left
   ·rw [if_neg c6] at H
    exact absurd H (by simp)
   rw [if_pos c6] at H
   have c6b0 := decide_eq_true c6
   clear c6
   have H' := As0 H
   clear H
   have p113 : 0 ≤ (cL : Int) := qR
   have q113 : cL < (l0_2.length : Int) := qR
   obtain ⟨ad113, A113_0, c113_0, e113, hx113_0, hx113_1, hx113_2, hx113_3, hx113_4, hl113_0, hi113_0⟩ := Qed R0_2.out cL p113 q113
   cases e113
   replace hx113_0 := cl HB hx113_0
   replace hx113_1 := cl HB hx113_1
   replace hx113_2 := cl HB hx113_2
   replace hx113_3 := cl HB hx113_3
   replace hx113_4 := cl HB hx113_4
   have R113_0 := As0 hi113_0
   have C113_0 := As0 hl113_0
   clear hi113_0 hl113_0
   replace p113 := eq_true p113
   replace q113 := eq_true q113
   go_wp2_with (first | ((with_reducible refine gD 5 ?_); refine bY HB.out ?_; intro gb114 w7 hg hb K114 GW114 HB; have N112_114 := pL hg K112; have N114_112 := pR hg K112; replace K112 := kB K112 hb; clear hb hg; have q9_ := cN5 K114.out))
   go_roundg k1
   case measure => have := HK1.out; omega
   case rel => exact ⟨(wrap64 (cI + (((Qag l0_2 cL).f0).length : Int))), (wrap64 (cL + 1)), eR, eR, H', ⟨by have := HK1.out; omega⟩, ⟨kV K112⟩, ⟨BU HB.out⟩⟩
def source_Successors.f (a0_0 a0_1 a0_2 a0_3 : Int) : Option (List Int) := if a0_0 = 1 then (some (([a0_2] : List Int))) else (if a0_0 = 2 then (some (([a0_2, a0_3] : List Int))) else (some ([] : List Int)))
theorem source_Successors.calls (a0_0 a0_1 a0_2 a0_3 : Int) (r : List Int) (w : World) (h : source_Successors.f a0_0 a0_1 a0_2 a0_3 = some r) :
 Calls Tryz.prog 34 #[.agg #[.int .i64 a0_0, .int .i64 a0_1, .int .i64 a0_2, .int .i64 a0_3]] w fun e w' => ∃ v0_ : Value, e = .returned (v0_) ∧ Kd.R (Kd.int .i64) 3 w' w.heap.size (fun _ => True) v0_ r ∧ Below w.heap.size w w' := by
 have hu37 := Tryz.underlying37
 have HB := As0 (Below.refl w.heap.size w)
 have H : (if a0_0 = 1 then (some (([a0_2] : List Int))) else (if a0_0 = 2 then (some (([a0_2, a0_3] : List Int))) else (some ([] : List Int)))) = some r := h
 clear h
 by_cases c2 : a0_0 = 1
 ·rw [if_pos c2] at H
  have c2b0 : (a0_0 == 1) = true := beq_iff_eq.mpr c2
  have c2b1 : (a0_0 != 1) = false := bne_eq_false_iff_eq.mpr c2
  clear c2
  obtain ⟨y223, hy223⟩ : ∃ y_ : List Int, y_ = (([a0_2] : List Int)) := ⟨_, rfl⟩
  replace H : (some y223) = some r := by first | (rw [hy223]; exact H) | exact H
  have Ny223 := As0 hy223
  clear hy223
  obtain rfl := Option.some.inj H
  go_enter Tryz.func34, Tryz.ntmps34
  go_wp2_with (first | ((with_reducible refine gD 1 ?_); refine bY HB.out ?_; intro gb222 w3 hg hb K222 GW222 HB; clear hb hg; have q4_ := cN4 K222.out) | ((with_reducible refine gD 9 ?_); refine Kd.R_lit (Kd.int .i64) _ 3 ?hg (N := 9) ?hd (xs := ([a0_2] : List Int)) (inner := [.int .i64 a0_2]) (ok := fun _ => True) (okp := fun _ => True) ?hr ?hp (fun _ hk => hk) trivial (Below.refl _ _) (Nat.le_refl _) (by simp) ?_; (case hd => rfl); (case hg => rfl); (case hr => first | (go_simp; done) | (go_simp; rfl)); (case hp => exact (Reps.one (show Kd.M (Kd.int .i64) _ _ _ a0_2 [.int .i64 a0_2] from rfl) (Reps.none _ _))); intro v224 w5 ho6 hb hg_ hnew_; clear hg_ hnew_; (first | rw [← Ny223.out] at ho6 | (simp only [Int.reduceToNat] at ho6; rw [← Ny223.out] at ho6)); have O225 := As0 (Kd.R_lower ho6 (Qbi (BU HB.out))); replace K222 := kB K222 hb; replace HB := sB HB hb; clear hb ho6))
  go_ret
  exact ⟨_, by first | rfl | (simp [Qa9, Qa8] <;> rfl) | (simp [*, Qa9, Qa8] <;> rfl), RU O225.out, BU HB.out⟩
 rw [if_neg c2] at H
 have c2b0 : (a0_0 == 1) = false := beq_eq_false_iff_ne.mpr c2
 have c2b1 : (a0_0 != 1) = true := bne_iff_ne.mpr c2
 by_cases c7 : a0_0 = 2
 rotate_left
 ·rw [if_neg c7] at H
  have c7b0 : (a0_0 == 2) = false := beq_eq_false_iff_ne.mpr c7
  have c7b1 : (a0_0 != 2) = true := bne_iff_ne.mpr c7
  obtain rfl := Option.some.inj H
  go_enter Tryz.func34, Tryz.ntmps34
  go_wp2_with (first | ((with_reducible refine gD 1 ?_); refine bY HB.out ?_; intro gb222 w12 hg hb K222 GW222 HB; clear hb hg; have q13_ := cN4 K222.out))
  go_ret
  exact ⟨_, by first | rfl | (simp [Qa9, Qa8] <;> rfl) | (simp [*, Qa9, Qa8] <;> rfl), by first | exact Kd.R_nil _ _ _ _ _ | exact Kd.N_nil _ _ _ _ _ | exact Kd.V_nil _ _ _ _ _ | exact Kd.Q_nil _ _ _ _ _ | exact Kd.S_nil _ _ _ _ _, BU HB.out⟩
 rw [if_pos c7] at H
 have c7b0 : (a0_0 == 2) = true := beq_iff_eq.mpr c7
 have c7b1 : (a0_0 != 2) = false := bne_eq_false_iff_eq.mpr c7
 clear c7
 obtain ⟨y226, hy226⟩ : ∃ y_ : List Int, y_ = (([a0_2, a0_3] : List Int)) := ⟨_, rfl⟩
 replace H : (some y226) = some r := by first | (rw [hy226]; exact H) | exact H
 have Ny226 := As0 hy226
 clear hy226
 obtain rfl := Option.some.inj H
 go_enter Tryz.func34, Tryz.ntmps34
 go_wp2_with (first | ((with_reducible refine gD 1 ?_); refine bY HB.out ?_; intro gb222 w8 hg hb K222 GW222 HB; clear hb hg; have q9_ := cN4 K222.out) | ((with_reducible refine gD 16 ?_); refine Kd.R_lit (Kd.int .i64) _ 3 ?hg (N := 16) ?hd (xs := ([a0_2, a0_3] : List Int)) (inner := [.int .i64 a0_2, .int .i64 a0_3]) (ok := fun _ => True) (okp := fun _ => True) ?hr ?hp (fun _ hk => hk) trivial (Below.refl _ _) (Nat.le_refl _) (by simp) ?_; (case hd => rfl); (case hg => rfl); (case hr => first | (go_simp; done) | (go_simp; rfl)); (case hp => exact (Reps.one (show Kd.M (Kd.int .i64) _ _ _ a0_2 [.int .i64 a0_2] from rfl) (Reps.one (show Kd.M (Kd.int .i64) _ _ _ a0_3 [.int .i64 a0_3] from rfl) (Reps.none _ _)))); intro v227 w10 ho11 hb hg_ hnew_; clear hg_ hnew_; (first | rw [← Ny226.out] at ho11 | (simp only [Int.reduceToNat] at ho11; rw [← Ny226.out] at ho11)); have O228 := As0 (Kd.R_lower ho11 (Qbi (BU HB.out))); replace K222 := kB K222 hb; replace HB := sB HB hb; clear hb ho11))
 go_ret
 exact ⟨_, by first | rfl | (simp [Qa9, Qa8] <;> rfl) | (simp [*, Qa9, Qa8] <;> rfl), RU O228.out, BU HB.out⟩
def Qa6.f (a0_0 a0_1 a1_0 a1_1 : Int) : Option (Bool) := if a0_0 < a1_0 then (some true) else (if a0_0 = a1_0 then (some (decide (a0_1 < a1_1))) else (some false))
theorem Qa6.calls (a0_0 a0_1 a1_0 a1_1 : Int) (r : Bool) (w : World) (h : Qa6.f a0_0 a0_1 a1_0 a1_1 = some r) :
 Calls Tryz.prog 122 #[.agg #[.int .i64 a0_0, .int .i64 a0_1], .agg #[.int .i64 a1_0, .int .i64 a1_1]] w fun e w' => e = .returned (.bool r) ∧ Below w.heap.size w w' := by
 have hu47 := Tryz.underlying47
 have HB := As0 (Below.refl w.heap.size w)
 have H : (if a0_0 < a1_0 then (some true) else (if a0_0 = a1_0 then (some (decide (a0_1 < a1_1))) else (some false))) = some r := h
 clear h
 by_cases c3 : a0_0 < a1_0
 ·rw [if_pos c3] at H
  have c3b0 := decide_eq_true c3
  clear c3
  obtain rfl := Option.some.inj H
  go_enter Tryz.func122, Tryz.ntmps122
  go_wp2_with (first | ((with_reducible refine gD 2 ?_); refine bY HB.out ?_; intro gb177 w4 hg hb fA GW177 HB; clear hb hg) | ((with_reducible refine gD 3 ?_); refine bY HB.out ?_; intro gb178 w5 hg hb BK178 GW178 HB; have NB177_178 := pL hg fA; have NB178_177 := pR hg fA; replace fA := kB fA hb; clear hb hg; have q7_ := cN2 fA.out; have q8_ := cN2 BK178.out))
  go_ret
  exact ⟨oR, BU HB.out⟩
 rw [if_neg c3] at H
 have c3b0 := decide_eq_false c3
 clear c3
 by_cases c9 : a0_0 = a1_0
 rotate_left
 ·rw [if_neg c9] at H
  have c9b0 : (a0_0 == a1_0) = false := beq_eq_false_iff_ne.mpr c9
  have c9b1 : (a0_0 != a1_0) = true := bne_iff_ne.mpr c9
  obtain rfl := Option.some.inj H
  go_enter Tryz.func122, Tryz.ntmps122
  go_wp2_with (first | ((with_reducible refine gD 2 ?_); refine bY HB.out ?_; intro gb177 w15 hg hb fA GW177 HB; clear hb hg) | ((with_reducible refine gD 3 ?_); refine bY HB.out ?_; intro gb178 w16 hg hb BK178 GW178 HB; have NB177_178 := pL hg fA; have NB178_177 := pR hg fA; replace fA := kB fA hb; clear hb hg; have q18_ := cN2 fA.out; have q19_ := cN2 BK178.out))
  go_ret
  exact ⟨oR, BU HB.out⟩
 rw [if_pos c9] at H
 have c9b0 : (a0_0 == a1_0) = true := beq_iff_eq.mpr c9
 have c9b1 : (a0_0 != a1_0) = false := bne_eq_false_iff_eq.mpr c9
 clear c9
 obtain rfl := Option.some.inj H
 go_enter Tryz.func122, Tryz.ntmps122
 go_wp2_with (first | ((with_reducible refine gD 2 ?_); refine bY HB.out ?_; intro gb177 w10 hg hb fA GW177 HB; clear hb hg) | ((with_reducible refine gD 3 ?_); refine bY HB.out ?_; intro gb178 w11 hg hb BK178 GW178 HB; have NB177_178 := pL hg fA; have NB178_177 := pR hg fA; replace fA := kB fA hb; clear hb hg; have q13_ := cN2 fA.out; have q14_ := cN2 BK178.out))
 go_ret
 exact ⟨oR, BU HB.out⟩
def pairset_compare.f (a0_0 a0_1 a1_0 a1_1 : Int) : Option (Int) := (Qa6.f a0_0 a0_1 a1_0 a1_1).bind fun t289 => (if t289 = true then (some (-1)) else ((Qa6.f a1_0 a1_1 a0_0 a0_1).bind fun t290 => (if t290 = true then (some 1) else (some 0))))
def Qa3.l0 : Nat → List (S47) → Int → Int → Int → Int → Option (Int)
 | 0, _, _, _, _, _ => none
 | k + 1, x0, x5, x6, x302000, x302001 => if x5 < x6 then (if 0 ≤ (wrap64 (x5 + (wrap64 (Int.tdiv (wrap64 (x6 - x5)) 2)))) then (if (wrap64 (x5 + (wrap64 (Int.tdiv (wrap64 (x6 - x5)) 2)))) < (x0.length : Int) then ((Qa6.f ((Qaa x0 (wrap64 (x5 + (wrap64 (Int.tdiv (wrap64 (x6 - x5)) 2))))).f0) ((Qaa x0 (wrap64 (x5 + (wrap64 (Int.tdiv (wrap64 (x6 - x5)) 2))))).f1) x302000 x302001).bind fun t303 => (if t303 = true then (Qa3.l0 k x0 (wrap64 ((wrap64 (x5 + (wrap64 (Int.tdiv (wrap64 (x6 - x5)) 2)))) + 1)) x6 x302000 x302001) else (Qa3.l0 k x0 x5 (wrap64 (x5 + (wrap64 (Int.tdiv (wrap64 (x6 - x5)) 2)))) x302000 x302001))) else (none)) else (none)) else (some x5)
def Qa3.f (k : Nat) (l0 : List (S47)) (a1_0 a1_1 : Int) : Option (Int) := Qa3.l0 k l0 0 (l0.length : Int) a1_0 a1_1
theorem Qa3.calls (k : Nat) (A0 : Option Addr) (c0 : Nat) (l0 : List (S47)) (a1_0 a1_1 r : Int) (w : World) (hr0 : Kd.C k47 w A0 l0.length l0) (hc0 : l0.length ≤ c0) (h : Qa3.f k l0 a1_0 a1_1 = some r) :
 Calls Tryz.prog 190 #[.slice A0 l0.length c0, .agg #[.int .i64 a1_0, .int .i64 a1_1]] w fun e w' => e = .returned (.int .i64 r) ∧ Below w.heap.size w w' := by
 have hu47 := Tryz.underlying47
 have HR0 := As0 hr0
 have HC0 := As0 hc0
 clear hr0 hc0
 have HB := As0 (Below.refl w.heap.size w)
 have H : (Qa3.l0 k l0 0 (l0.length : Int) a1_0 a1_1) = some r := h
 clear h
 have H' := As0 H
 clear H
 go_enter Tryz.func190, Tryz.ntmps190
 go_wp2_with (first | ((with_reducible refine gD 3 ?_); refine bY HB.out ?_; intro gb301 w3 hg hb dW GW301 HB; clear hb hg))
 go_loopg [5, 6] k (fun kq v5 v6 w' => ∃ (dB : Int) (eF : Int), v5 = .int .i64 dB ∧ v6 = .int .i64 eF ∧ Qbf (Qa3.l0 kq l0 dB eF a1_0 a1_1 = some r) ∧ Qbf (kq ≤ k) ∧ Qbf (w'.heap[gb301]? = some (.cells #[.int .i64 a1_0, .int .i64 a1_1] 47 (0, 0))) ∧ Qbf (Below w.heap.size w w'))
 case atStart => exact ⟨(0), ((l0.length : Int)), eR, eR, H', ⟨Nat.le_refl _⟩, ⟨bU dW.out⟩, ⟨BU HB.out⟩⟩
 case round =>
  clear H'
  obtain ⟨dB, eF, rfl, rfl, HA, HK1, dW, HB⟩ := hrel
  cases gk with
  | zero => exact absurd HA.out (by simp [Qa3.l0])
  | succ k1 =>
   have H := HA.out
   clear HA
   simp only [Qa3.l0] at H
   by_cases c4 : dB < eF
   rotate_left
   ·rw [if_neg c4] at H
    have c4b0 := decide_eq_false c4
    clear c4
    obtain rfl := Option.some.inj H
    go_wp2
    go_ret
    exact ⟨oR, BU HB.out⟩
   rw [if_pos c4] at H
   have c4b0 := decide_eq_true c4
   clear c4
   obtain ⟨fR, hji5⟩ : ∃ j_ : Int, (wrap64 (dB + (wrap64 (Int.tdiv (wrap64 (eF - dB)) 2)))) = j_ := ⟨_, rfl⟩
   replace H : (if 0 ≤ (fR) then (if (fR) < (l0.length : Int) then ((Qa6.f ((Qaa l0 (fR)).f0) ((Qaa l0 (fR)).f1) a1_0 a1_1).bind fun t303 => (if t303 = true then (Qa3.l0 k1 l0 (wrap64 ((fR) + 1)) eF a1_0 a1_1) else (Qa3.l0 k1 l0 dB fR a1_0 a1_1))) else (none)) else (none)) = some r := by first | (rw [hji5] at H; exact H) | (simp only [hji5] at H ⊢; exact H)
   have hji5w : (IntKind.i64.wrap (dB + (wrap64 (Int.tdiv (wrap64 (eF - dB)) 2)))) = fR := (Qbo _).trans hji5
   by_cases c6 : 0 ≤ (fR)
   rotate_left
   ·rw [if_neg c6] at H
    exact absurd H (by simp)
   rw [if_pos c6] at H
   have c6b0 := decide_eq_true c6
   clear c6
   by_cases c7 : (fR) < (l0.length : Int)
   rotate_left
   ·rw [if_neg c7] at H
    exact absurd H (by simp)
   rw [if_pos c7] at H
   have c7b0 := decide_eq_true c7
   clear c7
   replace H := Option.bind_eq_some_iff.mp H
   obtain ⟨t303, A80, H⟩ := H
   have A8 := As0 A80
   clear A80
   by_cases c9 : t303 = true
   ·subst c9
    rw [if_pos rfl] at H
    have H' := As0 H
    clear H
    try go_wp2
    replace dW := As0 (Qbm dW.out)
    replace HB := As0 (bd1 HB.out)
    have p302 : 0 ≤ ((fR) : Int) := qR
    have q302 : (fR) < (l0.length : Int) := qR
    obtain ⟨ad302, e302, fG, fF⟩ := Qcc HR0.out (fR) p302 q302
    have hw302_1 := fF
    have hw302_0 := fG
    cases e302
    replace fG := cl HB fG
    replace fF := cl HB fF
    replace p302 := eq_true p302
    replace q302 := eq_true q302
    refine Qb1 (n := 6) (S := fun w' => w'.cell? ⟨gb301, 0, none⟩ = some (.int .i64 a1_0) ∧ w'.cell? ⟨gb301, 1, none⟩ = some (.int .i64 a1_1) ∧ w'.cell? (ad302.add (((fR)).toNat * 2)) = some (.int .i64 ((Qaa l0 (fR)).f0)) ∧ w'.cell? ⟨(ad302.add (((fR)).toNat * 2)).block, (ad302.add (((fR)).toNat * 2)).off + 1, none⟩ = some (.int .i64 ((Qaa l0 (fR)).f1))) (ds := []) (bb 6 0) (by kernel_rfl) rfl rfl ⟨bc dW 0, bc dW 1, (cl HB hw302_0), (cl HB hw302_1)⟩ (fun aA => ?_)
    generalize wr.drew = w10 at dW HB fG fF aA ⊢
    refine pu 0 19 (bb 6 1) ?_
    refine pu 1 20 (bb 6 3) ?_
    refine pu 2 21 (bb 6 7) ?_
    refine tu aA 3 22 (bb 6 15) ?_
    refine tu aA 4 23 (bb 6 31) ?_
    refine one_ (i := 5) (N := some 24) (bb 6 63) rfl rfl (by kernel_rfl) (by decide) (fun K hK => ?_)
    refine goes_ Tryz.func122 (by kernel_rfl) rfl #[.agg #[.int .i64 ((Qaa l0 (fR)).f0), .int .i64 ((Qaa l0 (fR)).f1)], .agg #[.int .i64 a1_0, .int .i64 a1_1]] (by rfl) rfl rfl (by (try simp only [List.map_toArray, List.map_cons, List.map_nil]); first | done | (simp only [hji5]; rfl) | rfl | (simp only [List.length_drop, List.length_take]; rfl)) ?_
    with_reducible refine (Qa6.calls ((Qaa l0 (fR)).f0) ((Qaa l0 (fR)).f1) a1_0 a1_1 true _ A8.out).mono ?_
    rintro e w11 ⟨rfl, hb⟩
    refine ⟨_, rfl, ?_⟩
    replace dW := kB dW hb
    replace HB := sB HB hb
    (try clear hb)
    (try clear hb2)
    (try clear hk)
    (try clear hi)
    refine hK.out _ _ ⟨bc dW 0, bc dW 1, (cl HB hw302_0), (cl HB hw302_1)⟩ (fun aA => ?_)
    clear hK K
    refine Qbz (a' := ?_) ?_ ?_
    rotate_left
    ·show Act.put _ (some 24) _ = _
     simp only [Act.put, sL1, sL2, sL3, Qbo, Qbp]
     rfl
    refine Qch (by kernel_rfl) ?_
    try go_wp2
    go_roundg k1
    case measure => have := HK1.out; omega
    case rel => exact ⟨(wrap64 ((fR) + 1)), (eF), (by first | rfl | (simp; done) | (simp only [← hji5] <;> (first | rfl | simp)) | (simp [*]; done)), eR, H', ⟨by have := HK1.out; omega⟩, ⟨bU dW.out⟩, ⟨BU HB.out⟩⟩
   replace c9 := Bool.eq_false_iff.mpr c9
   subst c9
   rw [if_neg bF] at H
   have H' := As0 H
   clear H
   try go_wp2
   replace dW := As0 (Qbm dW.out)
   replace HB := As0 (bd1 HB.out)
   have p302 : 0 ≤ ((fR) : Int) := qR
   have q302 : (fR) < (l0.length : Int) := qR
   obtain ⟨ad302, e302, fG, fF⟩ := Qcc HR0.out (fR) p302 q302
   have hw302_1 := fF
   have hw302_0 := fG
   cases e302
   replace fG := cl HB fG
   replace fF := cl HB fF
   replace p302 := eq_true p302
   replace q302 := eq_true q302
   refine Qb1 (n := 6) (S := fun w' => w'.cell? ⟨gb301, 0, none⟩ = some (.int .i64 a1_0) ∧ w'.cell? ⟨gb301, 1, none⟩ = some (.int .i64 a1_1) ∧ w'.cell? (ad302.add (((fR)).toNat * 2)) = some (.int .i64 ((Qaa l0 (fR)).f0)) ∧ w'.cell? ⟨(ad302.add (((fR)).toNat * 2)).block, (ad302.add (((fR)).toNat * 2)).off + 1, none⟩ = some (.int .i64 ((Qaa l0 (fR)).f1))) (ds := []) (bb 6 0) (by kernel_rfl) rfl rfl ⟨bc dW 0, bc dW 1, (cl HB hw302_0), (cl HB hw302_1)⟩ (fun aA => ?_)
   generalize wr.drew = w12 at dW HB fG fF aA ⊢
   refine pu 0 19 (bb 6 1) ?_
   refine pu 1 20 (bb 6 3) ?_
   refine pu 2 21 (bb 6 7) ?_
   refine tu aA 3 22 (bb 6 15) ?_
   refine tu aA 4 23 (bb 6 31) ?_
   refine one_ (i := 5) (N := some 24) (bb 6 63) rfl rfl (by kernel_rfl) (by decide) (fun K hK => ?_)
   refine goes_ Tryz.func122 (by kernel_rfl) rfl #[.agg #[.int .i64 ((Qaa l0 (fR)).f0), .int .i64 ((Qaa l0 (fR)).f1)], .agg #[.int .i64 a1_0, .int .i64 a1_1]] (by rfl) rfl rfl (by (try simp only [List.map_toArray, List.map_cons, List.map_nil]); first | done | (simp only [hji5]; rfl) | rfl | (simp only [List.length_drop, List.length_take]; rfl)) ?_
   with_reducible refine (Qa6.calls ((Qaa l0 (fR)).f0) ((Qaa l0 (fR)).f1) a1_0 a1_1 false _ A8.out).mono ?_
   rintro e w13 ⟨rfl, hb⟩
   refine ⟨_, rfl, ?_⟩
   replace dW := kB dW hb
   replace HB := sB HB hb
   (try clear hb)
   (try clear hb2)
   (try clear hk)
   (try clear hi)
   refine hK.out _ _ ⟨bc dW 0, bc dW 1, (cl HB hw302_0), (cl HB hw302_1)⟩ (fun aA => ?_)
   clear hK K
   refine Qbz (a' := ?_) ?_ ?_
   rotate_left
   ·show Act.put _ (some 24) _ = _
    simp only [Act.put, sL1, sL2, sL3, Qbo, Qbp]
    rfl
   refine Qch (by kernel_rfl) ?_
   try go_wp2
   go_roundg k1
   case measure => have := HK1.out; omega
   case rel => exact ⟨(dB), (fR), eR, (by first | rfl | (simp; done) | (simp only [← hji5] <;> (first | rfl | simp)) | (simp [*]; done)), H', ⟨by have := HK1.out; omega⟩, ⟨bU dW.out⟩, ⟨BU HB.out⟩⟩
def pairset_Has.f (k : Nat) (l0 : List (S47)) (a1_0 a1_1 : Int) : Option (Bool) := (Qa3.f k l0 a1_0 a1_1).bind fun eU => (if eU < (l0.length : Int) then (if 0 ≤ eU then (some (((Qaa l0 eU).f0) == a1_0 && (((Qaa l0 eU).f1) == a1_1))) else (none)) else (some false))
theorem pairset_Has.calls (k : Nat) (A0 : Option Addr) (c0 : Nat) (l0 : List (S47)) (a1_0 a1_1 : Int) (r : Bool) (w : World) (hr0 : Kd.C k47 w A0 l0.length l0) (hc0 : l0.length ≤ c0) (h : pairset_Has.f k l0 a1_0 a1_1 = some r) :
 Calls Tryz.prog 160 #[.slice A0 l0.length c0, .agg #[.int .i64 a1_0, .int .i64 a1_1]] w fun e w' => e = .returned (.bool r) ∧ Below w.heap.size w w' := by
 have hu47 := Tryz.underlying47
 have HR0 := As0 hr0
 have HC0 := As0 hc0
 clear hr0 hc0
 have HB := As0 (Below.refl w.heap.size w)
 have H : ((Qa3.f k l0 a1_0 a1_1).bind fun eU => (if eU < (l0.length : Int) then (if 0 ≤ eU then (some (((Qaa l0 eU).f0) == a1_0 && (((Qaa l0 eU).f1) == a1_1))) else (none)) else (some false))) = some r := h
 clear h
 replace H := Option.bind_eq_some_iff.mp H
 obtain ⟨eU, A30, H⟩ := H
 have A3 := As0 A30
 clear A30
 by_cases c4 : eU < (l0.length : Int)
 rotate_left
 ·rw [if_neg c4] at H
  have c4b0 := decide_eq_false c4
  clear c4
  obtain rfl := Option.some.inj H
  go_enter Tryz.func160, Tryz.ntmps160
  go_wp2_with (first | ((with_reducible refine gD 3 ?_); refine bY HB.out ?_; intro gb304 w10 hg hb dI GW304 HB; clear hb hg; have q11_ := cN2 dI.out) | (go_at_call 190; (with_reducible refine (Qa3.calls k _ _ l0 a1_0 a1_1 eU _ ?side1 ?side2 A3.out).mono ?_); (case side1 => exact CU (Kd.C_below HR0.out HB.out)); (case side2 => exact HC0.out); rintro e w12 ⟨rfl, hb⟩; replace dI := kB dI hb; replace HB := sB HB hb; (try clear hb)))
  repeat (go_quiet (first | ((with_reducible refine gD 3 ?_); refine bY HB.out ?_; intro gb304 w10 hg hb dI GW304 HB; clear hb hg; have q11_ := cN2 dI.out) | (go_at_call 190; (with_reducible refine (Qa3.calls k _ _ l0 a1_0 a1_1 eU _ ?side1 ?side2 A3.out).mono ?_); (case side1 => exact CU (Kd.C_below HR0.out HB.out)); (case side2 => exact HC0.out); rintro e w12 ⟨rfl, hb⟩; replace dI := kB dI hb; replace HB := sB HB hb; (try clear hb))); try go_wp2_with (first | ((with_reducible refine gD 3 ?_); refine bY HB.out ?_; intro gb304 w10 hg hb dI GW304 HB; clear hb hg; have q11_ := cN2 dI.out) | (go_at_call 190; (with_reducible refine (Qa3.calls k _ _ l0 a1_0 a1_1 eU _ ?side1 ?side2 A3.out).mono ?_); (case side1 => exact CU (Kd.C_below HR0.out HB.out)); (case side2 => exact HC0.out); rintro e w12 ⟨rfl, hb⟩; replace dI := kB dI hb; replace HB := sB HB hb; (try clear hb))))
  go_ret
  exact ⟨oR, BU HB.out⟩
 rw [if_pos c4] at H
 have c4b0 := decide_eq_true c4
 clear c4
 by_cases c5 : 0 ≤ eU
 rotate_left
 ·rw [if_neg c5] at H
  exact absurd H (by simp)
 rw [if_pos c5] at H
 have c5b0 := decide_eq_true c5
 clear c5
 obtain rfl := Option.some.inj H
 go_enter Tryz.func160, Tryz.ntmps160
 go_wp2_with (first | ((with_reducible refine gD 3 ?_); refine bY HB.out ?_; intro gb304 w6 hg hb dI GW304 HB; clear hb hg; have q7_ := cN2 dI.out) | (go_at_call 190; (with_reducible refine (Qa3.calls k _ _ l0 a1_0 a1_1 eU _ ?side1 ?side2 A3.out).mono ?_); (case side1 => exact CU (Kd.C_below HR0.out HB.out)); (case side2 => exact HC0.out); rintro e w8 ⟨rfl, hb⟩; replace dI := kB dI hb; replace HB := sB HB hb; (try clear hb); have p306 : 0 ≤ (eU : Int) := qR; have q306 : eU < (l0.length : Int) := qR; obtain ⟨ad306, e306, fT, fS⟩ := Qcc HR0.out eU p306 q306; cases e306; replace fT := cl HB fT; replace fS := cl HB fS; replace p306 := eq_true p306; replace q306 := eq_true q306; have q9_ := cN2 dI.out))
 repeat (go_quiet (first | ((with_reducible refine gD 3 ?_); refine bY HB.out ?_; intro gb304 w6 hg hb dI GW304 HB; clear hb hg; have q7_ := cN2 dI.out) | (go_at_call 190; (with_reducible refine (Qa3.calls k _ _ l0 a1_0 a1_1 eU _ ?side1 ?side2 A3.out).mono ?_); (case side1 => exact CU (Kd.C_below HR0.out HB.out)); (case side2 => exact HC0.out); rintro e w8 ⟨rfl, hb⟩; replace dI := kB dI hb; replace HB := sB HB hb; (try clear hb); have p306 : 0 ≤ (eU : Int) := qR; have q306 : eU < (l0.length : Int) := qR; obtain ⟨ad306, e306, fT, fS⟩ := Qcc HR0.out eU p306 q306; cases e306; replace fT := cl HB fT; replace fS := cl HB fS; replace p306 := eq_true p306; replace q306 := eq_true q306; have q9_ := cN2 dI.out)); try go_wp2_with (first | ((with_reducible refine gD 3 ?_); refine bY HB.out ?_; intro gb304 w6 hg hb dI GW304 HB; clear hb hg; have q7_ := cN2 dI.out) | (go_at_call 190; (with_reducible refine (Qa3.calls k _ _ l0 a1_0 a1_1 eU _ ?side1 ?side2 A3.out).mono ?_); (case side1 => exact CU (Kd.C_below HR0.out HB.out)); (case side2 => exact HC0.out); rintro e w8 ⟨rfl, hb⟩; replace dI := kB dI hb; replace HB := sB HB hb; (try clear hb); have p306 : 0 ≤ (eU : Int) := qR; have q306 : eU < (l0.length : Int) := qR; obtain ⟨ad306, e306, fT, fS⟩ := Qcc HR0.out eU p306 q306; cases e306; replace fT := cl HB fT; replace fS := cl HB fS; replace p306 := eq_true p306; replace q306 := eq_true q306; have q9_ := cN2 dI.out)))
 go_ret
 exact ⟨oR, BU HB.out⟩
mutual
def Qab.l0 : Nat → List (S47) → Int → List (S47) → Int → Int → Option (Int × Int × Bool)
 | 0, _, _, _, _, _ => none
 | k + 1, x1, x6, x9, iY, fL => if fL < iY then (if 0 ≤ fL then (if fL < (x9.length : Int) then (Qab.l1 k x1 x6 x9 iY fL ((Qaa x9 fL).f0) ((Qaa x9 fL).f1)) else (none)) else (none)) else (some (0, 0, false))
def Qab.l1 : Nat → List (S47) → Int → List (S47) → Int → Int → Int → Int → Option (Int × Int × Bool)
 | 0, _, _, _, _, _, _, _ => none
 | k + 1, x1, x6, x9, iY, fL, eY, eX => if x6 < (x1.length : Int) then (if 0 ≤ x6 then ((Qa6.f ((Qaa x1 x6).f0) ((Qaa x1 x6).f1) eY eX).bind fun t332 => (Qab.j2 k x1 x6 x9 iY fL t332 eY eX)) else (none)) else (Qab.j2 k x1 x6 x9 iY fL false eY eX)
def Qab.j2 : Nat → List (S47) → Int → List (S47) → Int → Int → Bool → Int → Int → Option (Int × Int × Bool)
 | 0, _, _, _, _, _, _, _, _ => none
 | k + 1, x1, x6, x9, iY, fL, x26, eY, eX => if x26 = true then (Qab.l1 k x1 (wrap64 (x6 + 1)) x9 iY fL eY eX) else (if x6 = (x1.length : Int) then (Qab.j3 k x1 x6 x9 iY fL true eY eX) else (if 0 ≤ x6 then (if x6 < (x1.length : Int) then (Qab.j3 k x1 x6 x9 iY fL (!(((Qaa x1 x6).f0) == eY) || (!(((Qaa x1 x6).f1) == eX))) eY eX) else (none)) else (none)))
def Qab.j3 : Nat → List (S47) → Int → List (S47) → Int → Int → Bool → Int → Int → Option (Int × Int × Bool)
 | 0, _, _, _, _, _, _, _, _ => none
 | k + 1, x1, x6, x9, iY, fL, x40, eY, eX => if x40 = true then (some (eY, eX, true)) else (Qab.l0 k x1 x6 x9 iY (wrap64 (fL + 1)))
end
def Qab.f (k : Nat) (l0 : List (S47)) (l1 : List (S47)) : Option (Int × Int × Bool) := Qab.l0 k l1 0 l0 (l0.length : Int) 0
def Qab.T5 : Bool × List (List Nat × List Nat) := (true, [([], []), ([], []), ([1], [1]), ([0, 2], [0, 2]), ([3], [3]), ([4], [4]), ([4], [4]), ([5, 6, 4], [4, 5, 6]), ([7, 4], [4, 7]), ([4], [4]), ([8, 9, 4, 4], [4, 8, 9]), ([4, 10], [4, 10])])
def Qab.B5 : List Nat := [0, 0, 2, 7, 15, 31, 31, 127, 255, 31, 1023, 2047]
theorem Qab.tab5 : rtab .any (opsOf Tryz.f67 5) = Qab.T5 := by kernel_rfl
theorem Qab.bits5 : Qco Qab.T5.2 Qab.B5 = true := by kernel_rfl
def Qab.T7 : Bool × List (List Nat × List Nat) := (true, [([], []), ([], []), ([1], [1]), ([0, 2], [0, 2]), ([3], [3]), ([4], [4]), ([4], [4]), ([5, 6, 4], [4, 5, 6]), ([7, 4], [4, 7]), ([4], [4]), ([8, 9, 4], [4, 8, 9]), ([4, 10], [4, 10])])
def Qab.B7 : List Nat := [0, 0, 2, 7, 15, 31, 31, 127, 255, 31, 1023, 2047]
theorem Qab.tab7 : rtab .any (opsOf Tryz.f67 7) = Qab.T7 := by kernel_rfl
theorem Qab.bits7 : Qco Qab.T7.2 Qab.B7 = true := by kernel_rfl
theorem Qab.calls (k : Nat) (A0 : Option Addr) (c0 : Nat) (l0 : List (S47)) (A1 : Option Addr) (c1 : Nat) (l1 : List (S47)) (r1 r2 : Int) (r3 : Bool) (w : World) (hr0 : Kd.C k47 w A0 l0.length l0) (hc0 : l0.length ≤ c0) (hr1 : Kd.C k47 w A1 l1.length l1) (hc1 : l1.length ≤ c1) (h : Qab.f k l0 l1 = some (r1, r2, r3)) :
 Calls Tryz.prog 67 #[.slice A0 l0.length c0, .slice A1 l1.length c1] w fun e w' => e = .returned (.tuple #[.agg #[.int .i64 r1, .int .i64 r2], .bool r3]) ∧ Below w.heap.size w w' := by
 have hu47 := Tryz.underlying47
 have HR0 := As0 hr0
 have HC0 := As0 hc0
 clear hr0 hc0
 have HR1 := As0 hr1
 have HC1 := As0 hc1
 clear hr1 hc1
 have HB := As0 (Below.refl w.heap.size w)
 have H : (Qab.l0 k l1 0 l0 (l0.length : Int) 0) = some (r1, r2, r3) := h
 clear h
 have H' := As0 H
 clear H
 go_enter Tryz.func67, Tryz.ntmps67
 go_wp2_with (first | ((with_reducible refine gD 4 ?_); refine bY HB.out ?_; intro gb328 w3 hg hb cN GW328 HB; clear hb hg))
 go_loopg [6, 11] k (fun kq v6 v11 w' => ∃ (eF : Int) (cD : Int) (fI : Int) (fH : Int), v6 = .int .i64 eF ∧ v11 = .int .i64 cD ∧ Qbf (Qab.l0 kq l1 eF l0 (l0.length : Int) cD = some (r1, r2, r3)) ∧ Qbf (kq ≤ k) ∧ Qbf (w'.heap[gb328]? = some (.cells #[.int .i64 fI, .int .i64 fH] 47 (0, 0))) ∧ Qbf (Below w.heap.size w w'))
 case atStart => exact ⟨(0), (0), (0), (0), eR, eR, H', ⟨Nat.le_refl _⟩, ⟨bU cN.out⟩, ⟨BU HB.out⟩⟩
 case round =>
  clear H'
  obtain ⟨eF, cD, fI, fH, rfl, rfl, HA, HK1, cN, HB⟩ := hrel
  cases gk with
  | zero => exact absurd HA.out (by simp [Qab.l0])
  | succ k1 =>
   have H := HA.out
   clear HA
   simp only [Qab.l0] at H
   by_cases c4 : cD < (l0.length : Int)
   rotate_left
   ·rw [if_neg c4] at H
    have c4b0 := decide_eq_false c4
    clear c4
    simp only [Option.some.injEq, Prod.mk.injEq] at H
    obtain ⟨rfl, rfl, rfl⟩ := H
    have q28_ := cN2 cN.out
    go_wp2
    refine bodyPost_ret (Qcu rfl _ _ gb328 47 #[.int .i64 0, .int .i64 0] (0, 0) _ rfl (kV cN) Tryz.underlying47 rfl (by kernel_rfl)) rfl ?_
    exact ⟨oR, BU HB.out⟩
   rw [if_pos c4] at H
   have c4b0 := decide_eq_true c4
   clear c4
   by_cases c5 : 0 ≤ cD
   rotate_left
   ·rw [if_neg c5] at H
    exact absurd H (by simp)
   rw [if_pos c5] at H
   have c5b0 := decide_eq_true c5
   clear c5
   by_cases c6 : cD < (l0.length : Int)
   rotate_left
   ·rw [if_neg c6] at H
    exact absurd H (by simp)
   rw [if_pos c6] at H
   have c6b0 := decide_eq_true c6
   clear c6
   have H' := As0 H
   clear H
   have p329 : 0 ≤ (cD : Int) := qR
   have q329 : cD < (l0.length : Int) := qR
   obtain ⟨ad329, e329, hx329_0, hx329_1⟩ := Qcc HR0.out cD p329 q329
   cases e329
   replace hx329_0 := cl HB hx329_0
   replace hx329_1 := cl HB hx329_1
   replace p329 := eq_true p329
   replace q329 := eq_true q329
   go_wp2_with (first | ((with_reducible refine gD 8 ?_); refine bY HB.out ?_; intro gb330 w7 hg hb cU GW330 HB; have NB328_330 := pL hg cN; have NB330_328 := pR hg cN; replace cN := kB cN hb; clear hb hg; have q9_ := cN2 cU.out))
   go_loopg [6] k1 (fun kq v6 w' => ∃ (dO : Int), v6 = .int .i64 dO ∧ Qbf (Qab.l1 kq l1 dO l0 (l0.length : Int) cD ((Qaa l0 cD).f0) ((Qaa l0 cD).f1) = some (r1, r2, r3)) ∧ Qbf (kq ≤ k1) ∧ Qbf (w'.heap[gb328]? = some (.cells #[.int .i64 fI, .int .i64 fH] 47 (0, 0))) ∧ Qbf (w'.heap[gb330]? = some (.cells #[.int .i64 ((Qaa l0 cD).f0), .int .i64 ((Qaa l0 cD).f1)] 47 (0, 0))) ∧ Qbf (Below w.heap.size w w'))
   case atStart => exact ⟨(eF), eR, H', ⟨Nat.le_refl _⟩, ⟨kV cN⟩, ⟨kV cU⟩, ⟨BU HB.out⟩⟩
   case round =>
    clear H'
    obtain ⟨dO, rfl, HA, HK2, cN, cU, HB⟩ := hrel
    cases gk with
    | zero => exact absurd HA.out (by simp [Qab.l1])
    | succ k2 =>
     have H := HA.out
     clear HA
     simp only [Qab.l1] at H
     have HC10 := As0 H
     clear H
     go_upto_region 5 with (fail)
     go_cut [26] (fun v26 wc => ∃ (kq : Nat) (x26_9 : Bool), v26 = .bool x26_9 ∧ Qbf (Qab.j2 kq l1 dO l0 (l0.length : Int) cD x26_9 ((Qaa l0 cD).f0) ((Qaa l0 cD).f1) = some (r1, r2, r3)) ∧ Qbf (kq ≤ k2) ∧ Qbf (wc.heap[gb328]? = some (.cells #[.int .i64 fI, .int .i64 fH] 47 (0, 0))) ∧ Qbf (wc.heap[gb330]? = some (.cells #[.int .i64 ((Qaa l0 cD).f0), .int .i64 ((Qaa l0 cD).f1)] 47 (0, 0))) ∧ Qbf (Below w.heap.size w wc))
     case first =>
      have H := HC10.out
      clear HC10
      by_cases c11 : dO < (l1.length : Int)
      rotate_left
      ·rw [if_neg c11] at H
       have c11b0 := decide_eq_false c11
       clear c11
       (first | rw [c11b0] | (simp only [Qbo, Qbp]; rw [c11b0]) | skip)
       have H' := As0 H
       clear H
       try go_wp2
       replace cN := As0 (Qbm cN.out)
       replace cU := As0 (Qbm cU.out)
       replace HB := As0 (bd1 HB.out)
       refine Qb1 (n := 12) (S := fun w' => True) (ds := []) (bb 12 0) (by kernel_rfl) rfl rfl trivial (fun aA => ?_); refine Qb8 Qab.tab5 Qab.bits5 (fun HT_ HW_ => ?_)
       generalize wr.drew = w16 at cN cU HB aA ⊢
       refine pv HT_.out 0 15 (bb 12 1) ?_
       refine pv HT_.out 1 16 (bb 12 3) ?_
       refine pv HT_.out 2 17 (bb 12 7) ?_
       refine pv HT_.out 3 18 (bb 12 15) ?_
       refine pv HT_.out 4 19 (bb 12 31) ?_
       refine py HT_.out 5 20 (bb 12 63) ?_
       refine py HT_.out 6 21 (bb 12 127) ?_
       refine py HT_.out 7 22 (bb 12 255) ?_
       refine py HT_.out 8 23 (bb 12 511) ?_
       refine py HT_.out 9 24 (bb 12 1023) ?_
       refine py HT_.out 10 25 (bb 12 2047) ?_
       refine pv HT_.out 11 26 (bb 12 4095) ?_
       refine Qch (Qcm HT_.out (by kernel_rfl)) ?_
       try go_wp2
       go_meet
       case rel => exact ⟨_, (false), eR, H', ⟨by have := HK1.out; have := HK2.out; first | omega | exact Nat.le_refl _⟩, ⟨bU cN.out⟩, ⟨bU cU.out⟩, ⟨BU HB.out⟩⟩
      rw [if_pos c11] at H
      have c11b0 := decide_eq_true c11
      clear c11
      (first | rw [c11b0] | (simp only [Qbo, Qbp]; rw [c11b0]) | skip)
      by_cases c12 : 0 ≤ dO
      rotate_left
      ·rw [if_neg c12] at H
       exact absurd H (by simp)
      rw [if_pos c12] at H
      have c12b0 := decide_eq_true c12
      clear c12
      replace H := Option.bind_eq_some_iff.mp H
      obtain ⟨t332, A130, H⟩ := H
      have A13 := As0 A130
      clear A130
      have H' := As0 H
      clear H
      try go_wp2
      replace cN := As0 (Qbm cN.out)
      replace cU := As0 (Qbm cU.out)
      replace HB := As0 (bd1 HB.out)
      have p331 : 0 ≤ (dO : Int) := qR
      have q331 : dO < (l1.length : Int) := qR
      obtain ⟨ad331, e331, hx331_0, hx331_1⟩ := Qcc HR1.out dO p331 q331
      have hw331_1 := hx331_1
      have hw331_0 := hx331_0
      cases e331
      replace hx331_0 := cl HB hx331_0
      replace hx331_1 := cl HB hx331_1
      replace p331 := eq_true p331
      replace q331 := eq_true q331
      refine Qb1 (n := 12) (S := fun w' => w'.cell? ⟨gb330, 0, none⟩ = some (.int .i64 ((Qaa l0 cD).f0)) ∧ w'.cell? ⟨gb330, 1, none⟩ = some (.int .i64 ((Qaa l0 cD).f1)) ∧ w'.cell? (ad331.add ((dO).toNat * 2)) = some (.int .i64 ((Qaa l1 dO).f0)) ∧ w'.cell? ⟨(ad331.add ((dO).toNat * 2)).block, (ad331.add ((dO).toNat * 2)).off + 1, none⟩ = some (.int .i64 ((Qaa l1 dO).f1))) (ds := []) (bb 12 0) (by kernel_rfl) rfl rfl ⟨bc cU 0, bc cU 1, (cl HB hw331_0), (cl HB hw331_1)⟩ (fun aA => ?_); refine Qb8 Qab.tab5 Qab.bits5 (fun HT_ HW_ => ?_)
      generalize wr.drew = w14 at cN cU HB hx331_0 hx331_1 aA ⊢
      refine pv HT_.out 0 15 (bb 12 1) ?_
      refine pv HT_.out 1 16 (bb 12 3) ?_
      refine pv HT_.out 2 17 (bb 12 7) ?_
      refine pv HT_.out 3 18 (bb 12 15) ?_
      refine pv HT_.out 4 19 (bb 12 31) ?_
      refine pv HT_.out 5 20 (bb 12 63) ?_
      refine pv HT_.out 6 21 (bb 12 127) ?_
      refine pv HT_.out 7 22 (bb 12 255) ?_
      refine tv aA HT_.out HW_.out 8 23 (bb 12 511) ?_
      refine tv aA HT_.out HW_.out 9 24 (bb 12 1023) ?_
      refine one_ (i := 10) (N := some 25) (bb 12 2047) rfl rfl (Qcf HT_.out (by kernel_rfl)) (by decide) (fun K hK => ?_)
      refine gG Tryz.func122 #[.agg #[.int .i64 ((Qaa l1 dO).f0), .int .i64 ((Qaa l1 dO).f1)], .agg #[.int .i64 ((Qaa l0 cD).f0), .int .i64 ((Qaa l0 cD).f1)]] ?_
      with_reducible refine (Qa6.calls ((Qaa l1 dO).f0) ((Qaa l1 dO).f1) ((Qaa l0 cD).f0) ((Qaa l0 cD).f1) t332 _ A13.out).mono ?_
      rintro e w15 ⟨rfl, hb⟩
      refine ⟨_, rfl, ?_⟩
      replace cN := kB cN hb
      replace cU := kB cU hb
      replace HB := sB HB hb
      (try clear hb)
      (try clear hb2)
      (try clear hk)
      (try clear hi)
      refine hK.out _ _ ⟨bc cU 0, bc cU 1, (cl HB hw331_0), (cl HB hw331_1)⟩ (fun aA => ?_)
      clear hK K
      refine Qbz (a' := ?_) ?_ ?_
      rotate_left
      ·show Act.put _ (some 25) _ = _
       simp only [Act.put, sL1, sL2, sL3, Qbo, Qbp]
       rfl
      refine pv HT_.out 11 26 (bb 12 4095) ?_
      refine Qch (Qcm HT_.out (by kernel_rfl)) ?_
      try go_wp2
      go_meet
      case rel => exact ⟨_, (t332), eR, H', ⟨by have := HK1.out; have := HK2.out; first | omega | exact Nat.le_refl _⟩, ⟨bU cN.out⟩, ⟨bU cU.out⟩, ⟨BU HB.out⟩⟩
     case rest =>
      clear HC10
      obtain ⟨kq, x26_9, rfl, HA, HJ9, cN, cU, HB⟩ := hcut
      cases kq with
      | zero => exact absurd HA.out (by simp [Qab.j2])
      | succ kj9 =>
       have H := HA.out
       clear HA
       simp only [Qab.j2] at H
       by_cases c17 : x26_9 = true
       ·subst c17
        rw [if_pos rfl] at H
        have H' := As0 H
        clear H
        go_wp2
        go_roundg kj9
        case measure => have := HK1.out; have := HK2.out; have := HJ9.out; omega
        case rel => exact ⟨(wrap64 (dO + 1)), eR, H', ⟨by have := HK1.out; have := HK2.out; have := HJ9.out; omega⟩, ⟨bU cN.out⟩, ⟨bU cU.out⟩, ⟨BU HB.out⟩⟩
       replace c17 := Bool.eq_false_iff.mpr c17
       subst c17
       rw [if_neg bF] at H
       have HC18 := As0 H
       clear H
       go_upto_region 7 with (fail)
       go_cut [40] (fun v40 wc => ∃ (kq : Nat) (x40_17 : Bool), v40 = .bool x40_17 ∧ Qbf (Qab.j3 kq l1 dO l0 (l0.length : Int) cD x40_17 ((Qaa l0 cD).f0) ((Qaa l0 cD).f1) = some (r1, r2, r3)) ∧ Qbf (kq ≤ kj9) ∧ Qbf (wc.heap[gb328]? = some (.cells #[.int .i64 fI, .int .i64 fH] 47 (0, 0))) ∧ Qbf (wc.heap[gb330]? = some (.cells #[.int .i64 ((Qaa l0 cD).f0), .int .i64 ((Qaa l0 cD).f1)] 47 (0, 0))) ∧ Qbf (Below w.heap.size w wc))
       case first =>
        have H := HC18.out
        clear HC18
        by_cases c19 : dO = (l1.length : Int)
        ·rw [if_pos c19] at H
         have c19b0 : (dO == (l1.length : Int)) = true := beq_iff_eq.mpr c19
         have c19b1 : (dO != (l1.length : Int)) = false := bne_eq_false_iff_eq.mpr c19
         clear c19
         (first | rw [c19b0] | (simp only [Qbo, Qbp]; rw [c19b0]) | skip)
         have H' := As0 H
         clear H
         try go_wp2
         replace cN := As0 (Qbm cN.out)
         replace cU := As0 (Qbm cU.out)
         replace HB := As0 (bd1 HB.out)
         refine Qb1 (n := 12) (S := fun w' => True) (ds := []) (bb 12 0) (by kernel_rfl) rfl rfl trivial (fun aA => ?_); refine Qb8 Qab.tab7 Qab.bits7 (fun HT_ HW_ => ?_)
         generalize wc.drew = w20 at cN cU HB aA ⊢
         refine pv HT_.out 0 29 (bb 12 1) ?_
         refine pv HT_.out 1 30 (bb 12 3) ?_
         refine pv HT_.out 2 31 (bb 12 7) ?_
         refine pv HT_.out 3 32 (bb 12 15) ?_
         refine pv HT_.out 4 33 (bb 12 31) ?_
         refine py HT_.out 5 34 (bb 12 63) ?_
         refine py HT_.out 6 35 (bb 12 127) ?_
         refine py HT_.out 7 36 (bb 12 255) ?_
         refine py HT_.out 8 37 (bb 12 511) ?_
         refine py HT_.out 9 38 (bb 12 1023) ?_
         refine py HT_.out 10 39 (bb 12 2047) ?_
         refine pv HT_.out 11 40 (bb 12 4095) ?_
         refine Qch (Qcm HT_.out (by kernel_rfl)) ?_
         try go_wp2
         go_meet
         case rel => exact ⟨_, (true), eR, H', ⟨by have := HK1.out; have := HK2.out; have := HJ9.out; first | omega | exact Nat.le_refl _⟩, ⟨bU cN.out⟩, ⟨bU cU.out⟩, ⟨BU HB.out⟩⟩
        rw [if_neg c19] at H
        have c19b0 : (dO == (l1.length : Int)) = false := beq_eq_false_iff_ne.mpr c19
        have c19b1 : (dO != (l1.length : Int)) = true := bne_iff_ne.mpr c19
        (first | rw [c19b0] | (simp only [Qbo, Qbp]; rw [c19b0]) | skip)
        by_cases c21 : 0 ≤ dO
        rotate_left
        ·rw [if_neg c21] at H
         exact absurd H (by simp)
        rw [if_pos c21] at H
        have c21b0 := decide_eq_true c21
        clear c21
        by_cases c22 : dO < (l1.length : Int)
        rotate_left
        ·rw [if_neg c22] at H
         exact absurd H (by simp)
        rw [if_pos c22] at H
        have c22b0 := decide_eq_true c22
        clear c22
        have H' := As0 H
        clear H
        try go_wp2
        replace cN := As0 (Qbm cN.out)
        replace cU := As0 (Qbm cU.out)
        replace HB := As0 (bd1 HB.out)
        have p333 : 0 ≤ (dO : Int) := qR
        have q333 : dO < (l1.length : Int) := qR
        obtain ⟨ad333, e333, hx333_0, hx333_1⟩ := Qcc HR1.out dO p333 q333
        have hw333_1 := hx333_1
        have hw333_0 := hx333_0
        cases e333
        replace hx333_0 := cl HB hx333_0
        replace hx333_1 := cl HB hx333_1
        replace p333 := eq_true p333
        replace q333 := eq_true q333
        refine Qb1 (n := 12) (S := fun w' => w'.cell? ⟨gb330, 0, none⟩ = some (.int .i64 ((Qaa l0 cD).f0)) ∧ w'.cell? ⟨gb330, 1, none⟩ = some (.int .i64 ((Qaa l0 cD).f1)) ∧ w'.cell? (ad333.add ((dO).toNat * 2)) = some (.int .i64 ((Qaa l1 dO).f0)) ∧ w'.cell? ⟨(ad333.add ((dO).toNat * 2)).block, (ad333.add ((dO).toNat * 2)).off + 1, none⟩ = some (.int .i64 ((Qaa l1 dO).f1))) (ds := []) (bb 12 0) (by kernel_rfl) rfl rfl ⟨bc cU 0, bc cU 1, (cl HB hw333_0), (cl HB hw333_1)⟩ (fun aA => ?_); refine Qb8 Qab.tab7 Qab.bits7 (fun HT_ HW_ => ?_)
        generalize wc.drew = w23 at cN cU HB hx333_0 hx333_1 aA ⊢
        refine pv HT_.out 0 29 (bb 12 1) ?_
        refine pv HT_.out 1 30 (bb 12 3) ?_
        refine pv HT_.out 2 31 (bb 12 7) ?_
        refine pv HT_.out 3 32 (bb 12 15) ?_
        refine pv HT_.out 4 33 (bb 12 31) ?_
        refine pv HT_.out 5 34 (bb 12 63) ?_
        refine pv HT_.out 6 35 (bb 12 127) ?_
        refine pv HT_.out 7 36 (bb 12 255) ?_
        refine tv aA HT_.out HW_.out 8 37 (bb 12 511) ?_
        refine tv aA HT_.out HW_.out 9 38 (bb 12 1023) ?_
        refine pv HT_.out 10 39 (bb 12 2047) ?_
        refine pv HT_.out 11 40 (bb 12 4095) ?_
        refine Qch (Qcm HT_.out (by kernel_rfl)) ?_
        try go_wp2
        go_meet
        case rel => exact ⟨_, ((!(((Qaa l1 dO).f0) == ((Qaa l0 cD).f0)) || (!(((Qaa l1 dO).f1) == ((Qaa l0 cD).f1))))), eR, H', ⟨by have := HK1.out; have := HK2.out; have := HJ9.out; first | omega | exact Nat.le_refl _⟩, ⟨bU cN.out⟩, ⟨bU cU.out⟩, ⟨BU HB.out⟩⟩
       case rest =>
        clear HC18
        obtain ⟨kq, x40_17, rfl, HA, HJ17, cN, cU, HB⟩ := hcut
        cases kq with
        | zero => exact absurd HA.out (by simp [Qab.j3])
        | succ kj17 =>
         have H := HA.out
         clear HA
         simp only [Qab.j3] at H
         by_cases c24 : x40_17 = true
         rotate_left
         ·replace c24 := Bool.eq_false_iff.mpr c24
          subst c24
          rw [if_neg bF] at H
          have H' := As0 H
          clear H
          go_wp2
          go_roundg kj17
          case measure => have := HK1.out; have := HK2.out; have := HJ9.out; have := HJ17.out; omega
          case rel => exact ⟨(dO), (wrap64 (cD + 1)), (fI), (fH), eR, eR, H', ⟨by have := HK1.out; have := HK2.out; have := HJ9.out; have := HJ17.out; omega⟩, ⟨bU cN.out⟩, ⟨BU HB.out⟩⟩
         subst c24
         rw [if_pos rfl] at H
         simp only [Option.some.injEq, Prod.mk.injEq] at H
         obtain ⟨rfl, rfl, rfl⟩ := H
         have q26_ := cN2 cU.out
         have q27_ := cN2 cN.out
         go_wp2
         refine bodyPost_ret (Qcu rfl _ _ gb328 47 #[.int .i64 ((Qaa l0 cD).f0), .int .i64 ((Qaa l0 cD).f1)] (0, 0) _ rfl (kV cN) Tryz.underlying47 rfl (by kernel_rfl)) rfl ?_
         exact ⟨oR, BU HB.out⟩
def machine_others_1.f (k : Nat) (a0_0 a0_1 a0_2 a0_3 a0_4 a0_5 a0_6 a1 a2 : Int) : Option (Int) := (source_Instr.f k a0_0 a0_1 a0_2 a0_3 a0_4 a1).bind fun t122 => (some t122)
theorem machine_others_1.calls (k : Nat) (a0_0 a0_1 a0_2 a0_3 a0_4 a0_5 a0_6 a1 a2 r : Int) (w : World) (h : machine_others_1.f k a0_0 a0_1 a0_2 a0_3 a0_4 a0_5 a0_6 a1 a2 = some r) :
 Calls Tryz.prog 195 #[.agg #[.int .i64 a0_0, .int .i64 a0_1, .int .i64 a0_2, .int .i64 a0_3, .int .i64 a0_4, .int .i64 a0_5, .int .i64 a0_6], .int .i64 a1, .int .i64 a2] w fun e w' => e = .returned (.int .i64 r) ∧ Below w.heap.size w w' := by
 have hu59 := Tryz.underlying59
 have hu41 := Tryz.underlying41
 have HB := As0 (Below.refl w.heap.size w)
 have H : ((source_Instr.f k a0_0 a0_1 a0_2 a0_3 a0_4 a1).bind fun t122 => (some t122)) = some r := h
 clear h
 replace H := Option.bind_eq_some_iff.mp H
 obtain ⟨t122, A40, H⟩ := H
 have A4 := As0 A40
 clear A40
 obtain rfl := Option.some.inj H
 go_enter Tryz.func195, Tryz.ntmps195
 go_wp2_with (first | ((with_reducible refine gD 3 ?_); refine bY HB.out ?_; intro gb121 w5 hg hb K121 GW121 HB; clear hb hg; have q6_ := cN7 K121.out) | ((with_reducible refine Qbk (f := 148) rfl ?_); refine gL (some 19) Tryz.func148 #[.agg #[.int .i64 a0_0, .int .i64 a0_1, .int .i64 a0_2, .int .i64 a0_3, .int .i64 a0_4], .int .i64 a1] ?_; (with_reducible refine (source_Instr.calls k a0_0 a0_1 a0_2 a0_3 a0_4 a1 t122 _ A4.out).mono ?_); rintro e w7 ⟨rfl, hb⟩; refine ⟨_, rfl, ?_⟩; replace K121 := kB K121 hb; replace HB := sB HB hb; (try clear hb)))
 go_ret
 exact ⟨oR, BU HB.out⟩
def machine_others_2.f (a0_0 a0_1 a0_2 a0_3 a0_4 a0_5 a0_6 : Int) : Option (Bool) := if a0_5 = 0 then (some (a0_6 == 0)) else (some false)
theorem machine_others_2.calls (a0_0 a0_1 a0_2 a0_3 a0_4 a0_5 a0_6 : Int) (r : Bool) (w : World) (h : machine_others_2.f a0_0 a0_1 a0_2 a0_3 a0_4 a0_5 a0_6 = some r) :
 Calls Tryz.prog 196 #[.agg #[.int .i64 a0_0, .int .i64 a0_1, .int .i64 a0_2, .int .i64 a0_3, .int .i64 a0_4, .int .i64 a0_5, .int .i64 a0_6]] w fun e w' => e = .returned (.bool r) ∧ Below w.heap.size w w' := by
 have hu59 := Tryz.underlying59
 have HB := As0 (Below.refl w.heap.size w)
 have H : (if a0_5 = 0 then (some (a0_6 == 0)) else (some false)) = some r := h
 clear h
 by_cases c2 : a0_5 = 0
 rotate_left
 ·rw [if_neg c2] at H
  have c2b0 : (a0_5 == 0) = false := beq_eq_false_iff_ne.mpr c2
  have c2b1 : (a0_5 != 0) = true := bne_iff_ne.mpr c2
  obtain rfl := Option.some.inj H
  go_enter Tryz.func196, Tryz.ntmps196
  go_wp2_with (first | ((with_reducible refine gD 1 ?_); refine bY HB.out ?_; intro gb123 w5 hg hb K123 GW123 HB; clear hb hg; have q6_ := cN7 K123.out))
  go_ret
  exact ⟨oR, BU HB.out⟩
 rw [if_pos c2] at H
 have c2b0 : (a0_5 == 0) = true := beq_iff_eq.mpr c2
 have c2b1 : (a0_5 != 0) = false := bne_eq_false_iff_eq.mpr c2
 clear c2
 obtain rfl := Option.some.inj H
 go_enter Tryz.func196, Tryz.ntmps196
 go_wp2_with (first | ((with_reducible refine gD 1 ?_); refine bY HB.out ?_; intro gb123 w3 hg hb K123 GW123 HB; clear hb hg; have q4_ := cN7 K123.out))
 go_ret
 exact ⟨oR, BU HB.out⟩
mutual
def Qaz.j0 : Nat → Int → Int → Bool → Int → Int → Int → Int → Int → Int → Int → Option (Int)
 | 0, _, _, _, _, _, _, _, _, _, _ => none
 | k + 1, x1, x2, x7, x128000, x128001, x128002, x128003, x128004, x128005, x128006 => if x7 = true then (Qaz.j1 k true) else ((Qbb.f x128005 x1 x2).bind fun t130 => (if t130 = true then ((Qbb.f x128006 x1 x2).bind fun t131 => (Qaz.j1 k (!t131))) else (Qaz.j1 k true)))
def Qaz.j1 : Nat → Bool → Option (Int)
 | 0, _ => none
 | k + 1, x32 => if x32 = true then (some 10) else (some 0)
end
def Qaz.f (k : Nat) (a0_0 a0_1 a0_2 a0_3 a0_4 a0_5 a0_6 a1 a2 : Int) : Option (Int) := (Qaw.f a0_5).bind fun t128 => (if t128 = true then ((Qaw.f a0_6).bind fun t129 => (Qaz.j0 k a1 a2 t129 a0_0 a0_1 a0_2 a0_3 a0_4 a0_5 a0_6)) else (Qaz.j0 k a1 a2 false a0_0 a0_1 a0_2 a0_3 a0_4 a0_5 a0_6))
theorem Qaz.calls (k : Nat) (a0_0 a0_1 a0_2 a0_3 a0_4 a0_5 a0_6 a1 a2 r : Int) (w : World) (h : Qaz.f k a0_0 a0_1 a0_2 a0_3 a0_4 a0_5 a0_6 a1 a2 = some r) :
 Calls Tryz.prog 197 #[.agg #[.int .i64 a0_0, .int .i64 a0_1, .int .i64 a0_2, .int .i64 a0_3, .int .i64 a0_4, .int .i64 a0_5, .int .i64 a0_6], .int .i64 a1, .int .i64 a2] w fun e w' => e = .returned (.int .i64 r) ∧ Below w.heap.size w w' := by
 have hu59 := Tryz.underlying59
 have HB := As0 (Below.refl w.heap.size w)
 have H : ((Qaw.f a0_5).bind fun t128 => (if t128 = true then ((Qaw.f a0_6).bind fun t129 => (Qaz.j0 k a1 a2 t129 a0_0 a0_1 a0_2 a0_3 a0_4 a0_5 a0_6)) else (Qaz.j0 k a1 a2 false a0_0 a0_1 a0_2 a0_3 a0_4 a0_5 a0_6))) = some r := h
 clear h
 have C4 := As0 H
 clear H
 go_enter Tryz.func197, Tryz.ntmps197
 go_upto_region 1 with (first | ((with_reducible refine gD 3 ?_); refine bY HB.out ?_; intro gb127 w5 hg hb K127 GW127 HB; clear hb hg))
 (try simp only [Act.put, sL1, sL2, sL3])
 go_cut [7] (fun v7 wc => ∃ (kq : Nat) (x7_3 : Bool), v7 = .bool x7_3 ∧ Qbf (Qaz.j0 kq a1 a2 x7_3 a0_0 a0_1 a0_2 a0_3 a0_4 a0_5 a0_6 = some r) ∧ Qbf (kq ≤ k) ∧ Qbf (wc.heap[gb127]? = some (.cells #[.int .i64 a0_0, .int .i64 a0_1, .int .i64 a0_2, .int .i64 a0_3, .int .i64 a0_4, .int .i64 a0_5, .int .i64 a0_6] 59 (0, 0))) ∧ Qbf (Below w.heap.size w wc))
 case first =>
  have H := C4.out
  clear C4
  replace H := Option.bind_eq_some_iff.mp H
  obtain ⟨t128, A60, H⟩ := H
  have A6 := As0 A60
  clear A60
  by_cases c7 : t128 = true
  rotate_left
  ·replace c7 := Bool.eq_false_iff.mpr c7
   subst c7
   rw [if_neg bF] at H
   have H' := As0 H
   clear H
   have q10_ := cN7 K127.out
   go_wp2_with (first | ((with_reducible refine Qbk (f := 135) rfl ?_); refine gL (some 10) Tryz.func135 #[.int .i64 a0_5] ?_; (with_reducible refine (Qaw.calls a0_5 false _ A6.out).mono ?_); rintro e w' ⟨rfl, ⟨nd, rfl⟩⟩; refine ⟨_, rfl, ?_⟩))
   go_meet
   case rel => exact ⟨_, (false), eR, H', ⟨by first | omega | exact Nat.le_refl _⟩, ⟨bU K127.out⟩, ⟨BU HB.out⟩⟩
  subst c7
  rw [if_pos rfl] at H
  replace H := Option.bind_eq_some_iff.mp H
  obtain ⟨t129, A80, H⟩ := H
  have A8 := As0 A80
  clear A80
  have H' := As0 H
  clear H
  have q9_ := cN7 K127.out
  go_wp2_with (first | ((with_reducible refine Qbk (f := 135) rfl ?_); refine gL (some 10) Tryz.func135 #[.int .i64 a0_5] ?_; (with_reducible refine (Qaw.calls a0_5 true _ A6.out).mono ?_); rintro e w' ⟨rfl, ⟨nd, rfl⟩⟩; refine ⟨_, rfl, ?_⟩) | (go_at_call 135; (with_reducible refine (Qaw.calls a0_6 t129 _ A8.out).mono ?_); rintro e w' ⟨rfl, ⟨nd, rfl⟩⟩))
  go_meet
  case rel => exact ⟨_, (t129), eR, H', ⟨by first | omega | exact Nat.le_refl _⟩, ⟨bU K127.out⟩, ⟨BU HB.out⟩⟩
 case rest =>
  clear C4
  obtain ⟨kq, x7_3, rfl, HA, HJ3, K127, HB⟩ := hcut
  cases kq with
  | zero => exact absurd HA.out (by simp [Qaz.j0])
  | succ kj3 =>
   have H := HA.out
   clear HA
   simp only [Qaz.j0] at H
   have C11 := As0 H
   clear H
   go_upto_region 2 with (fail)
   go_cut [32] (fun v32 wc => ∃ (kq : Nat) (x32_10 : Bool), v32 = .bool x32_10 ∧ Qbf (Qaz.j1 kq x32_10 = some r) ∧ Qbf (kq ≤ kj3) ∧ Qbf (wc.heap[gb127]? = some (.cells #[.int .i64 a0_0, .int .i64 a0_1, .int .i64 a0_2, .int .i64 a0_3, .int .i64 a0_4, .int .i64 a0_5, .int .i64 a0_6] 59 (0, 0))) ∧ Qbf (Below w.heap.size w wc))
   case first =>
    have H := C11.out
    clear C11
    by_cases c12 : x7_3 = true
    ·subst c12
     rw [if_pos rfl] at H
     have H' := As0 H
     clear H
     go_wp2
     go_meet
     case rel => exact ⟨_, (true), eR, H', ⟨by have := HJ3.out; first | omega | exact Nat.le_refl _⟩, ⟨bU K127.out⟩, ⟨BU HB.out⟩⟩
    replace c12 := Bool.eq_false_iff.mpr c12
    subst c12
    rw [if_neg bF] at H
    replace H := Option.bind_eq_some_iff.mp H
    obtain ⟨t130, A130, H⟩ := H
    have A13 := As0 A130
    clear A130
    by_cases c14 : t130 = true
    rotate_left
    ·replace c14 := Bool.eq_false_iff.mpr c14
     subst c14
     rw [if_neg bF] at H
     have H' := As0 H
     clear H
     have q17_ := cN7 K127.out
     go_wp2_with (first | (go_at_call 138; (with_reducible refine (Qbb.calls a0_5 a1 a2 false _ A13.out).mono ?_); rintro e w' ⟨rfl, ⟨nd, rfl⟩⟩))
     go_meet
     case rel => exact ⟨_, (true), eR, H', ⟨by have := HJ3.out; first | omega | exact Nat.le_refl _⟩, ⟨bU K127.out⟩, ⟨BU HB.out⟩⟩
    subst c14
    rw [if_pos rfl] at H
    replace H := Option.bind_eq_some_iff.mp H
    obtain ⟨t131, A150, H⟩ := H
    have A15 := As0 A150
    clear A150
    have H' := As0 H
    clear H
    have q16_ := cN7 K127.out
    go_wp2_with (first | (go_at_call 138; (with_reducible refine (Qbb.calls a0_5 a1 a2 true _ A13.out).mono ?_); rintro e w' ⟨rfl, ⟨nd, rfl⟩⟩) | (go_at_call 138; (with_reducible refine (Qbb.calls a0_6 a1 a2 t131 _ A15.out).mono ?_); rintro e w' ⟨rfl, ⟨nd, rfl⟩⟩))
    go_meet
    case rel => exact ⟨_, (!t131), eR, H', ⟨by have := HJ3.out; first | omega | exact Nat.le_refl _⟩, ⟨bU K127.out⟩, ⟨BU HB.out⟩⟩
   case rest =>
    clear C11
    obtain ⟨kq, x32_10, rfl, HA, HJ10, K127, HB⟩ := hcut
    cases kq with
    | zero => exact absurd HA.out (by simp [Qaz.j1])
    | succ kj10 =>
     have H := HA.out
     clear HA
     simp only [Qaz.j1] at H
     by_cases c18 : x32_10 = true
     ·subst c18
      rw [if_pos rfl] at H
      obtain rfl := Option.some.inj H
      go_wp2
      go_ret
      exact ⟨oR, BU HB.out⟩
     replace c18 := Bool.eq_false_iff.mpr c18
     subst c18
     rw [if_neg bF] at H
     obtain rfl := Option.some.inj H
     go_wp2
     go_ret
     exact ⟨oR, BU HB.out⟩
def machine_moves_2.f (a0_0 a0_1 a0_2 a0_3 a0_4 a0_5 a0_6 : Int) : Option (Bool) := if a0_1 = 0 then (if a0_2 = 0 then (if a0_3 = 0 then (some (a0_4 == 0)) else (some false)) else (some false)) else (some false)
theorem machine_moves_2.calls (a0_0 a0_1 a0_2 a0_3 a0_4 a0_5 a0_6 : Int) (r : Bool) (w : World) (h : machine_moves_2.f a0_0 a0_1 a0_2 a0_3 a0_4 a0_5 a0_6 = some r) :
 Calls Tryz.prog 198 #[.agg #[.int .i64 a0_0, .int .i64 a0_1, .int .i64 a0_2, .int .i64 a0_3, .int .i64 a0_4, .int .i64 a0_5, .int .i64 a0_6]] w fun e w' => e = .returned (.bool r) ∧ Below w.heap.size w w' := by
 have hu59 := Tryz.underlying59
 have HB := As0 (Below.refl w.heap.size w)
 have H : (if a0_1 = 0 then (if a0_2 = 0 then (if a0_3 = 0 then (some (a0_4 == 0)) else (some false)) else (some false)) else (some false)) = some r := h
 clear h
 by_cases c2 : a0_1 = 0
 rotate_left
 ·rw [if_neg c2] at H
  have c2b0 : (a0_1 == 0) = false := beq_eq_false_iff_ne.mpr c2
  have c2b1 : (a0_1 != 0) = true := bne_iff_ne.mpr c2
  obtain rfl := Option.some.inj H
  go_enter Tryz.func198, Tryz.ntmps198
  go_wp2_with (first | ((with_reducible refine gD 1 ?_); refine bY HB.out ?_; intro gb132 w11 hg hb K132 GW132 HB; clear hb hg; have q12_ := cN7 K132.out))
  go_ret
  exact ⟨oR, BU HB.out⟩
 rw [if_pos c2] at H
 have c2b0 : (a0_1 == 0) = true := beq_iff_eq.mpr c2
 have c2b1 : (a0_1 != 0) = false := bne_eq_false_iff_eq.mpr c2
 clear c2
 by_cases c3 : a0_2 = 0
 rotate_left
 ·rw [if_neg c3] at H
  have c3b0 : (a0_2 == 0) = false := beq_eq_false_iff_ne.mpr c3
  have c3b1 : (a0_2 != 0) = true := bne_iff_ne.mpr c3
  obtain rfl := Option.some.inj H
  go_enter Tryz.func198, Tryz.ntmps198
  go_wp2_with (first | ((with_reducible refine gD 1 ?_); refine bY HB.out ?_; intro gb132 w9 hg hb K132 GW132 HB; clear hb hg; have q10_ := cN7 K132.out))
  go_ret
  exact ⟨oR, BU HB.out⟩
 rw [if_pos c3] at H
 have c3b0 : (a0_2 == 0) = true := beq_iff_eq.mpr c3
 have c3b1 : (a0_2 != 0) = false := bne_eq_false_iff_eq.mpr c3
 clear c3
 by_cases c4 : a0_3 = 0
 rotate_left
 ·rw [if_neg c4] at H
  have c4b0 : (a0_3 == 0) = false := beq_eq_false_iff_ne.mpr c4
  have c4b1 : (a0_3 != 0) = true := bne_iff_ne.mpr c4
  obtain rfl := Option.some.inj H
  go_enter Tryz.func198, Tryz.ntmps198
  go_wp2_with (first | ((with_reducible refine gD 1 ?_); refine bY HB.out ?_; intro gb132 w7 hg hb K132 GW132 HB; clear hb hg; have q8_ := cN7 K132.out))
  go_ret
  exact ⟨oR, BU HB.out⟩
 rw [if_pos c4] at H
 have c4b0 : (a0_3 == 0) = true := beq_iff_eq.mpr c4
 have c4b1 : (a0_3 != 0) = false := bne_eq_false_iff_eq.mpr c4
 clear c4
 obtain rfl := Option.some.inj H
 go_enter Tryz.func198, Tryz.ntmps198
 go_wp2_with (first | ((with_reducible refine gD 1 ?_); refine bY HB.out ?_; intro gb132 w5 hg hb K132 GW132 HB; clear hb hg; have q6_ := cN7 K132.out))
 go_ret
 exact ⟨oR, BU HB.out⟩
theorem others_calls (w : World) : Calls Tryz.prog 172 #[] w fun e w' => e = .returned (.agg #[.func (.func 195) #[] #[], .func (.func 196) #[] #[]]) ∧ Below w.heap.size w w' := by
 have hu239 := Tryz.underlying239
 go_enter Tryz.func172, Tryz.ntmps172
 go_wp2_with ((with_reducible refine Qcb (.store 239 (.tmp 0) (.tmp 1)) rfl ?_); go_loud (refine Qae rfl rfl 239 _ _ rfl w.heap.size #[.func (.func 195) #[] #[], .func (.func 196) #[] #[]] rfl rfl 239 #[.nilFunc, .nilFunc] (Qc9 w _) (by kernel_rfl) rfl (by kernel_rfl) ?_); intro w1 hg ho hB)
 exact bodyPost_ret (results_cell_row rfl _ _ w.heap.size 239 #[.func (.func 195) #[] #[], .func (.func 196) #[] #[]] (0, 0) _ rfl hg hu239 rfl (by kernel_rfl)) rfl ⟨rfl, hB _ _ (Nat.le_refl _) (Qby (Below.refl _ _) _)⟩
theorem moves_calls (w : World) : Calls Tryz.prog 173 #[] w fun e w' => e = .returned (.agg #[.func (.func 197) #[] #[], .func (.func 198) #[] #[]]) ∧ Below w.heap.size w w' := by
 have hu239 := Tryz.underlying239
 go_enter Tryz.func173, Tryz.ntmps173
 go_wp2_with ((with_reducible refine Qcb (.store 239 (.tmp 0) (.tmp 1)) rfl ?_); go_loud (refine Qae rfl rfl 239 _ _ rfl w.heap.size #[.func (.func 197) #[] #[], .func (.func 198) #[] #[]] rfl rfl 239 #[.nilFunc, .nilFunc] (Qc9 w _) (by kernel_rfl) rfl (by kernel_rfl) ?_); intro w1 hg ho hB)
 exact bodyPost_ret (results_cell_row rfl _ _ w.heap.size 239 #[.func (.func 197) #[] #[], .func (.func 198) #[] #[]] (0, 0) _ rfl hg hu239 rfl (by kernel_rfl)) rfl ⟨rfl, hB _ _ (Nat.le_refl _) (Qby (Below.refl _ _) _)⟩
theorem Qeu (a0 a1 a2 a3 a4 a5 a6 r s : Int) (t z : Bool) (y v : Int) (w : World) (hop : a0 ≠ 18)
    (h133 : ∀ W, Calls Tryz.prog 133 #[.int .i64 a0] W fun e w' => e = .returned (.bool t) ∧ Qbr W w')
    (h1 : t = true → ∀ W, Calls Tryz.prog 195 #[.agg #[.int .i64 a0, .int .i64 a1, .int .i64 a2, .int .i64 a3, .int .i64 a4, .int .i64 a5, .int .i64 a6], .int .i64 r, .int .i64 s] W fun e w' => e = .returned (.int .i64 y) ∧ Below W.heap.size W w')
    (h2 : t = true → y = 0 → ∀ W, Calls Tryz.prog 196 #[.agg #[.int .i64 a0, .int .i64 a1, .int .i64 a2, .int .i64 a3, .int .i64 a4, .int .i64 a5, .int .i64 a6]] W fun e w' => e = .returned (.bool z) ∧ Below W.heap.size W w')
    (hv : v = if t = true then (if y = 0 then (if z = true then 0 else 12) else y) else 8) :
    Calls Tryz.prog 150 #[.agg #[.int .i64 a0, .int .i64 a1, .int .i64 a2, .int .i64 a3, .int .i64 a4, .int .i64 a5, .int .i64 a6], .int .i64 r, .int .i64 s] w fun e w' => e = .returned (.int .i64 v) ∧ Below w.heap.size w w' := by
 have hu59 := Tryz.underlying59
 have hu239 := Tryz.underlying239
 have HB := As0 (Below.refl w.heap.size w)
 have hop1 : (a0 == 18) = false := beq_eq_false_iff_ne.mpr hop
 go_enter Tryz.func150, Tryz.ntmps150
 go_wp2_with (first
  | ((with_reducible refine gD 3 ?_); refine bX ?_; intro g hg w1 aC hb; have X := As0 aC; replace HB := sB HB hb; (obtain ⟨z0, z1, z2, z3, z4, z5, z6, y0, y1, y2, y3, y4, y5, y6⟩ := cN7 X.out); clear hb aC hg)
  | (go_at_call 133; refine (h133 _).mono ?_; rintro e w2 ⟨rfl, ⟨m, rfl⟩⟩)
  | (go_at_call 172; refine (others_calls _).mono ?_; rintro e w3 ⟨rfl, hb⟩; (clear z0 z1 z2 z3 z4 z5 z6 y0 y1 y2 y3 y4 y5 y6); (replace X := kB X hb); (replace HB := sB HB hb); (obtain ⟨z0, z1, z2, z3, z4, z5, z6, y0, y1, y2, y3, y4, y5, y6⟩ := cN7 X.out); clear hb)
  | ((with_reducible refine Qcb (.store 239 (.tmp 7) (.tmp 13)) rfl ?_); go_loud (refine Qae rfl rfl 239 _ _ rfl w3.heap.size #[.func (.func 195) #[] #[], .func (.func 196) #[] #[]] rfl rfl 239 #[.nilFunc, .nilFunc] (Qc9 w3 _) (by kernel_rfl) rfl (by kernel_rfl) ?_); intro w4 hg ho hB; have lt := Qbs X.out; replace X := As0 ((ho g (Nat.ne_of_lt lt)).trans (Qbq X.out _)); replace HB := As0 (hB _ _ (Qbi HB.out) (Qby HB.out _)); have Y := As0 hg; clear hg ho hB; (clear z0 z1 z2 z3 z4 z5 z6 y0 y1 y2 y3 y4 y5 y6); (obtain ⟨z0, z1, z2, z3, z4, z5, z6, y0, y1, y2, y3, y4, y5, y6⟩ := cN7 X.out); (obtain ⟨e0, e1, f0, f1⟩ := cN2 Y.out))
  | (go_at_call 195; refine (h1 (by simpa using (by assumption : (!t) = false)) _).mono ?_; rintro e w7 ⟨rfl, hb⟩; (clear z0 z1 z2 z3 z4 z5 z6 y0 y1 y2 y3 y4 y5 y6); (replace X := kB X hb); (replace HB := sB HB hb); (obtain ⟨z0, z1, z2, z3, z4, z5, z6, y0, y1, y2, y3, y4, y5, y6⟩ := cN7 X.out); (replace Y := kB Y hb); (clear e0 e1 f0 f1); (obtain ⟨e0, e1, f0, f1⟩ := cN2 Y.out); clear hb)
  | (go_at_call 196; refine (h2 (by simpa using (by assumption : (!t) = false)) (by simpa using (by assumption : (y != 0) = false)) _).mono ?_; rintro e w8 ⟨rfl, hb⟩; (clear z0 z1 z2 z3 z4 z5 z6 y0 y1 y2 y3 y4 y5 y6); (replace X := kB X hb); (replace HB := sB HB hb); clear hb))
 all_goals (go_ret; exact ⟨by simp_all, BU HB.out⟩)
theorem instr_move (a1 a2 a3 a4 a5 a6 r s : Int) (t z : Bool) (y v : Int) (w : World)
    (h133 : ∀ W, Calls Tryz.prog 133 #[.int .i64 18] W fun e w' => e = .returned (.bool t) ∧ Qbr W w')
    (h1 : t = true → ∀ W, Calls Tryz.prog 197 #[.agg #[.int .i64 18, .int .i64 a1, .int .i64 a2, .int .i64 a3, .int .i64 a4, .int .i64 a5, .int .i64 a6], .int .i64 r, .int .i64 s] W fun e w' => e = .returned (.int .i64 y) ∧ Below W.heap.size W w')
    (h2 : t = true → y = 0 → ∀ W, Calls Tryz.prog 198 #[.agg #[.int .i64 18, .int .i64 a1, .int .i64 a2, .int .i64 a3, .int .i64 a4, .int .i64 a5, .int .i64 a6]] W fun e w' => e = .returned (.bool z) ∧ Below W.heap.size W w')
    (hv : v = if t = true then (if y = 0 then (if z = true then 0 else 12) else y) else 8) :
    Calls Tryz.prog 150 #[.agg #[.int .i64 18, .int .i64 a1, .int .i64 a2, .int .i64 a3, .int .i64 a4, .int .i64 a5, .int .i64 a6], .int .i64 r, .int .i64 s] w fun e w' => e = .returned (.int .i64 v) ∧ Below w.heap.size w w' := by
 have hu59 := Tryz.underlying59
 have hu239 := Tryz.underlying239
 have HB := As0 (Below.refl w.heap.size w)
 go_enter Tryz.func150, Tryz.ntmps150
 go_wp2_with (first
  | ((with_reducible refine gD 3 ?_); refine bX ?_; intro g hg w1 aC hb; have X := As0 aC; replace HB := sB HB hb; (obtain ⟨z0, z1, z2, z3, z4, z5, z6, y0, y1, y2, y3, y4, y5, y6⟩ := cN7 X.out); clear hb aC hg)
  | (go_at_call 133; refine (h133 _).mono ?_; rintro e w2 ⟨rfl, ⟨m, rfl⟩⟩)
  | (go_at_call 172; refine (others_calls _).mono ?_; rintro e w3 ⟨rfl, hb⟩; (clear z0 z1 z2 z3 z4 z5 z6 y0 y1 y2 y3 y4 y5 y6); (replace X := kB X hb); (replace HB := sB HB hb); (obtain ⟨z0, z1, z2, z3, z4, z5, z6, y0, y1, y2, y3, y4, y5, y6⟩ := cN7 X.out); clear hb; have HB3 := HB)
  | ((with_reducible refine Qcb (.store 239 (.tmp 7) (.tmp 13)) rfl ?_); go_loud (refine Qae rfl rfl 239 _ _ rfl w3.heap.size #[.func (.func 195) #[] #[], .func (.func 196) #[] #[]] rfl rfl 239 #[.nilFunc, .nilFunc] (Qc9 w3 _) (by kernel_rfl) rfl (by kernel_rfl) ?_); intro w4 hg ho hB; have lt := Qbs X.out; replace X := As0 ((ho g (Nat.ne_of_lt lt)).trans (Qbq X.out _)); replace HB := As0 (hB _ _ (Qbi HB.out) (Qby HB.out _)); have Y := As0 hg; clear hg ho hB; (clear z0 z1 z2 z3 z4 z5 z6 y0 y1 y2 y3 y4 y5 y6); (obtain ⟨z0, z1, z2, z3, z4, z5, z6, y0, y1, y2, y3, y4, y5, y6⟩ := cN7 X.out); (obtain ⟨e0, e1, f0, f1⟩ := cN2 Y.out))
  | (go_at_call 173; refine (moves_calls _).mono ?_; rintro e w5 ⟨rfl, hb⟩; (clear z0 z1 z2 z3 z4 z5 z6 y0 y1 y2 y3 y4 y5 y6); (replace X := kB X hb); (replace HB := sB HB hb); (obtain ⟨z0, z1, z2, z3, z4, z5, z6, y0, y1, y2, y3, y4, y5, y6⟩ := cN7 X.out); (replace Y := kB Y hb); (clear e0 e1 f0 f1); (obtain ⟨e0, e1, f0, f1⟩ := cN2 Y.out); clear hb)
  | ((with_reducible refine Qcb (.store 239 (.tmp 7) (.tmp 17)) rfl ?_); go_loud (refine Qae rfl rfl 239 _ _ rfl w3.heap.size #[.func (.func 197) #[] #[], .func (.func 198) #[] #[]] rfl rfl 239 #[.func (.func 195) #[] #[], .func (.func 196) #[] #[]] Y.out (by kernel_rfl) rfl (by kernel_rfl) ?_); intro w6 hg ho hB; replace X := As0 ((ho g (Nat.ne_of_lt lt)).trans X.out); have B3 := Qbi HB3.out; replace HB := As0 (hB _ _ B3 HB.out); replace Y := As0 hg; clear hg ho hB; (clear z0 z1 z2 z3 z4 z5 z6 y0 y1 y2 y3 y4 y5 y6); (obtain ⟨z0, z1, z2, z3, z4, z5, z6, y0, y1, y2, y3, y4, y5, y6⟩ := cN7 X.out); (clear e0 e1 f0 f1); (obtain ⟨e0, e1, f0, f1⟩ := cN2 Y.out))
  | (go_at_call 197; refine (h1 (by simpa using (by assumption : (!t) = false)) _).mono ?_; rintro e w7 ⟨rfl, hb⟩; (clear z0 z1 z2 z3 z4 z5 z6 y0 y1 y2 y3 y4 y5 y6); (replace X := kB X hb); (replace HB := sB HB hb); (obtain ⟨z0, z1, z2, z3, z4, z5, z6, y0, y1, y2, y3, y4, y5, y6⟩ := cN7 X.out); (replace Y := kB Y hb); (clear e0 e1 f0 f1); (obtain ⟨e0, e1, f0, f1⟩ := cN2 Y.out); clear hb)
  | (go_at_call 198; refine (h2 (by simpa using (by assumption : (!t) = false)) (by simpa using (by assumption : (y != 0) = false)) _).mono ?_; rintro e w8 ⟨rfl, hb⟩; (clear z0 z1 z2 z3 z4 z5 z6 y0 y1 y2 y3 y4 y5 y6); (replace X := kB X hb); (replace HB := sB HB hb); clear hb))
 all_goals (go_ret; exact ⟨by simp_all, BU HB.out⟩)
def machine_Instr.f (k : Nat) (a0 a1 a2 a3 a4 a5 a6 r s : Int) : Option Int :=
 (opcode_Machine.f a0).bind fun t => if t = true then (if a0 = 18 then ((Qaz.f k a0 a1 a2 a3 a4 a5 a6 r s).bind fun y => if y = 0 then ((machine_moves_2.f a0 a1 a2 a3 a4 a5 a6).bind fun z => some (if z = true then 0 else 12)) else some y)
  else ((machine_others_1.f k a0 a1 a2 a3 a4 a5 a6 r s).bind fun y => if y = 0 then ((machine_others_2.f a0 a1 a2 a3 a4 a5 a6).bind fun z => some (if z = true then 0 else 12)) else some y)) else some 8
theorem machine_Instr.calls (k : Nat) (a0 a1 a2 a3 a4 a5 a6 r s v : Int) (w : World) (h : machine_Instr.f k a0 a1 a2 a3 a4 a5 a6 r s = some v) :
    Calls Tryz.prog 150 #[.agg #[.int .i64 a0, .int .i64 a1, .int .i64 a2, .int .i64 a3, .int .i64 a4, .int .i64 a5, .int .i64 a6], .int .i64 r, .int .i64 s] w fun e w' => e = .returned (.int .i64 v) ∧ Below w.heap.size w w' := by
 unfold machine_Instr.f at h
 obtain ⟨t, ht, h⟩ := Option.bind_eq_some_iff.mp h
 have h133 := fun W => opcode_Machine.calls a0 t W ht
 by_cases hop : a0 = 18
 rotate_left
 ·cases t with
  | false => exact Qeu a0 a1 a2 a3 a4 a5 a6 r s false true 0 v w hop h133 (fun h => by cases h) (fun h => by cases h) (by simpa using h.symm)
  | true =>
   rw [if_pos rfl, if_neg hop] at h
   obtain ⟨y, hy, h⟩ := Option.bind_eq_some_iff.mp h
   by_cases y0 : y = 0
   rotate_left
   ·rw [if_neg y0] at h
    exact Qeu a0 a1 a2 a3 a4 a5 a6 r s true true y v w hop h133 (fun _ W => machine_others_1.calls k a0 a1 a2 a3 a4 a5 a6 r s y W hy) (fun _ q => absurd q y0) (by simpa [y0] using h.symm)
   rw [if_pos y0] at h
   obtain ⟨z, hz, h⟩ := Option.bind_eq_some_iff.mp h
   exact Qeu a0 a1 a2 a3 a4 a5 a6 r s true z y v w hop h133 (fun _ W => machine_others_1.calls k a0 a1 a2 a3 a4 a5 a6 r s y W hy) (fun _ _ W => machine_others_2.calls a0 a1 a2 a3 a4 a5 a6 z W hz) (by simpa [y0] using h.symm)
 subst hop
 cases t with
 | false => exact instr_move a1 a2 a3 a4 a5 a6 r s false true 0 v w h133 (fun h => by cases h) (fun h => by cases h) (by simpa using h.symm)
 | true =>
  rw [if_pos rfl, if_pos rfl] at h
  obtain ⟨y, hy, h⟩ := Option.bind_eq_some_iff.mp h
  by_cases y0 : y = 0
  rotate_left
  ·rw [if_neg y0] at h
   exact instr_move a1 a2 a3 a4 a5 a6 r s true true y v w h133 (fun _ W => Qaz.calls k 18 a1 a2 a3 a4 a5 a6 r s y W hy) (fun _ q => absurd q y0) (by simpa [y0] using h.symm)
  rw [if_pos y0] at h
  obtain ⟨z, hz, h⟩ := Option.bind_eq_some_iff.mp h
  exact instr_move a1 a2 a3 a4 a5 a6 r s true z y v w h133 (fun _ W => Qaz.calls k 18 a1 a2 a3 a4 a5 a6 r s y W hy) (fun _ _ W => machine_moves_2.calls 18 a1 a2 a3 a4 a5 a6 z W hz) (by simpa [y0] using h.symm)
end Go.Proofs.YtchpkjgibloleaaGreat.Z
