/-
  alu.operation, by hand: what it answers at each opcode. No condition.
-/
import Derived.Test.YtgkmagfajalnhaaProg
import Derived.WalkKit
import Derived.KernelRfl
import Derived.WalkLawsBesides
import Derived.Laws.EntriesVeiled
import Derived.Laws.Tables
import Derived.Laws.CopyOwn
import Derived.Outline
import Derived.Test.YtgkmagfajalnhaaTW
namespace Go.Proofs.Ytgkmagfajalnhaa.X
open Go.RowKit Go.Proofs.YtgkmagfajalnhaaW.PrintWords Go.Proofs.YtgkmagfajalnhaaW.PrintLast Go.Proofs.YtgkmagfajalnhaaW.PrintMore
set_option linter.unusedVariables false
set_option linter.unusedSimpArgs false

def opZero : Array Value := #[.nilFunc, .bool false, .nilFunc, .bool false, .nilFunc, .bool false, .nilFunc, .bool false, .nilFunc, .bool false, .nilFunc, .bool false, .nilFunc, .bool false, .nilFunc, .bool false, .nilFunc, .bool false, .nilFunc, .bool false, .nilFunc, .bool false, .nilFunc, .bool false, .nilFunc, .bool false, .nilFunc, .bool false, .nilFunc, .bool false, .nilFunc, .bool false, .nilFunc, .bool false]
/-- The table. -/
def opTab : Array Value := #[Value.nilFunc, Value.bool false, Value.nilFunc, Value.bool false, Value.nilFunc, Value.bool false, Value.nilFunc, Value.bool false, Value.nilFunc, Value.bool false, .func (.func 74) #[] #[], .bool false, .func (.func 75) #[] #[], .bool false, .func (.func 76) #[] #[], .bool false, .func (.func 77) #[] #[], .bool true, .func (.func 78) #[] #[], .bool true, .func (.func 79) #[] #[], .bool false, .func (.func 80) #[] #[], .bool false, .func (.func 81) #[] #[], .bool false, .func (.func 82) #[] #[], .bool false, .func (.func 83) #[] #[], .bool false, .func (.func 84) #[] #[], .bool false, .func (.func 86) #[] #[], .bool false]

section
variable {P : Program} {ops : Array Oper} {rest : List Oper} {o : Oper} {a : Act} {Q : Exit → Act → World → Prop}
/-- A whole row stored into a block: the block as told, all else as it was. -/
theorem store_row_event {w : World} (hgd : o.guard = none) (hN : o.dst = none) (ty : TypeId) (x y : Operand) (ho : o.op = .store ty x y)
    (g : Nat) (cells : Array Value) (hx : a.eval x = .pointer (some ⟨g, 0, none⟩)) (hy : a.eval y = .agg cells)
    (t : TypeId) (old : Array Value) (hg : w.heap[g]? = some (.cells old t (0, 0))) (hi : (P.info? ty).map (·.size) = some cells.size)
    (hold : old.size = cells.size) (h1 : cells.all (·.oneCell') = true)
    (h : ∀ w1 : World, w1.heap[g]? = some (.cells cells t (0, 0)) → (∀ i, i ≠ g → w1.heap[i]? = w.heap[i]?) → (∀ B w0, B ≤ g → Below B w0 w → Below B w0 w1) → wpList P ops Q rest a w1) : wpList P ops Q (o :: rest) a w := by
  refine wpList_store_row hgd ty x y ho g cells hx hy t old hg hi hold h1 ?_
  rw [hN]
  exact h _ (setRow_heap w g old cells t (0, 0) hg) (fun i hi => setRow_other w g i cells hi) (fun B w0 hb hB => below_setRow hB hb cells)
end

set_option maxRecDepth 100000 in
set_option maxHeartbeats 1000000 in
theorem operation5 (w : World) : Calls Try.prog 58 #[.int .i64 5] w fun e w' => e = .returned (.tuple #[.agg #[.func (.func 74) #[] #[], .bool false], .bool true]) ∧ Below w.heap.size w w' := by
  have hu := Try.underlying88
  have hu2 := Try.underlying113
  go_enter Try.func58, Try.ntmps58
  go_wp2_with (first | ((with_reducible refine gate_dst (N := 17) rfl ?_); refine wpList_build rfl 113 _ rfl ?b1 ?_; (case b1 => kernel_rfl)) | ((with_reducible refine gate_ (.store 113 (.tmp 4) (.tmp 17)) rfl ?_); go_loud (refine store_row_event rfl rfl 113 _ _ rfl (w.heap.size + 1) opTab rfl ?cy 113 opZero ?cg ?ci ?co ?c1 ?_); go_loud (case cg => exact by simpa [opZero] using heap_alloc_new (w.alloc _) (.cells opZero 113 (0, 0))); (case cy => kernel_rfl); (case ci => kernel_rfl); (case co => kernel_rfl); (case c1 => kernel_rfl); intro w1 hg hoth hbel; have HB := Aside0.mk (hbel w.heap.size w (by omega) (below_alloc (below_alloc (Below.refl _ _) _) _)); have h1 : w1.cell? ⟨w.heap.size + 1, 10, none⟩ = some (.func (.func 74) #[] #[]) := (blk_cell hg 10).trans (by kernel_rfl); have h2 : w1.cell? ⟨w.heap.size + 1, 11, none⟩ = some (.bool false) := (blk_cell hg 11).trans (by kernel_rfl); have hc := hoth w.heap.size (by omega); have HC := Aside0.mk (show w1.heap[w.heap.size]? = some (.cells #[.nilFunc, .bool false] 88 (0, 0)) from hc.trans (blk_alloc (blk_new w _) _)); have h3 : w1.cell? ⟨w.heap.size, 0, none⟩ = some .nilFunc := (blk_cell HC.out 0).trans rfl; have h4 : w1.cell? ⟨w.heap.size, 1, none⟩ = some (.bool false) := (blk_cell HC.out 1).trans rfl; have h5 := blk_frozen HC.out 0; have h6 := blk_frozen HC.out 1; clear hg hoth hbel hc))
  exact bodyPost_ret (v := .tuple #[.agg #[.func (.func 74) #[] #[], .bool false], .bool true]) (by simp [results, Try.results58, go_sem, h3, h4]) rfl ⟨rfl, below_set (below_set HB.out (Nat.le_refl _)) (Nat.le_refl _)⟩

set_option maxRecDepth 100000 in
set_option maxHeartbeats 1000000 in
theorem operation6 (w : World) : Calls Try.prog 58 #[.int .i64 6] w fun e w' => e = .returned (.tuple #[.agg #[.func (.func 75) #[] #[], .bool false], .bool true]) ∧ Below w.heap.size w w' := by
  have hu := Try.underlying88
  have hu2 := Try.underlying113
  go_enter Try.func58, Try.ntmps58
  go_wp2_with (first | ((with_reducible refine gate_dst (N := 17) rfl ?_); refine wpList_build rfl 113 _ rfl ?b1 ?_; (case b1 => kernel_rfl)) | ((with_reducible refine gate_ (.store 113 (.tmp 4) (.tmp 17)) rfl ?_); go_loud (refine store_row_event rfl rfl 113 _ _ rfl (w.heap.size + 1) opTab rfl ?cy 113 opZero ?cg ?ci ?co ?c1 ?_); go_loud (case cg => exact by simpa [opZero] using heap_alloc_new (w.alloc _) (.cells opZero 113 (0, 0))); (case cy => kernel_rfl); (case ci => kernel_rfl); (case co => kernel_rfl); (case c1 => kernel_rfl); intro w1 hg hoth hbel; have HB := Aside0.mk (hbel w.heap.size w (by omega) (below_alloc (below_alloc (Below.refl _ _) _) _)); have h1 : w1.cell? ⟨w.heap.size + 1, 12, none⟩ = some (.func (.func 75) #[] #[]) := (blk_cell hg 12).trans (by kernel_rfl); have h2 : w1.cell? ⟨w.heap.size + 1, 13, none⟩ = some (.bool false) := (blk_cell hg 13).trans (by kernel_rfl); have hc := hoth w.heap.size (by omega); have HC := Aside0.mk (show w1.heap[w.heap.size]? = some (.cells #[.nilFunc, .bool false] 88 (0, 0)) from hc.trans (blk_alloc (blk_new w _) _)); have h3 : w1.cell? ⟨w.heap.size, 0, none⟩ = some .nilFunc := (blk_cell HC.out 0).trans rfl; have h4 : w1.cell? ⟨w.heap.size, 1, none⟩ = some (.bool false) := (blk_cell HC.out 1).trans rfl; have h5 := blk_frozen HC.out 0; have h6 := blk_frozen HC.out 1; clear hg hoth hbel hc))
  exact bodyPost_ret (v := .tuple #[.agg #[.func (.func 75) #[] #[], .bool false], .bool true]) (by simp [results, Try.results58, go_sem, h3, h4]) rfl ⟨rfl, below_set (below_set HB.out (Nat.le_refl _)) (Nat.le_refl _)⟩

set_option maxRecDepth 100000 in
set_option maxHeartbeats 1000000 in
theorem operation7 (w : World) : Calls Try.prog 58 #[.int .i64 7] w fun e w' => e = .returned (.tuple #[.agg #[.func (.func 76) #[] #[], .bool false], .bool true]) ∧ Below w.heap.size w w' := by
  have hu := Try.underlying88
  have hu2 := Try.underlying113
  go_enter Try.func58, Try.ntmps58
  go_wp2_with (first | ((with_reducible refine gate_dst (N := 17) rfl ?_); refine wpList_build rfl 113 _ rfl ?b1 ?_; (case b1 => kernel_rfl)) | ((with_reducible refine gate_ (.store 113 (.tmp 4) (.tmp 17)) rfl ?_); go_loud (refine store_row_event rfl rfl 113 _ _ rfl (w.heap.size + 1) opTab rfl ?cy 113 opZero ?cg ?ci ?co ?c1 ?_); go_loud (case cg => exact by simpa [opZero] using heap_alloc_new (w.alloc _) (.cells opZero 113 (0, 0))); (case cy => kernel_rfl); (case ci => kernel_rfl); (case co => kernel_rfl); (case c1 => kernel_rfl); intro w1 hg hoth hbel; have HB := Aside0.mk (hbel w.heap.size w (by omega) (below_alloc (below_alloc (Below.refl _ _) _) _)); have h1 : w1.cell? ⟨w.heap.size + 1, 14, none⟩ = some (.func (.func 76) #[] #[]) := (blk_cell hg 14).trans (by kernel_rfl); have h2 : w1.cell? ⟨w.heap.size + 1, 15, none⟩ = some (.bool false) := (blk_cell hg 15).trans (by kernel_rfl); have hc := hoth w.heap.size (by omega); have HC := Aside0.mk (show w1.heap[w.heap.size]? = some (.cells #[.nilFunc, .bool false] 88 (0, 0)) from hc.trans (blk_alloc (blk_new w _) _)); have h3 : w1.cell? ⟨w.heap.size, 0, none⟩ = some .nilFunc := (blk_cell HC.out 0).trans rfl; have h4 : w1.cell? ⟨w.heap.size, 1, none⟩ = some (.bool false) := (blk_cell HC.out 1).trans rfl; have h5 := blk_frozen HC.out 0; have h6 := blk_frozen HC.out 1; clear hg hoth hbel hc))
  exact bodyPost_ret (v := .tuple #[.agg #[.func (.func 76) #[] #[], .bool false], .bool true]) (by simp [results, Try.results58, go_sem, h3, h4]) rfl ⟨rfl, below_set (below_set HB.out (Nat.le_refl _)) (Nat.le_refl _)⟩

set_option maxRecDepth 100000 in
set_option maxHeartbeats 1000000 in
theorem operation8 (w : World) : Calls Try.prog 58 #[.int .i64 8] w fun e w' => e = .returned (.tuple #[.agg #[.func (.func 77) #[] #[], .bool true], .bool true]) ∧ Below w.heap.size w w' := by
  have hu := Try.underlying88
  have hu2 := Try.underlying113
  go_enter Try.func58, Try.ntmps58
  go_wp2_with (first | ((with_reducible refine gate_dst (N := 17) rfl ?_); refine wpList_build rfl 113 _ rfl ?b1 ?_; (case b1 => kernel_rfl)) | ((with_reducible refine gate_ (.store 113 (.tmp 4) (.tmp 17)) rfl ?_); go_loud (refine store_row_event rfl rfl 113 _ _ rfl (w.heap.size + 1) opTab rfl ?cy 113 opZero ?cg ?ci ?co ?c1 ?_); go_loud (case cg => exact by simpa [opZero] using heap_alloc_new (w.alloc _) (.cells opZero 113 (0, 0))); (case cy => kernel_rfl); (case ci => kernel_rfl); (case co => kernel_rfl); (case c1 => kernel_rfl); intro w1 hg hoth hbel; have HB := Aside0.mk (hbel w.heap.size w (by omega) (below_alloc (below_alloc (Below.refl _ _) _) _)); have h1 : w1.cell? ⟨w.heap.size + 1, 16, none⟩ = some (.func (.func 77) #[] #[]) := (blk_cell hg 16).trans (by kernel_rfl); have h2 : w1.cell? ⟨w.heap.size + 1, 17, none⟩ = some (.bool true) := (blk_cell hg 17).trans (by kernel_rfl); have hc := hoth w.heap.size (by omega); have HC := Aside0.mk (show w1.heap[w.heap.size]? = some (.cells #[.nilFunc, .bool false] 88 (0, 0)) from hc.trans (blk_alloc (blk_new w _) _)); have h3 : w1.cell? ⟨w.heap.size, 0, none⟩ = some .nilFunc := (blk_cell HC.out 0).trans rfl; have h4 : w1.cell? ⟨w.heap.size, 1, none⟩ = some (.bool false) := (blk_cell HC.out 1).trans rfl; have h5 := blk_frozen HC.out 0; have h6 := blk_frozen HC.out 1; clear hg hoth hbel hc))
  exact bodyPost_ret (v := .tuple #[.agg #[.func (.func 77) #[] #[], .bool true], .bool true]) (by simp [results, Try.results58, go_sem, h3, h4]) rfl ⟨rfl, below_set (below_set HB.out (Nat.le_refl _)) (Nat.le_refl _)⟩

set_option maxRecDepth 100000 in
set_option maxHeartbeats 1000000 in
theorem operation9 (w : World) : Calls Try.prog 58 #[.int .i64 9] w fun e w' => e = .returned (.tuple #[.agg #[.func (.func 78) #[] #[], .bool true], .bool true]) ∧ Below w.heap.size w w' := by
  have hu := Try.underlying88
  have hu2 := Try.underlying113
  go_enter Try.func58, Try.ntmps58
  go_wp2_with (first | ((with_reducible refine gate_dst (N := 17) rfl ?_); refine wpList_build rfl 113 _ rfl ?b1 ?_; (case b1 => kernel_rfl)) | ((with_reducible refine gate_ (.store 113 (.tmp 4) (.tmp 17)) rfl ?_); go_loud (refine store_row_event rfl rfl 113 _ _ rfl (w.heap.size + 1) opTab rfl ?cy 113 opZero ?cg ?ci ?co ?c1 ?_); go_loud (case cg => exact by simpa [opZero] using heap_alloc_new (w.alloc _) (.cells opZero 113 (0, 0))); (case cy => kernel_rfl); (case ci => kernel_rfl); (case co => kernel_rfl); (case c1 => kernel_rfl); intro w1 hg hoth hbel; have HB := Aside0.mk (hbel w.heap.size w (by omega) (below_alloc (below_alloc (Below.refl _ _) _) _)); have h1 : w1.cell? ⟨w.heap.size + 1, 18, none⟩ = some (.func (.func 78) #[] #[]) := (blk_cell hg 18).trans (by kernel_rfl); have h2 : w1.cell? ⟨w.heap.size + 1, 19, none⟩ = some (.bool true) := (blk_cell hg 19).trans (by kernel_rfl); have hc := hoth w.heap.size (by omega); have HC := Aside0.mk (show w1.heap[w.heap.size]? = some (.cells #[.nilFunc, .bool false] 88 (0, 0)) from hc.trans (blk_alloc (blk_new w _) _)); have h3 : w1.cell? ⟨w.heap.size, 0, none⟩ = some .nilFunc := (blk_cell HC.out 0).trans rfl; have h4 : w1.cell? ⟨w.heap.size, 1, none⟩ = some (.bool false) := (blk_cell HC.out 1).trans rfl; have h5 := blk_frozen HC.out 0; have h6 := blk_frozen HC.out 1; clear hg hoth hbel hc))
  exact bodyPost_ret (v := .tuple #[.agg #[.func (.func 78) #[] #[], .bool true], .bool true]) (by simp [results, Try.results58, go_sem, h3, h4]) rfl ⟨rfl, below_set (below_set HB.out (Nat.le_refl _)) (Nat.le_refl _)⟩

set_option maxRecDepth 100000 in
set_option maxHeartbeats 1000000 in
theorem operation10 (w : World) : Calls Try.prog 58 #[.int .i64 10] w fun e w' => e = .returned (.tuple #[.agg #[.func (.func 79) #[] #[], .bool false], .bool true]) ∧ Below w.heap.size w w' := by
  have hu := Try.underlying88
  have hu2 := Try.underlying113
  go_enter Try.func58, Try.ntmps58
  go_wp2_with (first | ((with_reducible refine gate_dst (N := 17) rfl ?_); refine wpList_build rfl 113 _ rfl ?b1 ?_; (case b1 => kernel_rfl)) | ((with_reducible refine gate_ (.store 113 (.tmp 4) (.tmp 17)) rfl ?_); go_loud (refine store_row_event rfl rfl 113 _ _ rfl (w.heap.size + 1) opTab rfl ?cy 113 opZero ?cg ?ci ?co ?c1 ?_); go_loud (case cg => exact by simpa [opZero] using heap_alloc_new (w.alloc _) (.cells opZero 113 (0, 0))); (case cy => kernel_rfl); (case ci => kernel_rfl); (case co => kernel_rfl); (case c1 => kernel_rfl); intro w1 hg hoth hbel; have HB := Aside0.mk (hbel w.heap.size w (by omega) (below_alloc (below_alloc (Below.refl _ _) _) _)); have h1 : w1.cell? ⟨w.heap.size + 1, 20, none⟩ = some (.func (.func 79) #[] #[]) := (blk_cell hg 20).trans (by kernel_rfl); have h2 : w1.cell? ⟨w.heap.size + 1, 21, none⟩ = some (.bool false) := (blk_cell hg 21).trans (by kernel_rfl); have hc := hoth w.heap.size (by omega); have HC := Aside0.mk (show w1.heap[w.heap.size]? = some (.cells #[.nilFunc, .bool false] 88 (0, 0)) from hc.trans (blk_alloc (blk_new w _) _)); have h3 : w1.cell? ⟨w.heap.size, 0, none⟩ = some .nilFunc := (blk_cell HC.out 0).trans rfl; have h4 : w1.cell? ⟨w.heap.size, 1, none⟩ = some (.bool false) := (blk_cell HC.out 1).trans rfl; have h5 := blk_frozen HC.out 0; have h6 := blk_frozen HC.out 1; clear hg hoth hbel hc))
  exact bodyPost_ret (v := .tuple #[.agg #[.func (.func 79) #[] #[], .bool false], .bool true]) (by simp [results, Try.results58, go_sem, h3, h4]) rfl ⟨rfl, below_set (below_set HB.out (Nat.le_refl _)) (Nat.le_refl _)⟩

set_option maxRecDepth 100000 in
set_option maxHeartbeats 1000000 in
theorem operation11 (w : World) : Calls Try.prog 58 #[.int .i64 11] w fun e w' => e = .returned (.tuple #[.agg #[.func (.func 80) #[] #[], .bool false], .bool true]) ∧ Below w.heap.size w w' := by
  have hu := Try.underlying88
  have hu2 := Try.underlying113
  go_enter Try.func58, Try.ntmps58
  go_wp2_with (first | ((with_reducible refine gate_dst (N := 17) rfl ?_); refine wpList_build rfl 113 _ rfl ?b1 ?_; (case b1 => kernel_rfl)) | ((with_reducible refine gate_ (.store 113 (.tmp 4) (.tmp 17)) rfl ?_); go_loud (refine store_row_event rfl rfl 113 _ _ rfl (w.heap.size + 1) opTab rfl ?cy 113 opZero ?cg ?ci ?co ?c1 ?_); go_loud (case cg => exact by simpa [opZero] using heap_alloc_new (w.alloc _) (.cells opZero 113 (0, 0))); (case cy => kernel_rfl); (case ci => kernel_rfl); (case co => kernel_rfl); (case c1 => kernel_rfl); intro w1 hg hoth hbel; have HB := Aside0.mk (hbel w.heap.size w (by omega) (below_alloc (below_alloc (Below.refl _ _) _) _)); have h1 : w1.cell? ⟨w.heap.size + 1, 22, none⟩ = some (.func (.func 80) #[] #[]) := (blk_cell hg 22).trans (by kernel_rfl); have h2 : w1.cell? ⟨w.heap.size + 1, 23, none⟩ = some (.bool false) := (blk_cell hg 23).trans (by kernel_rfl); have hc := hoth w.heap.size (by omega); have HC := Aside0.mk (show w1.heap[w.heap.size]? = some (.cells #[.nilFunc, .bool false] 88 (0, 0)) from hc.trans (blk_alloc (blk_new w _) _)); have h3 : w1.cell? ⟨w.heap.size, 0, none⟩ = some .nilFunc := (blk_cell HC.out 0).trans rfl; have h4 : w1.cell? ⟨w.heap.size, 1, none⟩ = some (.bool false) := (blk_cell HC.out 1).trans rfl; have h5 := blk_frozen HC.out 0; have h6 := blk_frozen HC.out 1; clear hg hoth hbel hc))
  exact bodyPost_ret (v := .tuple #[.agg #[.func (.func 80) #[] #[], .bool false], .bool true]) (by simp [results, Try.results58, go_sem, h3, h4]) rfl ⟨rfl, below_set (below_set HB.out (Nat.le_refl _)) (Nat.le_refl _)⟩

set_option maxRecDepth 100000 in
set_option maxHeartbeats 1000000 in
theorem operation12 (w : World) : Calls Try.prog 58 #[.int .i64 12] w fun e w' => e = .returned (.tuple #[.agg #[.func (.func 81) #[] #[], .bool false], .bool true]) ∧ Below w.heap.size w w' := by
  have hu := Try.underlying88
  have hu2 := Try.underlying113
  go_enter Try.func58, Try.ntmps58
  go_wp2_with (first | ((with_reducible refine gate_dst (N := 17) rfl ?_); refine wpList_build rfl 113 _ rfl ?b1 ?_; (case b1 => kernel_rfl)) | ((with_reducible refine gate_ (.store 113 (.tmp 4) (.tmp 17)) rfl ?_); go_loud (refine store_row_event rfl rfl 113 _ _ rfl (w.heap.size + 1) opTab rfl ?cy 113 opZero ?cg ?ci ?co ?c1 ?_); go_loud (case cg => exact by simpa [opZero] using heap_alloc_new (w.alloc _) (.cells opZero 113 (0, 0))); (case cy => kernel_rfl); (case ci => kernel_rfl); (case co => kernel_rfl); (case c1 => kernel_rfl); intro w1 hg hoth hbel; have HB := Aside0.mk (hbel w.heap.size w (by omega) (below_alloc (below_alloc (Below.refl _ _) _) _)); have h1 : w1.cell? ⟨w.heap.size + 1, 24, none⟩ = some (.func (.func 81) #[] #[]) := (blk_cell hg 24).trans (by kernel_rfl); have h2 : w1.cell? ⟨w.heap.size + 1, 25, none⟩ = some (.bool false) := (blk_cell hg 25).trans (by kernel_rfl); have hc := hoth w.heap.size (by omega); have HC := Aside0.mk (show w1.heap[w.heap.size]? = some (.cells #[.nilFunc, .bool false] 88 (0, 0)) from hc.trans (blk_alloc (blk_new w _) _)); have h3 : w1.cell? ⟨w.heap.size, 0, none⟩ = some .nilFunc := (blk_cell HC.out 0).trans rfl; have h4 : w1.cell? ⟨w.heap.size, 1, none⟩ = some (.bool false) := (blk_cell HC.out 1).trans rfl; have h5 := blk_frozen HC.out 0; have h6 := blk_frozen HC.out 1; clear hg hoth hbel hc))
  exact bodyPost_ret (v := .tuple #[.agg #[.func (.func 81) #[] #[], .bool false], .bool true]) (by simp [results, Try.results58, go_sem, h3, h4]) rfl ⟨rfl, below_set (below_set HB.out (Nat.le_refl _)) (Nat.le_refl _)⟩

set_option maxRecDepth 100000 in
set_option maxHeartbeats 1000000 in
theorem operation13 (w : World) : Calls Try.prog 58 #[.int .i64 13] w fun e w' => e = .returned (.tuple #[.agg #[.func (.func 82) #[] #[], .bool false], .bool true]) ∧ Below w.heap.size w w' := by
  have hu := Try.underlying88
  have hu2 := Try.underlying113
  go_enter Try.func58, Try.ntmps58
  go_wp2_with (first | ((with_reducible refine gate_dst (N := 17) rfl ?_); refine wpList_build rfl 113 _ rfl ?b1 ?_; (case b1 => kernel_rfl)) | ((with_reducible refine gate_ (.store 113 (.tmp 4) (.tmp 17)) rfl ?_); go_loud (refine store_row_event rfl rfl 113 _ _ rfl (w.heap.size + 1) opTab rfl ?cy 113 opZero ?cg ?ci ?co ?c1 ?_); go_loud (case cg => exact by simpa [opZero] using heap_alloc_new (w.alloc _) (.cells opZero 113 (0, 0))); (case cy => kernel_rfl); (case ci => kernel_rfl); (case co => kernel_rfl); (case c1 => kernel_rfl); intro w1 hg hoth hbel; have HB := Aside0.mk (hbel w.heap.size w (by omega) (below_alloc (below_alloc (Below.refl _ _) _) _)); have h1 : w1.cell? ⟨w.heap.size + 1, 26, none⟩ = some (.func (.func 82) #[] #[]) := (blk_cell hg 26).trans (by kernel_rfl); have h2 : w1.cell? ⟨w.heap.size + 1, 27, none⟩ = some (.bool false) := (blk_cell hg 27).trans (by kernel_rfl); have hc := hoth w.heap.size (by omega); have HC := Aside0.mk (show w1.heap[w.heap.size]? = some (.cells #[.nilFunc, .bool false] 88 (0, 0)) from hc.trans (blk_alloc (blk_new w _) _)); have h3 : w1.cell? ⟨w.heap.size, 0, none⟩ = some .nilFunc := (blk_cell HC.out 0).trans rfl; have h4 : w1.cell? ⟨w.heap.size, 1, none⟩ = some (.bool false) := (blk_cell HC.out 1).trans rfl; have h5 := blk_frozen HC.out 0; have h6 := blk_frozen HC.out 1; clear hg hoth hbel hc))
  exact bodyPost_ret (v := .tuple #[.agg #[.func (.func 82) #[] #[], .bool false], .bool true]) (by simp [results, Try.results58, go_sem, h3, h4]) rfl ⟨rfl, below_set (below_set HB.out (Nat.le_refl _)) (Nat.le_refl _)⟩

set_option maxRecDepth 100000 in
set_option maxHeartbeats 1000000 in
theorem operation14 (w : World) : Calls Try.prog 58 #[.int .i64 14] w fun e w' => e = .returned (.tuple #[.agg #[.func (.func 83) #[] #[], .bool false], .bool true]) ∧ Below w.heap.size w w' := by
  have hu := Try.underlying88
  have hu2 := Try.underlying113
  go_enter Try.func58, Try.ntmps58
  go_wp2_with (first | ((with_reducible refine gate_dst (N := 17) rfl ?_); refine wpList_build rfl 113 _ rfl ?b1 ?_; (case b1 => kernel_rfl)) | ((with_reducible refine gate_ (.store 113 (.tmp 4) (.tmp 17)) rfl ?_); go_loud (refine store_row_event rfl rfl 113 _ _ rfl (w.heap.size + 1) opTab rfl ?cy 113 opZero ?cg ?ci ?co ?c1 ?_); go_loud (case cg => exact by simpa [opZero] using heap_alloc_new (w.alloc _) (.cells opZero 113 (0, 0))); (case cy => kernel_rfl); (case ci => kernel_rfl); (case co => kernel_rfl); (case c1 => kernel_rfl); intro w1 hg hoth hbel; have HB := Aside0.mk (hbel w.heap.size w (by omega) (below_alloc (below_alloc (Below.refl _ _) _) _)); have h1 : w1.cell? ⟨w.heap.size + 1, 28, none⟩ = some (.func (.func 83) #[] #[]) := (blk_cell hg 28).trans (by kernel_rfl); have h2 : w1.cell? ⟨w.heap.size + 1, 29, none⟩ = some (.bool false) := (blk_cell hg 29).trans (by kernel_rfl); have hc := hoth w.heap.size (by omega); have HC := Aside0.mk (show w1.heap[w.heap.size]? = some (.cells #[.nilFunc, .bool false] 88 (0, 0)) from hc.trans (blk_alloc (blk_new w _) _)); have h3 : w1.cell? ⟨w.heap.size, 0, none⟩ = some .nilFunc := (blk_cell HC.out 0).trans rfl; have h4 : w1.cell? ⟨w.heap.size, 1, none⟩ = some (.bool false) := (blk_cell HC.out 1).trans rfl; have h5 := blk_frozen HC.out 0; have h6 := blk_frozen HC.out 1; clear hg hoth hbel hc))
  exact bodyPost_ret (v := .tuple #[.agg #[.func (.func 83) #[] #[], .bool false], .bool true]) (by simp [results, Try.results58, go_sem, h3, h4]) rfl ⟨rfl, below_set (below_set HB.out (Nat.le_refl _)) (Nat.le_refl _)⟩

set_option maxRecDepth 100000 in
set_option maxHeartbeats 1000000 in
theorem operation15 (w : World) : Calls Try.prog 58 #[.int .i64 15] w fun e w' => e = .returned (.tuple #[.agg #[.func (.func 84) #[] #[], .bool false], .bool true]) ∧ Below w.heap.size w w' := by
  have hu := Try.underlying88
  have hu2 := Try.underlying113
  go_enter Try.func58, Try.ntmps58
  go_wp2_with (first | ((with_reducible refine gate_dst (N := 17) rfl ?_); refine wpList_build rfl 113 _ rfl ?b1 ?_; (case b1 => kernel_rfl)) | ((with_reducible refine gate_ (.store 113 (.tmp 4) (.tmp 17)) rfl ?_); go_loud (refine store_row_event rfl rfl 113 _ _ rfl (w.heap.size + 1) opTab rfl ?cy 113 opZero ?cg ?ci ?co ?c1 ?_); go_loud (case cg => exact by simpa [opZero] using heap_alloc_new (w.alloc _) (.cells opZero 113 (0, 0))); (case cy => kernel_rfl); (case ci => kernel_rfl); (case co => kernel_rfl); (case c1 => kernel_rfl); intro w1 hg hoth hbel; have HB := Aside0.mk (hbel w.heap.size w (by omega) (below_alloc (below_alloc (Below.refl _ _) _) _)); have h1 : w1.cell? ⟨w.heap.size + 1, 30, none⟩ = some (.func (.func 84) #[] #[]) := (blk_cell hg 30).trans (by kernel_rfl); have h2 : w1.cell? ⟨w.heap.size + 1, 31, none⟩ = some (.bool false) := (blk_cell hg 31).trans (by kernel_rfl); have hc := hoth w.heap.size (by omega); have HC := Aside0.mk (show w1.heap[w.heap.size]? = some (.cells #[.nilFunc, .bool false] 88 (0, 0)) from hc.trans (blk_alloc (blk_new w _) _)); have h3 : w1.cell? ⟨w.heap.size, 0, none⟩ = some .nilFunc := (blk_cell HC.out 0).trans rfl; have h4 : w1.cell? ⟨w.heap.size, 1, none⟩ = some (.bool false) := (blk_cell HC.out 1).trans rfl; have h5 := blk_frozen HC.out 0; have h6 := blk_frozen HC.out 1; clear hg hoth hbel hc))
  exact bodyPost_ret (v := .tuple #[.agg #[.func (.func 84) #[] #[], .bool false], .bool true]) (by simp [results, Try.results58, go_sem, h3, h4]) rfl ⟨rfl, below_set (below_set HB.out (Nat.le_refl _)) (Nat.le_refl _)⟩

set_option maxRecDepth 100000 in
set_option maxHeartbeats 1000000 in
theorem operation16 (w : World) : Calls Try.prog 58 #[.int .i64 16] w fun e w' => e = .returned (.tuple #[.agg #[.func (.func 86) #[] #[], .bool false], .bool true]) ∧ Below w.heap.size w w' := by
  have hu := Try.underlying88
  have hu2 := Try.underlying113
  go_enter Try.func58, Try.ntmps58
  go_wp2_with (first | ((with_reducible refine gate_dst (N := 17) rfl ?_); refine wpList_build rfl 113 _ rfl ?b1 ?_; (case b1 => kernel_rfl)) | ((with_reducible refine gate_ (.store 113 (.tmp 4) (.tmp 17)) rfl ?_); go_loud (refine store_row_event rfl rfl 113 _ _ rfl (w.heap.size + 1) opTab rfl ?cy 113 opZero ?cg ?ci ?co ?c1 ?_); go_loud (case cg => exact by simpa [opZero] using heap_alloc_new (w.alloc _) (.cells opZero 113 (0, 0))); (case cy => kernel_rfl); (case ci => kernel_rfl); (case co => kernel_rfl); (case c1 => kernel_rfl); intro w1 hg hoth hbel; have HB := Aside0.mk (hbel w.heap.size w (by omega) (below_alloc (below_alloc (Below.refl _ _) _) _)); have h1 : w1.cell? ⟨w.heap.size + 1, 32, none⟩ = some (.func (.func 86) #[] #[]) := (blk_cell hg 32).trans (by kernel_rfl); have h2 : w1.cell? ⟨w.heap.size + 1, 33, none⟩ = some (.bool false) := (blk_cell hg 33).trans (by kernel_rfl); have hc := hoth w.heap.size (by omega); have HC := Aside0.mk (show w1.heap[w.heap.size]? = some (.cells #[.nilFunc, .bool false] 88 (0, 0)) from hc.trans (blk_alloc (blk_new w _) _)); have h3 : w1.cell? ⟨w.heap.size, 0, none⟩ = some .nilFunc := (blk_cell HC.out 0).trans rfl; have h4 : w1.cell? ⟨w.heap.size, 1, none⟩ = some (.bool false) := (blk_cell HC.out 1).trans rfl; have h5 := blk_frozen HC.out 0; have h6 := blk_frozen HC.out 1; clear hg hoth hbel hc))
  exact bodyPost_ret (v := .tuple #[.agg #[.func (.func 86) #[] #[], .bool false], .bool true]) (by simp [results, Try.results58, go_sem, h3, h4]) rfl ⟨rfl, below_set (below_set HB.out (Nat.le_refl _)) (Nat.le_refl _)⟩

set_option maxRecDepth 100000 in
set_option maxHeartbeats 1000000 in
theorem operation_lo (n : Int) (w : World) (h : n < 5) : Calls Try.prog 58 #[.int .i64 n] w fun e w' => e = .returned (.tuple #[.agg #[.nilFunc, .bool false], .bool false]) ∧ Below w.heap.size w w' := by
  have hu := Try.underlying88
  have hu2 := Try.underlying113
  go_enter Try.func58, Try.ntmps58
  go_wp2_with (first | ((with_reducible refine gate_dst (N := 17) rfl ?_); refine wpList_build rfl 113 _ rfl ?b1 ?_; (case b1 => kernel_rfl)) | ((with_reducible refine gate_ (.store 113 (.tmp 4) (.tmp 17)) rfl ?_); go_loud (refine store_row_event rfl rfl 113 _ _ rfl (w.heap.size + 1) opTab rfl ?cy 113 opZero ?cg ?ci ?co ?c1 ?_); go_loud (case cg => exact by simpa [opZero] using heap_alloc_new (w.alloc _) (.cells opZero 113 (0, 0))); (case cy => kernel_rfl); (case ci => kernel_rfl); (case co => kernel_rfl); (case c1 => kernel_rfl); intro w1 hg hoth hbel; have HB := Aside0.mk (hbel w.heap.size w (by omega) (below_alloc (below_alloc (Below.refl _ _) _) _)); have hc := hoth w.heap.size (by omega); have HC := Aside0.mk (show w1.heap[w.heap.size]? = some (.cells #[.nilFunc, .bool false] 88 (0, 0)) from hc.trans (blk_alloc (blk_new w _) _)); have h3 : w1.cell? ⟨w.heap.size, 0, none⟩ = some .nilFunc := (blk_cell HC.out 0).trans rfl; have h4 : w1.cell? ⟨w.heap.size, 1, none⟩ = some (.bool false) := (blk_cell HC.out 1).trans rfl; have h5 := blk_frozen HC.out 0; have h6 := blk_frozen HC.out 1; clear hg hoth hbel hc))
  exact bodyPost_ret (v := .tuple #[.agg #[.nilFunc, .bool false], .bool false]) (by simp [results, Try.results58, go_sem, h3, h4]) rfl ⟨rfl, below_set (below_set HB.out (Nat.le_refl _)) (Nat.le_refl _)⟩

set_option maxRecDepth 100000 in
set_option maxHeartbeats 1000000 in
theorem operation_hi (n : Int) (w : World) (h0 : ¬ n < 5) (h : n ≥ 17) : Calls Try.prog 58 #[.int .i64 n] w fun e w' => e = .returned (.tuple #[.agg #[.nilFunc, .bool false], .bool false]) ∧ Below w.heap.size w w' := by
  have hu := Try.underlying88
  have hu2 := Try.underlying113
  go_enter Try.func58, Try.ntmps58
  go_wp2_with (first | ((with_reducible refine gate_dst (N := 17) rfl ?_); refine wpList_build rfl 113 _ rfl ?b1 ?_; (case b1 => kernel_rfl)) | ((with_reducible refine gate_ (.store 113 (.tmp 4) (.tmp 17)) rfl ?_); go_loud (refine store_row_event rfl rfl 113 _ _ rfl (w.heap.size + 1) opTab rfl ?cy 113 opZero ?cg ?ci ?co ?c1 ?_); go_loud (case cg => exact by simpa [opZero] using heap_alloc_new (w.alloc _) (.cells opZero 113 (0, 0))); (case cy => kernel_rfl); (case ci => kernel_rfl); (case co => kernel_rfl); (case c1 => kernel_rfl); intro w1 hg hoth hbel; have HB := Aside0.mk (hbel w.heap.size w (by omega) (below_alloc (below_alloc (Below.refl _ _) _) _)); have hc := hoth w.heap.size (by omega); have HC := Aside0.mk (show w1.heap[w.heap.size]? = some (.cells #[.nilFunc, .bool false] 88 (0, 0)) from hc.trans (blk_alloc (blk_new w _) _)); have h3 : w1.cell? ⟨w.heap.size, 0, none⟩ = some .nilFunc := (blk_cell HC.out 0).trans rfl; have h4 : w1.cell? ⟨w.heap.size, 1, none⟩ = some (.bool false) := (blk_cell HC.out 1).trans rfl; have h5 := blk_frozen HC.out 0; have h6 := blk_frozen HC.out 1; clear hg hoth hbel hc))
  exact bodyPost_ret (v := .tuple #[.agg #[.nilFunc, .bool false], .bool false]) (by simp [results, Try.results58, go_sem, h3, h4]) rfl ⟨rfl, below_set (below_set HB.out (Nat.le_refl _)) (Nat.le_refl _)⟩
end Go.Proofs.Ytgkmagfajalnhaa.X
