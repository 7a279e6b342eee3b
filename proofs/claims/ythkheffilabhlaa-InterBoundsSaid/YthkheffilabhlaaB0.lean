/-
  For InterBounds: inter.bounds: its array, an index into it.
-/
import Derived.Test.YthkheffilabhlaaA9
import Derived.Laws.Rows
import Derived.Great.BuildSlice
import Derived.Deep.DeepMust
set_option linter.unusedSimpArgs false
set_option linter.unusedVariables false
namespace Go.Proofs.Ythkheffilabhlaa
open Go.RowKit Go.Proofs.YthkheffilabhlaaW.PrintWords Go.Proofs.YthkheffilabhlaaW.PrintLast Go.Proofs.YthkheffilabhlaaW.PrintMore

def bArr : Array Value := #[.int .i64 0, .int .i64 0, .int .i64 12000, .int .i64 0, .int .i64 0, .int .i64 0, .int .i64 0, .int .i64 0, .int .i64 0, .int .i64 0, .int .i64 0, .int .i64 0, .int .i64 0, .int .i64 0, .int .i64 0, .int .i64 0, .int .i64 0, .int .i64 0, .int .i64 0, .int .i64 0, .int .i64 12000, .int .i64 0, .int .i64 0, .int .i64 0, .int .i64 0, .int .i64 0, .int .i64 0, .int .i64 0, .int .i64 0, .int .i64 0, .int .i64 0, .int .i64 0]
def zArr : Array Value := #[.int .i64 0, .int .i64 0, .int .i64 0, .int .i64 0, .int .i64 0, .int .i64 0, .int .i64 0, .int .i64 0, .int .i64 0, .int .i64 0, .int .i64 0, .int .i64 0, .int .i64 0, .int .i64 0, .int .i64 0, .int .i64 0, .int .i64 0, .int .i64 0, .int .i64 0, .int .i64 0, .int .i64 0, .int .i64 0, .int .i64 0, .int .i64 0, .int .i64 0, .int .i64 0, .int .i64 0, .int .i64 0, .int .i64 0, .int .i64 0, .int .i64 0, .int .i64 0]
theorem below_setRow {w W : World} {g : Nat} (h : Below w.heap.size w W) (hg : w.heap.size ≤ g) (cs : Array Value) : Below w.heap.size w (W.setRow g cs) :=
  ⟨h.os, h.tape, h.output, by rw [setRow_size]; exact h.size, fun i hi => (setRow_other W g i cs (by omega)).trans (h.block i hi)⟩
set_option maxRecDepth 100000 in
set_option maxHeartbeats 1000000 in
theorem bounds_calls (w : World) : Calls Try.prog 7 #[] w fun e w' => e = .returned (.agg bArr) ∧ Below w.heap.size w w' := by
  go_enter Try.func7, Try.ntmps7
  go_wp2_with (first | ((with_reducible refine gate_dst (N := 1) rfl ?_); go_must (refine wpList_buildTo rfl 31 _ rfl (some 1) rfl bArr (by kernel_rfl) ?_)) | ((with_reducible refine gate_store (t := 31) (p := 0) (v := .tmp 1) rfl ?_); go_must (refine wpList_store_row rfl 31 _ _ rfl w.heap.size bArr rfl rfl 31 zArr (blk_new w _) (by kernel_rfl) rfl (by kernel_rfl) ?_)))
  refine bodyPost_ret (results_cell_row rfl _ _ w.heap.size 31 bArr (0, 0) _ rfl (setRow_heap _ _ zArr _ _ _ (blk_new w _)) Try.underlying31 rfl (by kernel_rfl)) rfl ?_
  exact ⟨rfl, below_setRow (below_alloc (Below.refl _ w) _) (Nat.le_refl _) _⟩
def bnd (n : Int) : Int := if n = 2 then 12000 else if n = 20 then 12000 else 0
theorem idx_run (n : Int) (h0 : 0 ≤ n) (h1 : n < 32) : ∀ w, (Instr.index 31 (.agg bArr) (.int .u8 n)).run Try.prog w = .ok (.int .i64 (bnd n)) w := by
  have : n = 0 ∨ n = 1 ∨ n = 2 ∨ n = 3 ∨ n = 4 ∨ n = 5 ∨ n = 6 ∨ n = 7 ∨ n = 8 ∨ n = 9 ∨ n = 10 ∨ n = 11 ∨ n = 12 ∨ n = 13 ∨ n = 14 ∨ n = 15 ∨ n = 16 ∨ n = 17 ∨ n = 18 ∨ n = 19 ∨ n = 20 ∨ n = 21 ∨ n = 22 ∨ n = 23 ∨ n = 24 ∨ n = 25 ∨ n = 26 ∨ n = 27 ∨ n = 28 ∨ n = 29 ∨ n = 30 ∨ n = 31 := by omega
  intro w
  repeat (rcases this with rfl | this; · kernel_rfl)
end Go.Proofs.Ythkheffilabhlaa
