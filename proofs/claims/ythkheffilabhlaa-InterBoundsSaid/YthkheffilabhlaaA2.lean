/-
  For InterBounds: ops.rowOf finds the first row of a word.
-/
import Derived.Test.YthkheffilabhlaaA1
namespace Go.Proofs.Ythkheffilabhlaa
open Go.RowKit Go.Proofs.YthkheffilabhlaaW.PrintWords Go.Proofs.YthkheffilabhlaaW.PrintLast Go.Proofs.YthkheffilabhlaaW.PrintMore
def zc44 : Array Value := #[.int .u8 0, .int .u16 0, .int .u16 0, .string ⟨#[]⟩, .slice none 0 0]
def hit (x : Int) (r : RD) : Bool := bits BinOp.and .u16 x r.mask == r.word
theorem find_first {α : Type} (p : α → Bool) (z : α) : ∀ (l : List α) (k : Nat), k < l.length → (∀ j, j < k → p (l.getD j z) = false) → p (l.getD k z) = true → l.find? p = some (l.getD k z)
  | [], _, h, _, _ => by simp at h
  | a :: l, 0, _, _, h => by
    have : p a = true := by simpa using h
    simp [this]
  | a :: l, k + 1, hk, hj, h => by
    have h0 : p a = false := by simpa using hj 0 (by omega)
    have := find_first p z l k (by simpa using hk) (fun j hjk => by simpa using hj (j + 1) (by omega)) (by simpa using h)
    simp only [List.find?_cons, h0]
    simpa using this
theorem find_none {α : Type} (p : α → Bool) (z : α) (l : List α) (h : ∀ j, j < l.length → p (l.getD j z) = false) : l.find? p = none := by
  rw [List.find?_eq_none]
  intro x hx
  obtain ⟨j, hj, rfl⟩ := List.getElem_of_mem hx
  have := h j hj
  simp only [List.getD_eq_getElem?_getD, List.getElem?_eq_getElem hj, Option.getD_some] at this
  simp [this]
theorem blk_put5 {w : World} {g : Nat} {t : TypeId} {cs : Array Value} (h : w.heap[g]? = some (.cells cs t (0, 0))) (u0 u1 u2 u3 u4 : Value) :
    (((((w.setCell ⟨g, 0, none⟩ u0).setCell ⟨g, 1, none⟩ u1).setCell ⟨g, 2, none⟩ u2).setCell ⟨g, 3, none⟩ u3).setCell ⟨g, 4, none⟩ u4).heap[g]? = some (.cells (((((cs.setIfInBounds 0 u0).setIfInBounds 1 u1).setIfInBounds 2 u2).setIfInBounds 3 u3).setIfInBounds 4 u4) t (0, 0)) :=
  blk_set (blk_set (blk_set (blk_set (blk_set h 0 u0) 1 u1) 2 u2) 3 u3) 4 u4
theorem below_put5 {w W : World} {g : Nat} (h : Below w.heap.size w W) (hg : w.heap.size ≤ g) (u0 u1 u2 u3 u4 : Value) :
    Below w.heap.size w (((((W.setCell ⟨g, 0, none⟩ u0).setCell ⟨g, 1, none⟩ u1).setCell ⟨g, 2, none⟩ u2).setCell ⟨g, 3, none⟩ u3).setCell ⟨g, 4, none⟩ u4) :=
  below_set (below_set (below_set (below_set (below_set h hg) hg) hg) hg) hg
theorem R_put5 {α : Type} {d : Kd α} {e base : Nat} {ok : Nat → Prop} {w : World} {v : Value} {xs : List α} {g : Nat} (h : d.R e w base ok v xs) (hg : g < base) (u0 u1 u2 u3 u4 : Value) :
    d.R e (((((w.setCell ⟨g, 0, none⟩ u0).setCell ⟨g, 1, none⟩ u1).setCell ⟨g, 2, none⟩ u2).setCell ⟨g, 3, none⟩ u3).setCell ⟨g, 4, none⟩ u4) base ok v xs := by
  have hf : ∀ (W : World) (i : Nat) (u : Value) (b : Nat), b ≠ g → (W.setCell ⟨g, i, none⟩ u).heap[b]? = W.heap[b]? := fun W i u b hb => Below.heap_setCell W ⟨g, i, none⟩ u b hb
  refine Kd.R_mono (Kd.R_move (Kd.R_bound h) (fun k hk => ?_)) (fun _ hk => hk.1)
  have hk : k ≠ g := by have := hk.2.1; omega
  rw [hf _ _ _ _ hk, hf _ _ _ _ hk, hf _ _ _ _ hk, hf _ _ _ _ hk, hf _ _ _ _ hk]
def RowPost (o : Option RD) (w : World) (e : Ending) (w' : World) : Prop :=
  Below w.heap.size w w' ∧ match o with
    | some r => ∃ B c, e = .returned (.tuple #[.agg #[.int .u8 r.op, .int .u16 r.mask, .int .u16 r.word, .string r.name, .slice B r.fields.length c], .bool true]) ∧ kF.R 48 w' w.heap.size (fun _ => True) (.slice B r.fields.length c) r.fields
    | none => e = .returned (.tuple #[.agg zc44, .bool false])

set_option maxRecDepth 100000 in
set_option maxHeartbeats 1000000 in
theorem rowOf_calls (x : Int) (w : World) : Calls Try.prog 25 #[.int .u16 x] w (RowPost (rowsD.find? (hit x)) w) := by
  go_enter Try.func25, Try.ntmps25
  go_wp2_with (go_at_call 11; refine (rows_calls _).mono ?_; rintro e w1 ⟨A, rfl, HC, hb⟩)
  have HB0 := Aside0.mk (below_step (below_alloc (Below.refl _ w) (.cells #[.int .u8 0, .int .u16 0, .int .u16 0, .string ⟨#[]⟩, .slice none 0 0] 44)) hb)
  have BK0 := Aside0.mk (blk_below (blk_new w (.cells #[.int .u8 0, .int .u16 0, .int .u16 0, .string ⟨#[]⟩, .slice none 0 0] 44)) hb)
  have HC1 : kR.R 44 w1 (w.heap.size + 1) (fun _ => True) (.slice (some ⟨A, 0, none⟩) 31 31) rowsD := by simpa using HC
  have HC0 := Aside0.mk HC1
  clear HC hb HC1
  go_loopw [8] (fun i wr => ∃ k : Nat, k ≤ 31 ∧ i = .int .i64 k ∧ Aside0 (∀ j, j < k → hit x (rowsD.getD j z44) = false) ∧ Aside0 (Below w.heap.size w wr) ∧ Aside0 (kR.R 44 wr (w.heap.size + 1) (fun _ => True) (.slice (some ⟨A, 0, none⟩) 31 31) rowsD) ∧ Aside0 (wr.heap[w.heap.size]? = some (.cells zc44 44 (0, 0)))) (fun i _ => 31 - (intOf i).toNat)
  case atStart => exact ⟨0, by omega, rfl, ⟨fun j hj => by omega⟩, HB0, HC0, BK0⟩
  case round =>
    obtain ⟨k, hk, rfl, Hm, HB, HC, BK⟩ := hrel
    have z0 : wr.cell? ⟨w.heap.size, 0, none⟩ = some (.int .u8 0) := (blk_cell BK.out 0).trans rfl
    have z1 : wr.cell? ⟨w.heap.size, 1, none⟩ = some (.int .u16 0) := (blk_cell BK.out 1).trans rfl
    have z2 : wr.cell? ⟨w.heap.size, 2, none⟩ = some (.int .u16 0) := (blk_cell BK.out 2).trans rfl
    have z3 : wr.cell? ⟨w.heap.size, 3, none⟩ = some (.string ⟨#[]⟩) := (blk_cell BK.out 3).trans rfl
    have z4 : wr.cell? ⟨w.heap.size, 4, none⟩ = some (.slice none 0 0) := (blk_cell BK.out 4).trans rfl
    have y0 := blk_frozen BK.out 0
    have y1 := blk_frozen BK.out 1
    have y2 := blk_frozen BK.out 2
    have y3 := blk_frozen BK.out 3
    have y4 := blk_frozen BK.out 4
    have hlw : w.heap.size < wr.heap.size := blk_lt BK.out
    by_cases hlt : k < 31
    · obtain ⟨B, c, hc0, hc1, hc2, hc3, hc4, hF⟩ := at_R HC.out k hlt
      generalize hr : rowsD.getD k z44 = r at hc0 hc1 hc2 hc3 hc4 hF
      have HR := Aside0.mk hr
      have HF := Aside0.mk hF
      clear hr hF
      cases hh : (bits BinOp.and IntKind.u16 x r.mask == r.word) with
      | true =>
        have HH := Aside0.mk (show hit x r = true from hh)
        go_wp2
        refine bodyPost_ret (results_ct rfl _ _ w.heap.size 44 #[.int .u8 r.op, .int .u16 r.mask, .int .u16 r.word, .string r.name, .slice B r.fields.length c] (0, 0) _ rfl (blk_alloc (blk_put5 BK.out _ _ _ _ _) _) Try.underlying44 rfl (by kernel_rfl)) rfl ?_
        refine ⟨below_alloc (below_put5 HB.out (Nat.le_refl _) _ _ _ _ _) _, ?_⟩
        have : rowsD.find? (hit x) = some r := by
          rw [← HR.out]
          exact find_first _ z44 _ k hlt Hm.out (by rw [HR.out]; exact HH.out)
        rw [this]
        exact ⟨B, c, rfl, Kd.R_alloc (Kd.R_lower (R_put5 HF.out (Nat.lt_succ_self _) _ _ _ _ _) (Nat.le_succ _)) _⟩
      | false =>
        have HH := Aside0.mk (show hit x r = false from hh)
        go_wp2
        go_roundw
        case rel => exact ⟨k + 1, by omega, by go_num, ⟨fun j hj => by
          rcases Nat.lt_succ_iff_lt_or_eq.1 hj with h | rfl
          · exact Hm.out j h
          · rw [HR.out]; exact HH.out⟩, ⟨below_alloc HB.out _⟩, ⟨Kd.R_alloc HC.out _⟩, ⟨blk_alloc BK.out _⟩⟩
        case measure => simp [intOf]; omega
    · go_wp2
      refine bodyPost_ret (results_ct rfl _ _ w.heap.size 44 zc44 (0, 0) _ rfl (blk_put5 BK.out _ _ _ _ _) Try.underlying44 rfl (by kernel_rfl)) rfl ?_
      refine ⟨below_put5 HB.out (Nat.le_refl _) _ _ _ _ _, ?_⟩
      have : rowsD.find? (hit x) = none := find_none _ z44 _ (fun j hj => Hm.out j (by have : rowsD.length = 31 := rfl; omega))
      rw [this]
      rfl
end Go.Proofs.Ythkheffilabhlaa
