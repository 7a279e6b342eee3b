/-
  For InterBounds: ops.Decode computes decD.
-/
import Derived.Test.YthkheffilabhlaaA3
set_option linter.unusedSimpArgs false
namespace Go.Proofs.Ythkheffilabhlaa
open Go.RowKit Go.Proofs.YthkheffilabhlaaW.PrintWords Go.Proofs.YthkheffilabhlaaW.PrintLast Go.Proofs.YthkheffilabhlaaW.PrintMore
theorem take_foldl {α β : Type} (g : β → α → β) (l : List α) (b : β) (k : Nat) (z : α) (h : k < l.length) : (l.take (k + 1)).foldl g b = g ((l.take k).foldl g b) (l.getD k z) := by
  rw [List.take_succ_eq_append_getElem h, List.foldl_append, List.getD_eq_getElem?_getD, List.getElem?_eq_getElem h]
  rfl
theorem still_tail_drew {P : Program} {id : Nat} {Q : Exit → Act → World → Prop} {a : Act} {w : World} {l : List Oper} (n : Nat) (hm : P.follows .mixedOrders = true) (hB : Region.lexTailB .any l.toArray n = true)
    (h : wpStill P l.toArray w.drew (fun a' => wpList P l.toArray Q (l.drop n) a' w.drew) (l.take n) a) : (Code.region id l.toArray true).wp P Q a w :=
  wp_region_still_tail n hm hB h
theorem rows_fields : ∀ r ∈ rowsD, ∀ f ∈ r.fields, f = fX ∨ f = fY ∨ f = fN ∨ f = fB ∨ f = fA := by
  intro r hr f hf
  have hf' : f ∈ rowsD.flatMap (·.fields) := List.mem_flatMap.2 ⟨r, hr, hf⟩
  simp only [rowsD, List.flatMap_cons, List.flatMap_nil, List.append_nil, List.nil_append, List.cons_append, List.mem_cons, List.not_mem_nil, or_false] at hf'
  clear hf hr
  repeat (rcases hf' with rfl | hf'; · simp)
theorem fv_X (x : Int) : fval x fX = bits .and .i64 (x / 256) (16 - 1) := rfl
theorem fv_Y (x : Int) : fval x fY = bits .and .i64 (x / 16) (16 - 1) := rfl
theorem fv_N (x : Int) : fval x fN = bits .and .i64 x (16 - 1) := by
  show bits .and .i64 (x / 1) _ = _
  rw [Int.ediv_one]; rfl
theorem fv_B (x : Int) : fval x fB = bits .and .i64 x (256 - 1) := by
  show bits .and .i64 (x / 1) _ = _
  rw [Int.ediv_one]; rfl
theorem fv_A (x : Int) : fval x fA = bits .and .i64 x (4096 - 1) := by
  show bits .and .i64 (x / 1) _ = _
  rw [Int.ediv_one]; rfl
def decD (x : Int) : Option OD := (rowsD.find? (hit x)).map fun r => r.fields.foldl (fun o f => putD f (fval x f) o) ⟨r.op, 0, 0, 0, 0, 0⟩
def DecPost (o : Option OD) (w : World) (e : Ending) (w' : World) : Prop :=
  Below w.heap.size w w' ∧ e = .returned (.tuple #[.agg (ocells (o.getD ⟨0, 0, 0, 0, 0, 0⟩)), .bool o.isSome])
set_option maxRecDepth 100000 in
set_option maxHeartbeats 1000000 in
theorem decode_some (x : Int) (w : World) (h0 : 0 ≤ x) (h1 : x ≤ 65535) (r : RD) (hfi : rowsD.find? (hit x) = some r) : Calls Try.prog 12 #[.int .u16 x] w (DecPost (decD x) w) := by
    have hlen : r.fields.length ≤ 3 := by
      have : ∀ x ∈ rowsD, x.fields.length ≤ 3 := by decide
      exact this r (List.mem_of_find?_eq_some hfi)
    have HFI := Aside0.mk hfi
    clear hfi
    go_enter Try.func12, Try.ntmps12
    go_wp2_with (go_at_call 25; refine (rowOf_calls _ _).mono ?_; rw [HFI.out]; rintro e w1 ⟨hb, B, c, rfl, hF⟩; have HB0 := Aside0.mk (below_step (below_alloc (Below.refl _ w) (.cells #[.int .u8 0, .int .u8 0, .int .u8 0, .int .u8 0, .int .u8 0, .int .u16 0] 25)) hb); have BK0 := Aside0.mk (blk_below (blk_new w (.cells #[.int .u8 0, .int .u8 0, .int .u8 0, .int .u8 0, .int .u8 0, .int .u16 0] 25)) hb); have HF0 := Aside0.mk (Kd.R_mono (Kd.R_bound hF) (ok' := fun k => k < w1.heap.size ∧ w.heap.size < k) (fun k hk => ⟨hk.2.2.1, by have := hk.2.1; simp at this; omega⟩)); clear hF hb)
    have HB1 := Aside0.mk (below_alloc (below_alloc HB0.out (.cells #[.int .u8 r.op, .int .u16 r.mask, .int .u16 r.word, .string r.name, .slice B r.fields.length c] 44)) (.cells #[.int .u8 r.op, .int .u8 0, .int .u8 0, .int .u8 0, .int .u8 0, .int .u16 0] 25))
    have BK1 := Aside0.mk (blk_alloc (blk_alloc BK0.out (.cells #[.int .u8 r.op, .int .u16 r.mask, .int .u16 r.word, .string r.name, .slice B r.fields.length c] 44)) (.cells #[.int .u8 r.op, .int .u8 0, .int .u8 0, .int .u8 0, .int .u8 0, .int .u16 0] 25))
    have HF1 := Aside0.mk (Kd.R_alloc (Kd.R_alloc HF0.out (.cells #[.int .u8 r.op, .int .u16 r.mask, .int .u16 r.word, .string r.name, .slice B r.fields.length c] 44)) (.cells #[.int .u8 r.op, .int .u8 0, .int .u8 0, .int .u8 0, .int .u8 0, .int .u16 0] 25))
    have BO1 := Aside0.mk (blk_new (w1.alloc (.cells #[.int .u8 r.op, .int .u16 r.mask, .int .u16 r.word, .string r.name, .slice B r.fields.length c] 44)) (.cells #[.int .u8 r.op, .int .u8 0, .int .u8 0, .int .u8 0, .int .u8 0, .int .u16 0] 25))
    rw [World.size_alloc] at BO1
    have hgo : w.heap.size < w1.heap.size + 1 := by have := blk_lt BK0.out; omega
    have hwg : w1.heap.size < w1.heap.size + 1 := by omega
    have hw1 : w.heap.size < w1.heap.size := blk_lt BK0.out
    generalize w1.heap.size + 1 = go at *
    generalize (w1.alloc (.cells #[.int .u8 r.op, .int .u16 r.mask, .int .u16 r.word, .string r.name, .slice B r.fields.length c] 44)).alloc (.cells #[.int .u8 r.op, .int .u8 0, .int .u8 0, .int .u8 0, .int .u8 0, .int .u16 0] 25) = w2 at *
    clear HB0 BK0 HF0
    go_loopw [23] (fun i wr => ∃ k : Nat, k ≤ r.fields.length ∧ i = .int .i64 k ∧ Aside0 (Below w.heap.size w wr) ∧ Aside0 (kF.R 48 wr (w.alloc (.cells #[.int .u8 0, .int .u8 0, .int .u8 0, .int .u8 0, .int .u8 0, .int .u16 0] 25)).heap.size (fun k => k < w1.heap.size ∧ w.heap.size < k) (.slice B r.fields.length c) r.fields) ∧ Aside0 (wr.heap[w.heap.size]? = some (.cells (ocells ⟨0, 0, 0, 0, 0, 0⟩) 25 (0, 0))) ∧ Aside0 (wr.heap[go]? = some (.cells (ocells ((r.fields.take k).foldl (fun o f => putD f (fval x f) o) ⟨r.op, 0, 0, 0, 0, 0⟩)) 25 (0, 0)))) (fun i _ => 3 - (intOf i).toNat)
    case atStart => exact ⟨0, by omega, rfl, HB1, HF1, BK1, BO1⟩
    case round =>
      obtain ⟨k, hk, rfl, HB, HF, BK, BO⟩ := hrel
      by_cases hlt : k < r.fields.length
      · obtain ⟨_, _, hC⟩ := Kd.R_reads' HF.out
        obtain ⟨ad, e, hc0, hc1, hc2, hc3, hc4⟩ := at_F hC k hlt
        subst e
        have hmem : r.fields.getD k z48 ∈ r.fields := by rw [List.getD_eq_getElem?_getD, List.getElem?_eq_getElem hlt]; exact List.getElem_mem hlt
        have hcase := rows_fields r (List.mem_of_find?_eq_some HFI.out) _ hmem
        generalize hf : r.fields.getD k z48 = f at hc0 hc1 hc2 hc3 hc4 hcase
        have HFK := Aside0.mk hf
        clear hf hC hmem
        generalize hO : (r.fields.take k).foldl (fun o f => putD f (fval x f) o) (⟨r.op, 0, 0, 0, 0, 0⟩ : OD) = O at BO
        have HO := Aside0.mk hO
        clear hO
        rcases hcase with rfl | rfl | rfl | rfl | rfl
        · simp only [fX] at hc0 hc1 hc2 hc3 hc4
          go_wp2
          have HB3 := Aside0.mk (below_drew (below_alloc HB.out (.cells (fcells fX).toArray 48)))
          have HF3 := Aside0.mk (Kd.R_drew (Kd.R_alloc HF.out (.cells (fcells fX).toArray 48)))
          have BK3 := Aside0.mk (blk_drew (blk_alloc BK.out (.cells (fcells fX).toArray 48)))
          have BO3 := Aside0.mk (blk_drew (blk_alloc BO.out (.cells (fcells fX).toArray 48)))
          have BX3 := Aside0.mk (blk_drew (blk_new wr (.cells (fcells fX).toArray 48)))
          have hgb : go < wr.heap.size := blk_lt BO.out
          refine still_tail_drew 13 (by kernel_rfl) (by kernel_rfl) ?_
          simp only [List.take_succ_cons, List.take_zero, List.drop_succ_cons, List.drop_zero]
          change Aside0 (Below _ _ (wr.alloc (.cells #[.int .i64 8, .int .i64 1, .string ⟨#[118]⟩, .func (.func 15) #[] #[], .func (.func 16) #[] #[]] 48)).drew) at HB3
          change Aside0 (kF.R _ (wr.alloc (.cells #[.int .i64 8, .int .i64 1, .string ⟨#[118]⟩, .func (.func 15) #[] #[], .func (.func 16) #[] #[]] 48)).drew _ _ _ _) at HF3
          change Aside0 ((wr.alloc (.cells #[.int .i64 8, .int .i64 1, .string ⟨#[118]⟩, .func (.func 15) #[] #[], .func (.func 16) #[] #[]] 48)).drew.heap[_]? = _) at BK3 BO3 BX3
          generalize (wr.alloc (.cells #[.int .i64 8, .int .i64 1, .string ⟨#[118]⟩, .func (.func 15) #[] #[], .func (.func 16) #[] #[]] 48)).drew = w4 at *
          generalize wr.heap.size = gx at *
          have x0 : w4.cell? ⟨gx, 0, none⟩ = some (.int .i64 8) := (blk_cell BX3.out 0).trans rfl
          have x1 : w4.cell? ⟨gx, 1, none⟩ = some (.int .i64 1) := (blk_cell BX3.out 1).trans rfl
          have x4 : w4.cell? ⟨gx, 4, none⟩ = some (.func (.func 16) #[] #[]) := (blk_cell BX3.out 4).trans rfl
          have q4 : IntKind.i64.wrap 4 = 4 := by decide
          have q8 : IntKind.i64.wrap 8 = 8 := by decide
          have q12 : IntKind.i64.wrap 12 = 12 := by decide
          repeat still_step
          refine wpStill_nil ?_
          go_wp2_with fail
          refine (put16 go _ O.x w4 ?r0 ?r1 ?hc ?hf).mono ?_
          case r0 => rw [fval_X x h0 h1]; omega
          case r1 => rw [fval_X x h0 h1]; omega
          case hc => exact (blk_cell BO3.out 1).trans rfl
          case hf => exact blk_frozen BO3.out 1
          rintro e w5 ⟨rfl, hw5⟩
          have HB5 : Aside0 (Below w.heap.size w w5) := ⟨hw5 ▸ below_set HB3.out (by omega)⟩
          have HF5 : Aside0 (kF.R 48 w5 (w.alloc (.cells #[.int .u8 0, .int .u8 0, .int .u8 0, .int .u8 0, .int .u8 0, .int .u16 0] 25)).heap.size (fun k => k < w1.heap.size ∧ w.heap.size < k) (.slice (some ad) r.fields.length c) r.fields) := ⟨hw5 ▸ Kd.R_far (p := ⟨go, 1, none⟩) HF3.out (fun k hk => by have := hk.1; show k ≠ go; omega) _⟩
          have BK5 : Aside0 (w5.heap[w.heap.size]? = some (.cells (ocells ⟨0, 0, 0, 0, 0, 0⟩) 25 (0, 0))) := ⟨hw5 ▸ blk_far (p := ⟨go, 1, none⟩) BK3.out (show w.heap.size ≠ go by omega) _⟩
          have BO5 : Aside0 (w5.heap[go]? = some (.cells (ocells ((r.fields.take (k + 1)).foldl (fun o f => putD f (fval x f) o) ⟨r.op, 0, 0, 0, 0, 0⟩)) 25 (0, 0))) := ⟨by
            rw [take_foldl _ _ _ k z48 hlt, HFK.out, HO.out]
            exact hw5 ▸ blk_put BO3.out 1 _ (by rw [← fv_X]; rfl)⟩
          clear hw5
          go_wp2
          go_roundw
          case rel => exact ⟨k + 1, by omega, by go_num, HB5, HF5, BK5, BO5⟩
          case measure => simp [intOf]; omega
        · simp only [fY] at hc0 hc1 hc2 hc3 hc4
          go_wp2
          have HB3 := Aside0.mk (below_drew (below_alloc HB.out (.cells (fcells fY).toArray 48)))
          have HF3 := Aside0.mk (Kd.R_drew (Kd.R_alloc HF.out (.cells (fcells fY).toArray 48)))
          have BK3 := Aside0.mk (blk_drew (blk_alloc BK.out (.cells (fcells fY).toArray 48)))
          have BO3 := Aside0.mk (blk_drew (blk_alloc BO.out (.cells (fcells fY).toArray 48)))
          have BX3 := Aside0.mk (blk_drew (blk_new wr (.cells (fcells fY).toArray 48)))
          have hgb : go < wr.heap.size := blk_lt BO.out
          refine still_tail_drew 13 (by kernel_rfl) (by kernel_rfl) ?_
          simp only [List.take_succ_cons, List.take_zero, List.drop_succ_cons, List.drop_zero]
          change Aside0 (Below _ _ (wr.alloc (.cells #[.int .i64 4, .int .i64 1, .string ⟨#[118]⟩, .func (.func 17) #[] #[], .func (.func 18) #[] #[]] 48)).drew) at HB3
          change Aside0 (kF.R _ (wr.alloc (.cells #[.int .i64 4, .int .i64 1, .string ⟨#[118]⟩, .func (.func 17) #[] #[], .func (.func 18) #[] #[]] 48)).drew _ _ _ _) at HF3
          change Aside0 ((wr.alloc (.cells #[.int .i64 4, .int .i64 1, .string ⟨#[118]⟩, .func (.func 17) #[] #[], .func (.func 18) #[] #[]] 48)).drew.heap[_]? = _) at BK3 BO3 BX3
          generalize (wr.alloc (.cells #[.int .i64 4, .int .i64 1, .string ⟨#[118]⟩, .func (.func 17) #[] #[], .func (.func 18) #[] #[]] 48)).drew = w4 at *
          generalize wr.heap.size = gx at *
          have x0 : w4.cell? ⟨gx, 0, none⟩ = some (.int .i64 4) := (blk_cell BX3.out 0).trans rfl
          have x1 : w4.cell? ⟨gx, 1, none⟩ = some (.int .i64 1) := (blk_cell BX3.out 1).trans rfl
          have x4 : w4.cell? ⟨gx, 4, none⟩ = some (.func (.func 18) #[] #[]) := (blk_cell BX3.out 4).trans rfl
          have q4 : IntKind.i64.wrap 4 = 4 := by decide
          have q8 : IntKind.i64.wrap 8 = 8 := by decide
          have q12 : IntKind.i64.wrap 12 = 12 := by decide
          repeat still_step
          refine wpStill_nil ?_
          go_wp2_with fail
          refine (put18 go _ O.y w4 ?r0 ?r1 ?hc ?hf).mono ?_
          case r0 => rw [fval_Y x h0 h1]; omega
          case r1 => rw [fval_Y x h0 h1]; omega
          case hc => exact (blk_cell BO3.out 2).trans rfl
          case hf => exact blk_frozen BO3.out 2
          rintro e w5 ⟨rfl, hw5⟩
          have HB5 : Aside0 (Below w.heap.size w w5) := ⟨hw5 ▸ below_set HB3.out (by omega)⟩
          have HF5 : Aside0 (kF.R 48 w5 (w.alloc (.cells #[.int .u8 0, .int .u8 0, .int .u8 0, .int .u8 0, .int .u8 0, .int .u16 0] 25)).heap.size (fun k => k < w1.heap.size ∧ w.heap.size < k) (.slice (some ad) r.fields.length c) r.fields) := ⟨hw5 ▸ Kd.R_far (p := ⟨go, 2, none⟩) HF3.out (fun k hk => by have := hk.1; show k ≠ go; omega) _⟩
          have BK5 : Aside0 (w5.heap[w.heap.size]? = some (.cells (ocells ⟨0, 0, 0, 0, 0, 0⟩) 25 (0, 0))) := ⟨hw5 ▸ blk_far (p := ⟨go, 2, none⟩) BK3.out (show w.heap.size ≠ go by omega) _⟩
          have BO5 : Aside0 (w5.heap[go]? = some (.cells (ocells ((r.fields.take (k + 1)).foldl (fun o f => putD f (fval x f) o) ⟨r.op, 0, 0, 0, 0, 0⟩)) 25 (0, 0))) := ⟨by
            rw [take_foldl _ _ _ k z48 hlt, HFK.out, HO.out]
            exact hw5 ▸ blk_put BO3.out 2 _ (by rw [← fv_Y]; rfl)⟩
          clear hw5
          go_wp2
          go_roundw
          case rel => exact ⟨k + 1, by omega, by go_num, HB5, HF5, BK5, BO5⟩
          case measure => simp [intOf]; omega
        · simp only [fN] at hc0 hc1 hc2 hc3 hc4
          go_wp2
          have HB3 := Aside0.mk (below_drew (below_alloc HB.out (.cells (fcells fN).toArray 48)))
          have HF3 := Aside0.mk (Kd.R_drew (Kd.R_alloc HF.out (.cells (fcells fN).toArray 48)))
          have BK3 := Aside0.mk (blk_drew (blk_alloc BK.out (.cells (fcells fN).toArray 48)))
          have BO3 := Aside0.mk (blk_drew (blk_alloc BO.out (.cells (fcells fN).toArray 48)))
          have BX3 := Aside0.mk (blk_drew (blk_new wr (.cells (fcells fN).toArray 48)))
          have hgb : go < wr.heap.size := blk_lt BO.out
          refine still_tail_drew 13 (by kernel_rfl) (by kernel_rfl) ?_
          simp only [List.take_succ_cons, List.take_zero, List.drop_succ_cons, List.drop_zero]
          change Aside0 (Below _ _ (wr.alloc (.cells #[.int .i64 0, .int .i64 1, .string ⟨#[]⟩, .func (.func 19) #[] #[], .func (.func 20) #[] #[]] 48)).drew) at HB3
          change Aside0 (kF.R _ (wr.alloc (.cells #[.int .i64 0, .int .i64 1, .string ⟨#[]⟩, .func (.func 19) #[] #[], .func (.func 20) #[] #[]] 48)).drew _ _ _ _) at HF3
          change Aside0 ((wr.alloc (.cells #[.int .i64 0, .int .i64 1, .string ⟨#[]⟩, .func (.func 19) #[] #[], .func (.func 20) #[] #[]] 48)).drew.heap[_]? = _) at BK3 BO3 BX3
          generalize (wr.alloc (.cells #[.int .i64 0, .int .i64 1, .string ⟨#[]⟩, .func (.func 19) #[] #[], .func (.func 20) #[] #[]] 48)).drew = w4 at *
          generalize wr.heap.size = gx at *
          have x0 : w4.cell? ⟨gx, 0, none⟩ = some (.int .i64 0) := (blk_cell BX3.out 0).trans rfl
          have x1 : w4.cell? ⟨gx, 1, none⟩ = some (.int .i64 1) := (blk_cell BX3.out 1).trans rfl
          have x4 : w4.cell? ⟨gx, 4, none⟩ = some (.func (.func 20) #[] #[]) := (blk_cell BX3.out 4).trans rfl
          have q4 : IntKind.i64.wrap 4 = 4 := by decide
          have q8 : IntKind.i64.wrap 8 = 8 := by decide
          have q12 : IntKind.i64.wrap 12 = 12 := by decide
          repeat still_step
          refine wpStill_nil ?_
          go_wp2_with fail
          refine (put20 go _ O.n w4 ?r0 ?r1 ?hc ?hf).mono ?_
          case r0 => rw [fval_N x h0 h1]; omega
          case r1 => rw [fval_N x h0 h1]; omega
          case hc => exact (blk_cell BO3.out 3).trans rfl
          case hf => exact blk_frozen BO3.out 3
          rintro e w5 ⟨rfl, hw5⟩
          have HB5 : Aside0 (Below w.heap.size w w5) := ⟨hw5 ▸ below_set HB3.out (by omega)⟩
          have HF5 : Aside0 (kF.R 48 w5 (w.alloc (.cells #[.int .u8 0, .int .u8 0, .int .u8 0, .int .u8 0, .int .u8 0, .int .u16 0] 25)).heap.size (fun k => k < w1.heap.size ∧ w.heap.size < k) (.slice (some ad) r.fields.length c) r.fields) := ⟨hw5 ▸ Kd.R_far (p := ⟨go, 3, none⟩) HF3.out (fun k hk => by have := hk.1; show k ≠ go; omega) _⟩
          have BK5 : Aside0 (w5.heap[w.heap.size]? = some (.cells (ocells ⟨0, 0, 0, 0, 0, 0⟩) 25 (0, 0))) := ⟨hw5 ▸ blk_far (p := ⟨go, 3, none⟩) BK3.out (show w.heap.size ≠ go by omega) _⟩
          have BO5 : Aside0 (w5.heap[go]? = some (.cells (ocells ((r.fields.take (k + 1)).foldl (fun o f => putD f (fval x f) o) ⟨r.op, 0, 0, 0, 0, 0⟩)) 25 (0, 0))) := ⟨by
            rw [take_foldl _ _ _ k z48 hlt, HFK.out, HO.out]
            exact hw5 ▸ blk_put BO3.out 3 _ (by rw [← fv_N]; rfl)⟩
          clear hw5
          go_wp2
          go_roundw
          case rel => exact ⟨k + 1, by omega, by go_num, HB5, HF5, BK5, BO5⟩
          case measure => simp [intOf]; omega
        · simp only [fB] at hc0 hc1 hc2 hc3 hc4
          go_wp2
          have HB3 := Aside0.mk (below_drew (below_alloc HB.out (.cells (fcells fB).toArray 48)))
          have HF3 := Aside0.mk (Kd.R_drew (Kd.R_alloc HF.out (.cells (fcells fB).toArray 48)))
          have BK3 := Aside0.mk (blk_drew (blk_alloc BK.out (.cells (fcells fB).toArray 48)))
          have BO3 := Aside0.mk (blk_drew (blk_alloc BO.out (.cells (fcells fB).toArray 48)))
          have BX3 := Aside0.mk (blk_drew (blk_new wr (.cells (fcells fB).toArray 48)))
          have hgb : go < wr.heap.size := blk_lt BO.out
          refine still_tail_drew 13 (by kernel_rfl) (by kernel_rfl) ?_
          simp only [List.take_succ_cons, List.take_zero, List.drop_succ_cons, List.drop_zero]
          change Aside0 (Below _ _ (wr.alloc (.cells #[.int .i64 0, .int .i64 2, .string ⟨#[]⟩, .func (.func 21) #[] #[], .func (.func 22) #[] #[]] 48)).drew) at HB3
          change Aside0 (kF.R _ (wr.alloc (.cells #[.int .i64 0, .int .i64 2, .string ⟨#[]⟩, .func (.func 21) #[] #[], .func (.func 22) #[] #[]] 48)).drew _ _ _ _) at HF3
          change Aside0 ((wr.alloc (.cells #[.int .i64 0, .int .i64 2, .string ⟨#[]⟩, .func (.func 21) #[] #[], .func (.func 22) #[] #[]] 48)).drew.heap[_]? = _) at BK3 BO3 BX3
          generalize (wr.alloc (.cells #[.int .i64 0, .int .i64 2, .string ⟨#[]⟩, .func (.func 21) #[] #[], .func (.func 22) #[] #[]] 48)).drew = w4 at *
          generalize wr.heap.size = gx at *
          have x0 : w4.cell? ⟨gx, 0, none⟩ = some (.int .i64 0) := (blk_cell BX3.out 0).trans rfl
          have x1 : w4.cell? ⟨gx, 1, none⟩ = some (.int .i64 2) := (blk_cell BX3.out 1).trans rfl
          have x4 : w4.cell? ⟨gx, 4, none⟩ = some (.func (.func 22) #[] #[]) := (blk_cell BX3.out 4).trans rfl
          have q4 : IntKind.i64.wrap 4 = 4 := by decide
          have q8 : IntKind.i64.wrap 8 = 8 := by decide
          have q12 : IntKind.i64.wrap 12 = 12 := by decide
          repeat still_step
          refine wpStill_nil ?_
          go_wp2_with fail
          refine (put22 go _ O.b w4 ?r0 ?r1 ?hc ?hf).mono ?_
          case r0 => rw [fval_B x h0 h1]; omega
          case r1 => rw [fval_B x h0 h1]; omega
          case hc => exact (blk_cell BO3.out 4).trans rfl
          case hf => exact blk_frozen BO3.out 4
          rintro e w5 ⟨rfl, hw5⟩
          have HB5 : Aside0 (Below w.heap.size w w5) := ⟨hw5 ▸ below_set HB3.out (by omega)⟩
          have HF5 : Aside0 (kF.R 48 w5 (w.alloc (.cells #[.int .u8 0, .int .u8 0, .int .u8 0, .int .u8 0, .int .u8 0, .int .u16 0] 25)).heap.size (fun k => k < w1.heap.size ∧ w.heap.size < k) (.slice (some ad) r.fields.length c) r.fields) := ⟨hw5 ▸ Kd.R_far (p := ⟨go, 4, none⟩) HF3.out (fun k hk => by have := hk.1; show k ≠ go; omega) _⟩
          have BK5 : Aside0 (w5.heap[w.heap.size]? = some (.cells (ocells ⟨0, 0, 0, 0, 0, 0⟩) 25 (0, 0))) := ⟨hw5 ▸ blk_far (p := ⟨go, 4, none⟩) BK3.out (show w.heap.size ≠ go by omega) _⟩
          have BO5 : Aside0 (w5.heap[go]? = some (.cells (ocells ((r.fields.take (k + 1)).foldl (fun o f => putD f (fval x f) o) ⟨r.op, 0, 0, 0, 0, 0⟩)) 25 (0, 0))) := ⟨by
            rw [take_foldl _ _ _ k z48 hlt, HFK.out, HO.out]
            exact hw5 ▸ blk_put BO3.out 4 _ (by rw [← fv_B]; rfl)⟩
          clear hw5
          go_wp2
          go_roundw
          case rel => exact ⟨k + 1, by omega, by go_num, HB5, HF5, BK5, BO5⟩
          case measure => simp [intOf]; omega
        · simp only [fA] at hc0 hc1 hc2 hc3 hc4
          go_wp2
          have HB3 := Aside0.mk (below_drew (below_alloc HB.out (.cells (fcells fA).toArray 48)))
          have HF3 := Aside0.mk (Kd.R_drew (Kd.R_alloc HF.out (.cells (fcells fA).toArray 48)))
          have BK3 := Aside0.mk (blk_drew (blk_alloc BK.out (.cells (fcells fA).toArray 48)))
          have BO3 := Aside0.mk (blk_drew (blk_alloc BO.out (.cells (fcells fA).toArray 48)))
          have BX3 := Aside0.mk (blk_drew (blk_new wr (.cells (fcells fA).toArray 48)))
          have hgb : go < wr.heap.size := blk_lt BO.out
          refine still_tail_drew 13 (by kernel_rfl) (by kernel_rfl) ?_
          simp only [List.take_succ_cons, List.take_zero, List.drop_succ_cons, List.drop_zero]
          change Aside0 (Below _ _ (wr.alloc (.cells #[.int .i64 0, .int .i64 3, .string ⟨#[]⟩, .func (.func 23) #[] #[], .func (.func 24) #[] #[]] 48)).drew) at HB3
          change Aside0 (kF.R _ (wr.alloc (.cells #[.int .i64 0, .int .i64 3, .string ⟨#[]⟩, .func (.func 23) #[] #[], .func (.func 24) #[] #[]] 48)).drew _ _ _ _) at HF3
          change Aside0 ((wr.alloc (.cells #[.int .i64 0, .int .i64 3, .string ⟨#[]⟩, .func (.func 23) #[] #[], .func (.func 24) #[] #[]] 48)).drew.heap[_]? = _) at BK3 BO3 BX3
          generalize (wr.alloc (.cells #[.int .i64 0, .int .i64 3, .string ⟨#[]⟩, .func (.func 23) #[] #[], .func (.func 24) #[] #[]] 48)).drew = w4 at *
          generalize wr.heap.size = gx at *
          have x0 : w4.cell? ⟨gx, 0, none⟩ = some (.int .i64 0) := (blk_cell BX3.out 0).trans rfl
          have x1 : w4.cell? ⟨gx, 1, none⟩ = some (.int .i64 3) := (blk_cell BX3.out 1).trans rfl
          have x4 : w4.cell? ⟨gx, 4, none⟩ = some (.func (.func 24) #[] #[]) := (blk_cell BX3.out 4).trans rfl
          have q4 : IntKind.i64.wrap 4 = 4 := by decide
          have q8 : IntKind.i64.wrap 8 = 8 := by decide
          have q12 : IntKind.i64.wrap 12 = 12 := by decide
          repeat still_step
          refine wpStill_nil ?_
          go_wp2_with fail
          refine (put24 go _ O.a w4 ?r0 ?r1 ?hc ?hf).mono ?_
          case r0 => rw [fval_A x h0 h1]; omega
          case r1 => rw [fval_A x h0 h1]; omega
          case hc => exact (blk_cell BO3.out 5).trans rfl
          case hf => exact blk_frozen BO3.out 5
          rintro e w5 ⟨rfl, hw5⟩
          have HB5 : Aside0 (Below w.heap.size w w5) := ⟨hw5 ▸ below_set HB3.out (by omega)⟩
          have HF5 : Aside0 (kF.R 48 w5 (w.alloc (.cells #[.int .u8 0, .int .u8 0, .int .u8 0, .int .u8 0, .int .u8 0, .int .u16 0] 25)).heap.size (fun k => k < w1.heap.size ∧ w.heap.size < k) (.slice (some ad) r.fields.length c) r.fields) := ⟨hw5 ▸ Kd.R_far (p := ⟨go, 5, none⟩) HF3.out (fun k hk => by have := hk.1; show k ≠ go; omega) _⟩
          have BK5 : Aside0 (w5.heap[w.heap.size]? = some (.cells (ocells ⟨0, 0, 0, 0, 0, 0⟩) 25 (0, 0))) := ⟨hw5 ▸ blk_far (p := ⟨go, 5, none⟩) BK3.out (show w.heap.size ≠ go by omega) _⟩
          have BO5 : Aside0 (w5.heap[go]? = some (.cells (ocells ((r.fields.take (k + 1)).foldl (fun o f => putD f (fval x f) o) ⟨r.op, 0, 0, 0, 0, 0⟩)) 25 (0, 0))) := ⟨by
            rw [take_foldl _ _ _ k z48 hlt, HFK.out, HO.out]
            exact hw5 ▸ blk_put BO3.out 5 _ (by rw [← fv_A]; rfl)⟩
          clear hw5
          go_wp2
          go_roundw
          case rel => exact ⟨k + 1, by omega, by go_num, HB5, HF5, BK5, BO5⟩
          case measure => simp [intOf]; omega
      · obtain rfl : k = r.fields.length := by omega
        rw [List.take_length] at BO
        generalize hD : r.fields.foldl (fun o f => putD f (fval x f) o) (⟨r.op, 0, 0, 0, 0, 0⟩ : OD) = D at BO
        have HD := Aside0.mk hD
        clear hD
        have z0 : wr.cell? ⟨go, 0, none⟩ = some (.int .u8 D.op) := (blk_cell BO.out 0).trans rfl
        have z1 : wr.cell? ⟨go, 1, none⟩ = some (.int .u8 D.x) := (blk_cell BO.out 1).trans rfl
        have z2 : wr.cell? ⟨go, 2, none⟩ = some (.int .u8 D.y) := (blk_cell BO.out 2).trans rfl
        have z3 : wr.cell? ⟨go, 3, none⟩ = some (.int .u8 D.n) := (blk_cell BO.out 3).trans rfl
        have z4 : wr.cell? ⟨go, 4, none⟩ = some (.int .u8 D.b) := (blk_cell BO.out 4).trans rfl
        have z5 : wr.cell? ⟨go, 5, none⟩ = some (.int .u16 D.a) := (blk_cell BO.out 5).trans rfl
        have y0 : wr.cell? ⟨w.heap.size, 0, none⟩ = some (.int .u8 0) := (blk_cell BK.out 0).trans rfl
        have y1 : wr.cell? ⟨w.heap.size, 1, none⟩ = some (.int .u8 0) := (blk_cell BK.out 1).trans rfl
        have y2 : wr.cell? ⟨w.heap.size, 2, none⟩ = some (.int .u8 0) := (blk_cell BK.out 2).trans rfl
        have y3 : wr.cell? ⟨w.heap.size, 3, none⟩ = some (.int .u8 0) := (blk_cell BK.out 3).trans rfl
        have y4 : wr.cell? ⟨w.heap.size, 4, none⟩ = some (.int .u8 0) := (blk_cell BK.out 4).trans rfl
        have y5 : wr.cell? ⟨w.heap.size, 5, none⟩ = some (.int .u16 0) := (blk_cell BK.out 5).trans rfl
        have f0 := blk_frozen BK.out 0
        have f1 := blk_frozen BK.out 1
        have f2 := blk_frozen BK.out 2
        have f3 := blk_frozen BK.out 3
        have f4 := blk_frozen BK.out 4
        have f5 := blk_frozen BK.out 5
        go_wp2
        refine bodyPost_ret (results_ct rfl _ _ w.heap.size 25 (ocells D) (0, 0) _ rfl (blk_set (blk_put5 BK.out _ _ _ _ _) 5 _) Try.underlying25 rfl (by kernel_rfl)) rfl ?_
        refine ⟨below_set (below_put5 HB.out (Nat.le_refl _) _ _ _ _ _) (Nat.le_refl _), ?_⟩
        rw [decD, HFI.out, Option.map_some, HD.out]
        rfl
set_option maxRecDepth 100000 in
set_option maxHeartbeats 1000000 in
theorem decode_none (x : Int) (w : World) (hfi : rowsD.find? (hit x) = none) : Calls Try.prog 12 #[.int .u16 x] w (DecPost (decD x) w) := by
  have HFI := Aside0.mk hfi
  clear hfi
  go_enter Try.func12, Try.ntmps12
  go_wp2_with (go_at_call 25; refine (rowOf_calls _ _).mono ?_; rw [HFI.out]; rintro e w1 ⟨hb, rfl⟩; have HB0 := Aside0.mk (below_step (below_alloc (Below.refl _ w) (.cells #[.int .u8 0, .int .u8 0, .int .u8 0, .int .u8 0, .int .u8 0, .int .u16 0] 25)) hb); have BK0 := Aside0.mk (blk_below (blk_new w (.cells #[.int .u8 0, .int .u8 0, .int .u8 0, .int .u8 0, .int .u8 0, .int .u16 0] 25)) hb); unfold zc44; have hlw : w.heap.size < w1.heap.size := blk_lt BK0.out; clear hb; have y0 : w1.cell? ⟨w.heap.size, 0, none⟩ = some (.int .u8 0) := (blk_cell BK0.out 0).trans rfl; have y1 : w1.cell? ⟨w.heap.size, 1, none⟩ = some (.int .u8 0) := (blk_cell BK0.out 1).trans rfl; have y2 : w1.cell? ⟨w.heap.size, 2, none⟩ = some (.int .u8 0) := (blk_cell BK0.out 2).trans rfl; have y3 : w1.cell? ⟨w.heap.size, 3, none⟩ = some (.int .u8 0) := (blk_cell BK0.out 3).trans rfl; have y4 : w1.cell? ⟨w.heap.size, 4, none⟩ = some (.int .u8 0) := (blk_cell BK0.out 4).trans rfl; have y5 : w1.cell? ⟨w.heap.size, 5, none⟩ = some (.int .u16 0) := (blk_cell BK0.out 5).trans rfl; have f0 := blk_frozen BK0.out 0; have f1 := blk_frozen BK0.out 1; have f2 := blk_frozen BK0.out 2; have f3 := blk_frozen BK0.out 3; have f4 := blk_frozen BK0.out 4; have f5 := blk_frozen BK0.out 5)
  refine bodyPost_ret (results_ct rfl _ _ w.heap.size 25 (ocells ⟨0, 0, 0, 0, 0, 0⟩) (0, 0) _ rfl (blk_alloc (blk_set (blk_put5 BK0.out _ _ _ _ _) 5 _) _) Try.underlying25 rfl (by kernel_rfl)) rfl ?_
  refine ⟨below_alloc (below_set (below_put5 HB0.out (Nat.le_refl _) _ _ _ _ _) (Nat.le_refl _)) _, ?_⟩
  rw [decD, HFI.out, Option.map_none]
  rfl
theorem decode_calls (x : Int) (w : World) (h0 : 0 ≤ x) (h1 : x ≤ 65535) : Calls Try.prog 12 #[.int .u16 x] w (DecPost (decD x) w) := by
  cases hfi : rowsD.find? (hit x) with
  | none => exact decode_none x w hfi
  | some r => exact decode_some x w h0 h1 r hfi
end Go.Proofs.Ythkheffilabhlaa
