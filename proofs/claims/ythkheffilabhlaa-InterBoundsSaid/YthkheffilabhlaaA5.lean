/-
  For InterBounds: ops.Encode has a word just where a row's word decodes back.
-/
import Derived.Test.YthkheffilabhlaaA4
set_option linter.unusedSimpArgs false
set_option linter.unusedVariables false
namespace Go.Proofs.Ythkheffilabhlaa
open Go.RowKit Go.Proofs.YthkheffilabhlaaW.PrintWords Go.Proofs.YthkheffilabhlaaW.PrintLast Go.Proofs.YthkheffilabhlaaW.PrintMore
attribute [local go_sem high] PInterBounds.eqA25
def getF (f : FD) (o : OD) : Int := if f.at_ = 15 then o.x else if f.at_ = 17 then o.y else if f.at_ = 19 then o.n else if f.at_ = 21 then o.b else o.a
structure Fits (o : OD) : Prop where
  op : 0 ≤ o.op ∧ o.op ≤ 255
  x : 0 ≤ o.x ∧ o.x ≤ 255
  y : 0 ≤ o.y ∧ o.y ≤ 255
  n : 0 ≤ o.n ∧ o.n ≤ 255
  b : 0 ≤ o.b ∧ o.b ≤ 255
  a : 0 ≤ o.a ∧ o.a ≤ 65535
def eqO (p o : OD) : Bool := (p.op == o.op && (p.x == o.x && (p.y == o.y && (p.n == o.n && (p.b == o.b && (p.a == o.a))))))
def wstep (o : OD) (z : Int) (f : FD) : Int := bits .or .u16 z (IntKind.u16.wrap (IntKind.u16.wrap (bits .and .i64 (getF f o) (2 ^ (4 * f.digits).toNat - 1)) * 2 ^ f.shift.toNat))
def wordOf (r : RD) (o : OD) : Int := r.fields.foldl (wstep o) r.word
def encHit (o : OD) (r : RD) : Bool := !(r.op != o.op) && (match decD (wordOf r o) with | some p => eqO p o | none => false)
theorem ws_X (o : OD) (z : Int) : wstep o z fX = bits .or .u16 z (IntKind.u16.wrap (IntKind.u16.wrap (bits .and .i64 o.x 15) * 256)) := rfl
theorem ws_Y (o : OD) (z : Int) : wstep o z fY = bits .or .u16 z (IntKind.u16.wrap (IntKind.u16.wrap (bits .and .i64 o.y 15) * 16)) := rfl
theorem ws_N (o : OD) (z : Int) : wstep o z fN = bits .or .u16 z (IntKind.u16.wrap (IntKind.u16.wrap (bits .and .i64 o.n 15))) := by
  show bits .or .u16 z (IntKind.u16.wrap (IntKind.u16.wrap _ * 1)) = _
  rw [Int.mul_one]; rfl
theorem ws_B (o : OD) (z : Int) : wstep o z fB = bits .or .u16 z (IntKind.u16.wrap (IntKind.u16.wrap (bits .and .i64 o.b 255))) := by
  show bits .or .u16 z (IntKind.u16.wrap (IntKind.u16.wrap _ * 1)) = _
  rw [Int.mul_one]; rfl
theorem ws_A (o : OD) (z : Int) : wstep o z fA = bits .or .u16 z (IntKind.u16.wrap (IntKind.u16.wrap (bits .and .i64 o.a 4095))) := by
  show bits .or .u16 z (IntKind.u16.wrap (IntKind.u16.wrap _ * 1)) = _
  rw [Int.mul_one]; rfl
theorem wstep_range (o : OD) (z : Int) (f : FD) : 0 ≤ wstep o z f ∧ wstep o z f ≤ 65535 := by
  have : ∀ n : Int, IntKind.u16.wrap n = n % 65536 := fun n => by simp [IntKind.wrap, IntKind.bits, IntKind.signed]
  unfold wstep bits
  simp only [this]
  omega
theorem foldl_range (o : OD) (P : Int → Prop) (h : ∀ z f, P (wstep o z f)) : ∀ (l : List FD) (z : Int), P z → P (l.foldl (wstep o) z)
  | [], _, hz => hz
  | f :: l, z, _ => foldl_range o P h l _ (h z f)
theorem rows_word : ∀ r ∈ rowsD, 0 ≤ r.word ∧ r.word ≤ 65535 := by decide
theorem wordOf_range (r : RD) (hr : r ∈ rowsD) (o : OD) : 0 ≤ wordOf r o ∧ wordOf r o ≤ 65535 := foldl_range o (fun z => 0 ≤ z ∧ z ≤ 65535) (wstep_range o) _ _ (rows_word r hr)
def EncPost (o : OD) (w : World) (e : Ending) (w' : World) : Prop :=
  Below w.heap.size w w' ∧ ∃ v c : Int, e = .returned (.tuple #[.int .u16 v, .int .i64 c]) ∧ ((c = 0 ∧ rowsD.any (encHit o) = true) ∨ (c = 160 ∧ rowsD.any (encHit o) = false))
theorem any_false (p : RD → Bool) (h : ∀ j, j < 31 → p (rowsD.getD j z44) = false) : rowsD.any p = false := by
  rw [List.any_eq_false]
  intro x hx
  obtain ⟨j, hj, rfl⟩ := List.getElem_of_mem hx
  have := h j hj
  simp only [List.getD_eq_getElem?_getD, List.getElem?_eq_getElem hj, Option.getD_some] at this
  simp [this]
set_option maxRecDepth 100000 in
set_option maxHeartbeats 2000000 in
theorem encode_calls (o : OD) (ho : Fits o) (w : World) : Calls Try.prog 6 #[.agg (ocells o)] w (EncPost o w) := by
  unfold ocells
  go_enter Try.func6, Try.ntmps6
  go_wp2_with (go_at_call 11; refine (rows_calls _).mono ?_; rintro e w1 ⟨A, rfl, HC, hb⟩)
  have HB0 := Aside0.mk (below_step (below_alloc (Below.refl _ w) (.cells #[.int .u8 o.op, .int .u8 o.x, .int .u8 o.y, .int .u8 o.n, .int .u8 o.b, .int .u16 o.a] 25)) hb)
  have BK0 := Aside0.mk (blk_below (blk_new w (.cells #[.int .u8 o.op, .int .u8 o.x, .int .u8 o.y, .int .u8 o.n, .int .u8 o.b, .int .u16 o.a] 25)) hb)
  have HC1 : kR.R 44 w1 (w.heap.size + 1) (fun _ => True) (.slice (some ⟨A, 0, none⟩) 31 31) rowsD := by simpa using HC
  have HC0 := Aside0.mk HC1
  clear HC hb HC1
  go_loopw [13] (fun i wr => ∃ k : Nat, k ≤ 31 ∧ i = .int .i64 k ∧ Aside0 (∀ j, j < k → encHit o (rowsD.getD j z44) = false) ∧ Aside0 (Below w.heap.size w wr) ∧ Aside0 (kR.R 44 wr (w.heap.size + 1) (fun _ => True) (.slice (some ⟨A, 0, none⟩) 31 31) rowsD) ∧ Aside0 (wr.heap[w.heap.size]? = some (.cells (ocells o) 25 (0, 0)))) (fun i _ => 31 - (intOf i).toNat)
  case atStart => exact ⟨0, by omega, rfl, ⟨fun j hj => by omega⟩, HB0, HC0, BK0⟩
  case round =>
    obtain ⟨k, hk, rfl, Hm, HB, HC, BK⟩ := hrel
    have z0 : wr.cell? ⟨w.heap.size, 0, none⟩ = some (.int .u8 o.op) := (blk_cell BK.out 0).trans rfl
    have hlw : w.heap.size < wr.heap.size := blk_lt BK.out
    by_cases hlt : k < 31
    · have hd : decide ((k : Int) < 31) = true := by simp; omega
      obtain ⟨B, c, hc0, hc1, hc2, hc3, hc4, hF⟩ := at_R HC.out k hlt
      have hrm : rowsD.getD k z44 ∈ rowsD := by rw [List.getD_eq_getElem?_getD, List.getElem?_eq_getElem (show k < rowsD.length from hlt)]; exact List.getElem_mem _
      generalize hr : rowsD.getD k z44 = r at hc0 hc1 hc2 hc3 hc4 hF hrm
      have HR := Aside0.mk hr
      have HF := Aside0.mk hF
      have HRM := Aside0.mk hrm
      clear hr hF hrm
      cases hop : (r.op != o.op) with
      | true =>
        have HH : Aside0 (encHit o r = false) := ⟨by unfold encHit; rw [hop]; rfl⟩
        go_wp2
        go_roundw
        case rel => exact ⟨k + 1, by omega, by go_num, ⟨fun j hj => by
          rcases Nat.lt_succ_iff_lt_or_eq.1 hj with h | rfl
          · exact Hm.out j h
          · rw [HR.out]; exact HH.out⟩, ⟨below_alloc HB.out _⟩, ⟨Kd.R_alloc HC.out _⟩, ⟨blk_alloc BK.out _⟩⟩
        case measure => simp [intOf]; omega
      | false =>
        go_wp2_with fail
        have HB1 := Aside0.mk (below_alloc HB.out (.cells #[.int .u8 r.op, .int .u16 r.mask, .int .u16 r.word, .string r.name, .slice B r.fields.length c] 44))
        have HC1 := Aside0.mk (Kd.R_alloc HC.out (.cells #[.int .u8 r.op, .int .u16 r.mask, .int .u16 r.word, .string r.name, .slice B r.fields.length c] 44))
        have BK1 := Aside0.mk (blk_alloc BK.out (.cells #[.int .u8 r.op, .int .u16 r.mask, .int .u16 r.word, .string r.name, .slice B r.fields.length c] 44))
        have HF1 := Aside0.mk (Kd.R_alloc HF.out (.cells #[.int .u8 r.op, .int .u16 r.mask, .int .u16 r.word, .string r.name, .slice B r.fields.length c] 44))
        generalize wr.alloc (.cells #[.int .u8 r.op, .int .u16 r.mask, .int .u16 r.word, .string r.name, .slice B r.fields.length c] 44) = wo at *
        generalize wr.heap.size = gr at *
        have hlen : r.fields.length ≤ 3 := by
          have h3 : ∀ x ∈ rowsD, x.fields.length ≤ 3 := by decide
          exact h3 r HRM.out
        clear HB HC BK HF z0 hc0 hc1 hc2 hc3 hc4
        go_loopw [6, 27] (fun v i wi => ∃ j : Nat, j ≤ r.fields.length ∧ i = .int .i64 j ∧ (∃ z, v = .int .u16 z ∧ Aside0 ((r.fields.take j).foldl (wstep o) r.word = z)) ∧ Aside0 (Below w.heap.size w wi) ∧ Aside0 (kR.R 44 wi (w.heap.size + 1) (fun _ => True) (.slice (some ⟨A, 0, none⟩) 31 31) rowsD) ∧ Aside0 (kF.R 48 wi (w.heap.size + 1) (fun _ => True) (.slice B r.fields.length c) r.fields) ∧ Aside0 (wi.heap[w.heap.size]? = some (.cells (ocells o) 25 (0, 0)))) (fun _ i _ => 3 - (intOf i).toNat)
        case atStart => exact ⟨0, by omega, rfl, ⟨_, rfl, ⟨rfl⟩⟩, HB1, HC1, HF1, BK1⟩
        case round =>
          obtain ⟨j, hj, rfl, ⟨z, rfl, HZ⟩, HB, HC, HF, BK⟩ := hrel
          by_cases hlj : j < r.fields.length
          · obtain ⟨_, _, hC⟩ := Kd.R_reads' HF.out
            obtain ⟨ad, e, hd0, hd1, hd2, hd3, hd4⟩ := at_F hC j hlj
            subst e
            have hmem : r.fields.getD j z48 ∈ r.fields := by rw [List.getD_eq_getElem?_getD, List.getElem?_eq_getElem hlj]; exact List.getElem_mem hlj
            have hcase := rows_fields r HRM.out _ hmem
            generalize hf : r.fields.getD j z48 = f at hd0 hd1 hd2 hd3 hd4 hcase
            have HFK := Aside0.mk hf
            clear hf hC hmem
            rcases hcase with rfl | rfl | rfl | rfl | rfl
            · simp only [fX] at hd0 hd1 hd2 hd3 hd4
              have hx : (wr.alloc (.cells #[.int .i64 8, .int .i64 1, .string ⟨#[118]⟩, .func (.func 15) #[] #[], .func (.func 16) #[] #[]] 48)).cell? ⟨w.heap.size, 1, none⟩ = some (.int .u8 o.x) := (blk_cell (blk_alloc BK.out _) 1).trans rfl
              have hwi : w.heap.size < wr.heap.size := blk_lt BK.out
              have hox := ho.x
              go_wp2_with fail
              have q4 : IntKind.i64.wrap 4 = 4 := by decide
              have q8 : IntKind.i64.wrap 8 = 8 := by decide
              have q12 : IntKind.i64.wrap 12 = 12 := by decide
              go_quiet ((go_at_call 15; exact Calls.quiet_of_same (at15 _ o.x _ (by omega) (by omega) (by exact hx))))
              go_wp2
              go_roundw
              case rel => exact ⟨j + 1, by omega, by go_num, ⟨_, by rw [← ws_X], ⟨by rw [take_foldl _ _ _ j z48 hlj, HFK.out, HZ.out]⟩⟩, ⟨pw_below_drewN (below_alloc HB.out _) _⟩, ⟨Kd.R_drewN (Kd.R_alloc HC.out _) _⟩, ⟨Kd.R_drewN (Kd.R_alloc HF.out _) _⟩, ⟨blk_drewN (blk_alloc BK.out _) _⟩⟩
              case measure => simp [intOf]; omega
            · simp only [fY] at hd0 hd1 hd2 hd3 hd4
              have hx : (wr.alloc (.cells #[.int .i64 4, .int .i64 1, .string ⟨#[118]⟩, .func (.func 17) #[] #[], .func (.func 18) #[] #[]] 48)).cell? ⟨w.heap.size, 2, none⟩ = some (.int .u8 o.y) := (blk_cell (blk_alloc BK.out _) 2).trans rfl
              have hwi : w.heap.size < wr.heap.size := blk_lt BK.out
              have hox := ho.y
              go_wp2_with fail
              have q4 : IntKind.i64.wrap 4 = 4 := by decide
              have q8 : IntKind.i64.wrap 8 = 8 := by decide
              have q12 : IntKind.i64.wrap 12 = 12 := by decide
              go_quiet ((go_at_call 17; exact Calls.quiet_of_same (at17 _ o.y _ (by omega) (by omega) (by exact hx))))
              go_wp2
              go_roundw
              case rel => exact ⟨j + 1, by omega, by go_num, ⟨_, by rw [← ws_Y], ⟨by rw [take_foldl _ _ _ j z48 hlj, HFK.out, HZ.out]⟩⟩, ⟨pw_below_drewN (below_alloc HB.out _) _⟩, ⟨Kd.R_drewN (Kd.R_alloc HC.out _) _⟩, ⟨Kd.R_drewN (Kd.R_alloc HF.out _) _⟩, ⟨blk_drewN (blk_alloc BK.out _) _⟩⟩
              case measure => simp [intOf]; omega
            · simp only [fN] at hd0 hd1 hd2 hd3 hd4
              have hx : (wr.alloc (.cells #[.int .i64 0, .int .i64 1, .string ⟨#[]⟩, .func (.func 19) #[] #[], .func (.func 20) #[] #[]] 48)).cell? ⟨w.heap.size, 3, none⟩ = some (.int .u8 o.n) := (blk_cell (blk_alloc BK.out _) 3).trans rfl
              have hwi : w.heap.size < wr.heap.size := blk_lt BK.out
              have hox := ho.n
              go_wp2_with fail
              have q4 : IntKind.i64.wrap 4 = 4 := by decide
              have q8 : IntKind.i64.wrap 8 = 8 := by decide
              have q12 : IntKind.i64.wrap 12 = 12 := by decide
              go_quiet ((go_at_call 19; exact Calls.quiet_of_same (at19 _ o.n _ (by omega) (by omega) (by exact hx))))
              go_wp2
              go_roundw
              case rel => exact ⟨j + 1, by omega, by go_num, ⟨_, by rw [← ws_N], ⟨by rw [take_foldl _ _ _ j z48 hlj, HFK.out, HZ.out]⟩⟩, ⟨pw_below_drewN (below_alloc HB.out _) _⟩, ⟨Kd.R_drewN (Kd.R_alloc HC.out _) _⟩, ⟨Kd.R_drewN (Kd.R_alloc HF.out _) _⟩, ⟨blk_drewN (blk_alloc BK.out _) _⟩⟩
              case measure => simp [intOf]; omega
            · simp only [fB] at hd0 hd1 hd2 hd3 hd4
              have hx : (wr.alloc (.cells #[.int .i64 0, .int .i64 2, .string ⟨#[]⟩, .func (.func 21) #[] #[], .func (.func 22) #[] #[]] 48)).cell? ⟨w.heap.size, 4, none⟩ = some (.int .u8 o.b) := (blk_cell (blk_alloc BK.out _) 4).trans rfl
              have hwi : w.heap.size < wr.heap.size := blk_lt BK.out
              have hox := ho.b
              go_wp2_with fail
              have q4 : IntKind.i64.wrap 4 = 4 := by decide
              have q8 : IntKind.i64.wrap 8 = 8 := by decide
              have q12 : IntKind.i64.wrap 12 = 12 := by decide
              go_quiet ((go_at_call 21; exact Calls.quiet_of_same (at21 _ o.b _ (by omega) (by omega) (by exact hx))))
              go_wp2
              go_roundw
              case rel => exact ⟨j + 1, by omega, by go_num, ⟨_, by rw [← ws_B], ⟨by rw [take_foldl _ _ _ j z48 hlj, HFK.out, HZ.out]⟩⟩, ⟨pw_below_drewN (below_alloc HB.out _) _⟩, ⟨Kd.R_drewN (Kd.R_alloc HC.out _) _⟩, ⟨Kd.R_drewN (Kd.R_alloc HF.out _) _⟩, ⟨blk_drewN (blk_alloc BK.out _) _⟩⟩
              case measure => simp [intOf]; omega
            · simp only [fA] at hd0 hd1 hd2 hd3 hd4
              have hx : (wr.alloc (.cells #[.int .i64 0, .int .i64 3, .string ⟨#[]⟩, .func (.func 23) #[] #[], .func (.func 24) #[] #[]] 48)).cell? ⟨w.heap.size, 5, none⟩ = some (.int .u16 o.a) := (blk_cell (blk_alloc BK.out _) 5).trans rfl
              have hwi : w.heap.size < wr.heap.size := blk_lt BK.out
              have hox := ho.a
              go_wp2_with fail
              have q4 : IntKind.i64.wrap 4 = 4 := by decide
              have q8 : IntKind.i64.wrap 8 = 8 := by decide
              have q12 : IntKind.i64.wrap 12 = 12 := by decide
              go_quiet ((go_at_call 23; exact Calls.quiet_of_same (at23 _ o.a _ (by omega) (by omega) (by exact hx))))
              go_wp2
              go_roundw
              case rel => exact ⟨j + 1, by omega, by go_num, ⟨_, by rw [← ws_A], ⟨by rw [take_foldl _ _ _ j z48 hlj, HFK.out, HZ.out]⟩⟩, ⟨pw_below_drewN (below_alloc HB.out _) _⟩, ⟨Kd.R_drewN (Kd.R_alloc HC.out _) _⟩, ⟨Kd.R_drewN (Kd.R_alloc HF.out _) _⟩, ⟨blk_drewN (blk_alloc BK.out _) _⟩⟩
              case measure => simp [intOf]; omega
          · have hjl : j = r.fields.length := by omega
            have HZ2 : Aside0 (wordOf r o = z) := ⟨by rw [← HZ.out, hjl, List.take_length]; rfl⟩
            clear hjl
            have hz := wordOf_range r HRM.out o
            rw [HZ2.out] at hz
            obtain ⟨hz0, hz1⟩ := hz
            have z0 : wr.cell? ⟨w.heap.size, 0, none⟩ = some (.int .u8 o.op) := (blk_cell BK.out 0).trans rfl
            have z1 : wr.cell? ⟨w.heap.size, 1, none⟩ = some (.int .u8 o.x) := (blk_cell BK.out 1).trans rfl
            have z2 : wr.cell? ⟨w.heap.size, 2, none⟩ = some (.int .u8 o.y) := (blk_cell BK.out 2).trans rfl
            have z3 : wr.cell? ⟨w.heap.size, 3, none⟩ = some (.int .u8 o.n) := (blk_cell BK.out 3).trans rfl
            have z4 : wr.cell? ⟨w.heap.size, 4, none⟩ = some (.int .u8 o.b) := (blk_cell BK.out 4).trans rfl
            have z5 : wr.cell? ⟨w.heap.size, 5, none⟩ = some (.int .u16 o.a) := (blk_cell BK.out 5).trans rfl
            have hlw2 : w.heap.size < wr.heap.size := blk_lt BK.out
            go_wp2_with fail
            refine (decode_calls z _ hz0 hz1).mono ?_
            rintro e w3 ⟨hb, rfl⟩
            have HB2 := Aside0.mk (below_step HB.out hb)
            have HC2 := Aside0.mk (Kd.R_below HC.out hb)
            have BK2 := Aside0.mk (blk_below BK.out hb)
            have y0 := pw_cell_below hb z0
            have y1 := pw_cell_below hb z1
            have y2 := pw_cell_below hb z2
            have y3 := pw_cell_below hb z3
            have y4 := pw_cell_below hb z4
            have y5 := pw_cell_below hb z5
            have hlw3 : w.heap.size < w3.heap.size := blk_lt BK2.out
            clear z0 z1 z2 z3 z4 z5 hb
            cases hdz : decD z with
            | none =>
              have HH : Aside0 (encHit o r = false) := ⟨by unfold encHit; rw [HZ2.out, hdz]; simp⟩
              clear hdz
              simp only [ocells, Option.getD_none, Option.isSome_none]
              go_wp2
              go_roundw
              case rel => exact ⟨k + 1, by omega, by go_num, ⟨fun j hj => by
                rcases Nat.lt_succ_iff_lt_or_eq.1 hj with h | rfl
                · exact Hm.out j h
                · rw [HR.out]; exact HH.out⟩, ⟨below_alloc HB2.out _⟩, ⟨Kd.R_alloc HC2.out _⟩, ⟨blk_alloc BK2.out _⟩⟩
              case measure => simp [intOf]; omega
            | some p =>
              simp only [ocells, Option.getD_some, Option.isSome_some]
              cases heq : (p.op == o.op && (p.x == o.x && (p.y == o.y && (p.n == o.n && (p.b == o.b && (p.a == o.a)))))) with
              | true =>
                have HH : Aside0 (encHit o r = true) := ⟨by unfold encHit eqO; rw [HZ2.out, hdz, hop]; simp only [heq]; rfl⟩
                clear hdz
                go_wp2
                go_ret2
                exact ⟨below_alloc HB2.out _, _, _, rfl, .inl ⟨rfl, List.any_eq_true.2 ⟨r, HRM.out, HH.out⟩⟩⟩
              | false =>
                have HH : Aside0 (encHit o r = false) := ⟨by unfold encHit eqO; rw [HZ2.out, hdz]; simp only [heq]; simp⟩
                clear hdz
                go_wp2
                go_roundw
                case rel => exact ⟨k + 1, by omega, by go_num, ⟨fun j hj => by
                  rcases Nat.lt_succ_iff_lt_or_eq.1 hj with h | rfl
                  · exact Hm.out j h
                  · rw [HR.out]; exact HH.out⟩, ⟨below_alloc HB2.out _⟩, ⟨Kd.R_alloc HC2.out _⟩, ⟨blk_alloc BK2.out _⟩⟩
                case measure => simp [intOf]; omega
    · go_wp2
      go_ret2
      exact ⟨HB.out, _, _, rfl, .inr ⟨rfl, any_false _ (fun j hj => Hm.out j (by omega))⟩⟩
end Go.Proofs.Ythkheffilabhlaa
