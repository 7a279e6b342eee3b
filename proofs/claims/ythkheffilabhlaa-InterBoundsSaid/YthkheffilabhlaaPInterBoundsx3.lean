-- PRINTED BY print.sh 35421559b90ae4d0a3588c463048766b98c2df88dd9212a6774a882060cdf62d: not written by this session
import Derived.Test.YthkheffilabhlaaPInterBoundsx0
import Derived.Test.YthkheffilabhlaaPInterBoundsx2
namespace Go.Proofs.Ythkheffilabhlaa.PInterBounds
open Go.RowKit Go.Proofs.YthkheffilabhlaaW.PrintWords Go.Proofs.YthkheffilabhlaaW.PrintLast Go.Proofs.YthkheffilabhlaaW.PrintMore
attribute [local go_sem] max2_int min2_int max_two min_two max_three min_three max_four min_four   -- for this text's walks alone
set_option linter.unusedVariables false
set_option linter.unusedSimpArgs false

/-! ### vesperref16_Word_order: function 14 -/
mutual
def vesperref16_Word_order.j0 : Nat → Int → Int → Int → ByteArray → ByteArray → Int → Int → Int → Int → Int → Int → Option (Int × Int × Int × Int × Int × Int)
  | 0, _, _, _, _, _, _, _, _, _, _, _ => none
  | k + 1, x1, x117000, x117001, x117002, x117003, x119000, x119001, x119002, x119003, x119004, x119005 => (vesperref16_Word_has.f k x117000 x117001 x117002 x117003 121).bind fun t120 => (if t120 = true then (vesperref16_Word_order.j1 k x1 x117000 x117001 x117002 x117003 x119000 x119001 ((Int.tmod (IntKind.u16.wrap (Int.tdiv x1 16)) 16) % 256) x119003 x119004 x119005) else (vesperref16_Word_order.j1 k x1 x117000 x117001 x117002 x117003 x119000 x119001 x119002 x119003 x119004 x119005))
def vesperref16_Word_order.j1 : Nat → Int → Int → Int → ByteArray → ByteArray → Int → Int → Int → Int → Int → Int → Option (Int × Int × Int × Int × Int × Int)
  | 0, _, _, _, _, _, _, _, _, _, _, _ => none
  | k + 1, x1, x117000, x117001, x117002, x117003, x119000, x119001, x119002, x119003, x119004, x119005 => (vesperref16_Word_has.f k x117000 x117001 x117002 x117003 110).bind fun t121 => (if t121 = true then (vesperref16_Word_order.j2 k x1 x117000 x117001 x117002 x117003 x119000 x119001 x119002 ((Int.tmod x1 16) % 256) x119004 x119005) else (vesperref16_Word_order.j2 k x1 x117000 x117001 x117002 x117003 x119000 x119001 x119002 x119003 x119004 x119005))
def vesperref16_Word_order.j2 : Nat → Int → Int → Int → ByteArray → ByteArray → Int → Int → Int → Int → Int → Int → Option (Int × Int × Int × Int × Int × Int)
  | 0, _, _, _, _, _, _, _, _, _, _, _ => none
  | k + 1, x1, x117000, x117001, x117002, x117003, x119000, x119001, x119002, x119003, x119004, x119005 => (vesperref16_Word_has.f k x117000 x117001 x117002 x117003 98).bind fun t122 => (if t122 = true then ((vesperref16_Word_has.f k x117000 x117001 x117002 x117003 97).bind fun t123 => (if t123 = true then (some (x119000, x119001, x119002, x119003, (Int.tmod x1 256) % 256, Int.tmod x1 4096)) else (some (x119000, x119001, x119002, x119003, (Int.tmod x1 256) % 256, x119005)))) else ((vesperref16_Word_has.f k x117000 x117001 x117002 x117003 97).bind fun t124 => (if t124 = true then (some (x119000, x119001, x119002, x119003, x119004, Int.tmod x1 4096)) else (some (x119000, x119001, x119002, x119003, x119004, x119005)))))
end
def vesperref16_Word_order.f (k : Nat) (a0_0 : Int) (a0_1 : Int) (a0_2 : ByteArray) (a0_3 : ByteArray) (a1 : Int) : Option (Int × Int × Int × Int × Int × Int) := (vesperref16_Word_has.f k a0_0 a0_1 a0_2 a0_3 120).bind fun t119 => (if t119 = true then (vesperref16_Word_order.j0 k a1 a0_0 a0_1 a0_2 a0_3 a0_0 ((Int.tmod (IntKind.u16.wrap (Int.tdiv a1 256)) 16) % 256) 0 0 0 0) else (vesperref16_Word_order.j0 k a1 a0_0 a0_1 a0_2 a0_3 a0_0 0 0 0 0 0))
theorem vesperref16_Word_order.mono_l : ∀ k, (∀ y0 y1 y2 y3 y4 y5 y6 y7 y8 y9 y10, LeO (vesperref16_Word_order.j0 k y0 y1 y2 y3 y4 y5 y6 y7 y8 y9 y10) (vesperref16_Word_order.j0 (k + 1) y0 y1 y2 y3 y4 y5 y6 y7 y8 y9 y10)) ∧ (∀ y0 y1 y2 y3 y4 y5 y6 y7 y8 y9 y10, LeO (vesperref16_Word_order.j1 k y0 y1 y2 y3 y4 y5 y6 y7 y8 y9 y10) (vesperref16_Word_order.j1 (k + 1) y0 y1 y2 y3 y4 y5 y6 y7 y8 y9 y10)) ∧ (∀ y0 y1 y2 y3 y4 y5 y6 y7 y8 y9 y10, LeO (vesperref16_Word_order.j2 k y0 y1 y2 y3 y4 y5 y6 y7 y8 y9 y10) (vesperref16_Word_order.j2 (k + 1) y0 y1 y2 y3 y4 y5 y6 y7 y8 y9 y10))
  | 0 => ⟨fun _ _ _ _ _ _ _ _ _ _ _ r h => by simp [vesperref16_Word_order.j0] at h, fun _ _ _ _ _ _ _ _ _ _ _ r h => by simp [vesperref16_Word_order.j1] at h, fun _ _ _ _ _ _ _ _ _ _ _ r h => by simp [vesperref16_Word_order.j2] at h⟩
  | k + 1 => by
    obtain ⟨ih0, ih1, ih2⟩ := vesperref16_Word_order.mono_l k
    refine ⟨?_, ?_, ?_⟩
    · intro y0 y1 y2 y3 y4 y5 y6 y7 y8 y9 y10
      unfold vesperref16_Word_order.j0
      repeat' first
      | (with_reducible exact ih0 _ _ _ _ _ _ _ _ _ _ _)
      | (with_reducible exact ih1 _ _ _ _ _ _ _ _ _ _ _)
      | (with_reducible exact ih2 _ _ _ _ _ _ _ _ _ _ _)
      | (with_reducible exact vesperref16_Word_has.mono _ _ _ _ _ _)
      | (with_reducible exact LeO.refl _)
      | (with_reducible exact LeO.none _)
      | (with_reducible refine LeO.ite ?_ ?_)
      | (with_reducible refine LeO.bind ?_ (fun _ => ?_))
      | exact ih0 _ _ _ _ _ _ _ _ _ _ _
      | exact ih1 _ _ _ _ _ _ _ _ _ _ _
      | exact ih2 _ _ _ _ _ _ _ _ _ _ _
      | exact vesperref16_Word_has.mono _ _ _ _ _ _
      | exact LeO.none _
      | refine LeO.ite ?_ ?_
      | refine LeO.bind ?_ (fun _ => ?_)
    · intro y0 y1 y2 y3 y4 y5 y6 y7 y8 y9 y10
      unfold vesperref16_Word_order.j1
      repeat' first
      | (with_reducible exact ih0 _ _ _ _ _ _ _ _ _ _ _)
      | (with_reducible exact ih1 _ _ _ _ _ _ _ _ _ _ _)
      | (with_reducible exact ih2 _ _ _ _ _ _ _ _ _ _ _)
      | (with_reducible exact vesperref16_Word_has.mono _ _ _ _ _ _)
      | (with_reducible exact LeO.refl _)
      | (with_reducible exact LeO.none _)
      | (with_reducible refine LeO.ite ?_ ?_)
      | (with_reducible refine LeO.bind ?_ (fun _ => ?_))
      | exact ih0 _ _ _ _ _ _ _ _ _ _ _
      | exact ih1 _ _ _ _ _ _ _ _ _ _ _
      | exact ih2 _ _ _ _ _ _ _ _ _ _ _
      | exact vesperref16_Word_has.mono _ _ _ _ _ _
      | exact LeO.none _
      | refine LeO.ite ?_ ?_
      | refine LeO.bind ?_ (fun _ => ?_)
    · intro y0 y1 y2 y3 y4 y5 y6 y7 y8 y9 y10
      unfold vesperref16_Word_order.j2
      repeat' first
      | (with_reducible exact ih0 _ _ _ _ _ _ _ _ _ _ _)
      | (with_reducible exact ih1 _ _ _ _ _ _ _ _ _ _ _)
      | (with_reducible exact ih2 _ _ _ _ _ _ _ _ _ _ _)
      | (with_reducible exact vesperref16_Word_has.mono _ _ _ _ _ _)
      | (with_reducible exact LeO.refl _)
      | (with_reducible exact LeO.none _)
      | (with_reducible refine LeO.ite ?_ ?_)
      | (with_reducible refine LeO.bind ?_ (fun _ => ?_))
      | exact ih0 _ _ _ _ _ _ _ _ _ _ _
      | exact ih1 _ _ _ _ _ _ _ _ _ _ _
      | exact ih2 _ _ _ _ _ _ _ _ _ _ _
      | exact vesperref16_Word_has.mono _ _ _ _ _ _
      | exact LeO.none _
      | refine LeO.ite ?_ ?_
      | refine LeO.bind ?_ (fun _ => ?_)
theorem vesperref16_Word_order.mono : ∀ a0 a1 a2 a3 a4 k, LeO (vesperref16_Word_order.f k a0 a1 a2 a3 a4) (vesperref16_Word_order.f (k + 1) a0 a1 a2 a3 a4) := by
  intro a0 a1 a2 a3 a4 k
  obtain ⟨ih0, ih1, ih2⟩ := vesperref16_Word_order.mono_l k
  unfold vesperref16_Word_order.f
  repeat' first
      | (with_reducible exact ih0 _ _ _ _ _ _ _ _ _ _ _)
      | (with_reducible exact ih1 _ _ _ _ _ _ _ _ _ _ _)
      | (with_reducible exact ih2 _ _ _ _ _ _ _ _ _ _ _)
      | (with_reducible exact vesperref16_Word_has.mono _ _ _ _ _ _)
      | (with_reducible exact LeO.refl _)
      | (with_reducible exact LeO.none _)
      | (with_reducible refine LeO.ite ?_ ?_)
      | (with_reducible refine LeO.bind ?_ (fun _ => ?_))
      | exact ih0 _ _ _ _ _ _ _ _ _ _ _
      | exact ih1 _ _ _ _ _ _ _ _ _ _ _
      | exact ih2 _ _ _ _ _ _ _ _ _ _ _
      | exact vesperref16_Word_has.mono _ _ _ _ _ _
      | exact LeO.none _
      | refine LeO.ite ?_ ?_
      | refine LeO.bind ?_ (fun _ => ?_)
set_option maxHeartbeats 8000000 in
set_option maxRecDepth 100000 in
theorem vesperref16_Word_order.calls (k : Nat) (a0_0 : Int) (a0_1 : Int) (a0_2 : ByteArray) (a0_3 : ByteArray) (a1 : Int) (r1 : Int) (r2 : Int) (r3 : Int) (r4 : Int) (r5 : Int) (r6 : Int) (w : World) (h : vesperref16_Word_order.f k a0_0 a0_1 a0_2 a0_3 a1 = some (r1, r2, r3, r4, r5, r6)) :
    Calls Try.prog 14 #[.agg #[.int .u8 a0_0, .int .u16 a0_1, .string a0_2, .string a0_3], .int .u16 a1] w fun e w' => e = .returned (.agg #[.int .u8 r1, .int .u8 r2, .int .u8 r3, .int .u8 r4, .int .u8 r5, .int .u16 r6]) ∧ Below w.heap.size w w' := by
  have hu36 := Try.underlying36
  have hu25 := Try.underlying25
  have HB := Aside0.mk (Below.refl w.heap.size w)
  have H : ((vesperref16_Word_has.f k a0_0 a0_1 a0_2 a0_3 120).bind fun t119 => (if t119 = true then (vesperref16_Word_order.j0 k a1 a0_0 a0_1 a0_2 a0_3 a0_0 ((Int.tmod (IntKind.u16.wrap (Int.tdiv a1 256)) 16) % 256) 0 0 0 0) else (vesperref16_Word_order.j0 k a1 a0_0 a0_1 a0_2 a0_3 a0_0 0 0 0 0 0))) = some (r1, r2, r3, r4, r5, r6) := h
  clear h
  replace H := Option.bind_eq_some_iff.mp H
  obtain ⟨t119, A30, H⟩ := H
  replace H : (if t119 = true then (vesperref16_Word_order.j0 k a1 a0_0 a0_1 a0_2 a0_3 a0_0 ((Int.tmod (IntKind.u16.wrap (Int.tdiv a1 256)) 16) % 256) 0 0 0 0) else (vesperref16_Word_order.j0 k a1 a0_0 a0_1 a0_2 a0_3 a0_0 0 0 0 0 0)) = some (r1, r2, r3, r4, r5, r6) := H
  have A3 := Aside0.mk A30
  clear A30
  have HC4 := Aside0.mk H
  clear H
  go_enter Try.func14, Try.ntmps14
  go_upto_if 10 with (first | ((with_reducible refine gate_dst (N := 2) rfl ?_); refine box_event ?hg (N := 2) ?hd (cs := #[.int .u8 a0_0, .int .u16 a0_1, .string a0_2, .string a0_3]) (t := 36) ?hr ?_; (case hd => rfl); (case hg => rfl); (case hr => first | (go_simp; done) | (go_simp; rfl)); intro gb116 hg w5 hbox hb; have n0_ := Aside0.mk (below_step (by repeat (first | (with_reducible first | exact HB.out | apply below_alloc | apply pw_below_drewN | apply below_drew1) | exact HB.out)) hb); have n1_ := Aside0.mk (hbox); have n2_ := Aside0.mk ((by rw [hg]; exact (below_size (by repeat (first | (with_reducible first | exact HB.out | apply below_alloc | apply pw_below_drewN | apply below_drew1) | exact HB.out))) : w.heap.size ≤ gb116)); have n3_ := Aside0.mk ((by rw [hg]; exact (below_size (by repeat (first | (with_reducible first | exact HB.out | apply below_alloc | apply pw_below_drewN | apply below_drew1) | exact HB.out))) : w.heap.size ≤ gb116)); clear HB; have HB := n0_; have BK116 := n1_; have GW116 := n2_; have GE116 := n3_; clear n0_ n1_ n2_ n3_; clear hb hbox hg) | ((with_reducible refine gate_dst (N := 4) rfl ?_); refine box_event ?hg (N := 4) ?hd (cs := #[.int .u8 0, .int .u8 0, .int .u8 0, .int .u8 0, .int .u8 0, .int .u16 0]) (t := 25) ?hr ?_; (case hd => rfl); (case hg => rfl); (case hr => first | (go_simp; done) | (go_simp; rfl)); intro gb117 hg w6 hbox hb; have n0_ := Aside0.mk (blk_below (g := gb116) (o := .cells #[.int .u8 a0_0, .int .u16 a0_1, .string a0_2, .string a0_3] 36 (0, 0)) (by (with_reducible repeat (first | refine blk_drewN ?_ _ | refine blk_drew ?_ | refine blk_alloc ?_ _)); exact BK116.out) hb); have n1_ := Aside0.mk (below_step (by repeat (first | (with_reducible first | exact HB.out | apply below_alloc | apply pw_below_drewN | apply below_drew1 | refine below_set ?_ GE116.out) | exact HB.out)) hb); have n2_ := Aside0.mk (hbox); have n3_ := Aside0.mk ((by rw [hg]; exact (below_size (by repeat (first | (with_reducible first | exact HB.out | apply below_alloc | apply pw_below_drewN | apply below_drew1 | refine below_set ?_ GE116.out) | exact HB.out))) : w.heap.size ≤ gb117)); have n4_ := Aside0.mk ((by rw [hg]; exact (below_size (by repeat (first | (with_reducible first | exact HB.out | apply below_alloc | apply pw_below_drewN | apply below_drew1 | refine below_set ?_ GE116.out) | exact HB.out))) : w.heap.size ≤ gb117)); have n5_ := Aside0.mk ((by rw [hg]; exact Nat.ne_of_lt (blk_lt (g := gb116) (o := .cells #[.int .u8 a0_0, .int .u16 a0_1, .string a0_2, .string a0_3] 36 (0, 0)) (by (with_reducible repeat (first | refine blk_drewN ?_ _ | refine blk_drew ?_ | refine blk_alloc ?_ _)); exact BK116.out)) : gb116 ≠ gb117)); have n6_ := Aside0.mk ((by rw [hg]; exact Nat.ne_of_gt (blk_lt (g := gb116) (o := .cells #[.int .u8 a0_0, .int .u16 a0_1, .string a0_2, .string a0_3] 36 (0, 0)) (by (with_reducible repeat (first | refine blk_drewN ?_ _ | refine blk_drew ?_ | refine blk_alloc ?_ _)); exact BK116.out)) : gb117 ≠ gb116)); clear BK116; clear HB; have BK116 := n0_; have HB := n1_; have BK117 := n2_; have GW117 := n3_; have GE117 := n4_; have NB116_117 := n5_; have NB117_116 := n6_; clear n0_ n1_ n2_ n3_ n4_ n5_ n6_; clear hb hbox hg; have hnb7 := NB116_117.out; have hnc7 := NB117_116.out; have hcz8_0 : w6.cell? ⟨gb116, 0, none⟩ = some (.int .u8 a0_0) := (blk_cell BK116.out 0).trans rfl; have hcz8_1 : w6.cell? ⟨gb116, 1, none⟩ = some (.int .u16 a0_1) := (blk_cell BK116.out 1).trans rfl; have hcz8_2 : w6.cell? ⟨gb116, 2, none⟩ = some (.string a0_2) := (blk_cell BK116.out 2).trans rfl; have hcz8_3 : w6.cell? ⟨gb116, 3, none⟩ = some (.string a0_3) := (blk_cell BK116.out 3).trans rfl; have hfz8_0 := blk_frozen BK116.out 0; have hfz8_1 := blk_frozen BK116.out 1; have hfz8_2 := blk_frozen BK116.out 2; have hfz8_3 := blk_frozen BK116.out 3) | ((with_reducible refine gate_dst (N := 5) rfl ?_); refine box_event ?hg (N := 5) ?hd (cs := #[.int .u8 0, .int .u8 0, .int .u8 0, .int .u8 0, .int .u8 0, .int .u16 0]) (t := 25) ?hr ?_; (case hd => rfl); (case hg => rfl); (case hr => first | (go_simp; done) | (go_simp; rfl)); intro gb118 hg w9 hbox hb; have n0_ := Aside0.mk (blk_below (g := gb116) (o := .cells #[.int .u8 a0_0, .int .u16 a0_1, .string a0_2, .string a0_3] 36 (0, 0)) (by (with_reducible repeat (first | refine blk_drewN ?_ _ | refine blk_drew ?_ | refine blk_alloc ?_ _)); exact BK116.out) hb); have n1_ := Aside0.mk (blk_below (g := gb117) (o := .cells #[.int .u8 0, .int .u8 0, .int .u8 0, .int .u8 0, .int .u8 0, .int .u16 0] 25 (0, 0)) (by (with_reducible repeat (first | refine blk_drewN ?_ _ | refine blk_drew ?_ | refine blk_alloc ?_ _)); exact BK117.out) hb); have n2_ := Aside0.mk (below_step (by repeat (first | (with_reducible first | exact HB.out | apply below_alloc | apply pw_below_drewN | apply below_drew1 | refine below_set ?_ GE116.out | refine below_set ?_ GE117.out) | exact HB.out)) hb); have n3_ := Aside0.mk (hbox); have n4_ := Aside0.mk ((by rw [hg]; exact (below_size (by repeat (first | (with_reducible first | exact HB.out | apply below_alloc | apply pw_below_drewN | apply below_drew1 | refine below_set ?_ GE116.out | refine below_set ?_ GE117.out) | exact HB.out))) : w.heap.size ≤ gb118)); have n5_ := Aside0.mk ((by rw [hg]; exact (below_size (by repeat (first | (with_reducible first | exact HB.out | apply below_alloc | apply pw_below_drewN | apply below_drew1 | refine below_set ?_ GE116.out | refine below_set ?_ GE117.out) | exact HB.out))) : w.heap.size ≤ gb118)); have n6_ := Aside0.mk ((by rw [hg]; exact Nat.ne_of_lt (blk_lt (g := gb116) (o := .cells #[.int .u8 a0_0, .int .u16 a0_1, .string a0_2, .string a0_3] 36 (0, 0)) (by (with_reducible repeat (first | refine blk_drewN ?_ _ | refine blk_drew ?_ | refine blk_alloc ?_ _)); exact BK116.out)) : gb116 ≠ gb118)); have n7_ := Aside0.mk ((by rw [hg]; exact Nat.ne_of_gt (blk_lt (g := gb116) (o := .cells #[.int .u8 a0_0, .int .u16 a0_1, .string a0_2, .string a0_3] 36 (0, 0)) (by (with_reducible repeat (first | refine blk_drewN ?_ _ | refine blk_drew ?_ | refine blk_alloc ?_ _)); exact BK116.out)) : gb118 ≠ gb116)); have n8_ := Aside0.mk ((by rw [hg]; exact Nat.ne_of_lt (blk_lt (g := gb117) (o := .cells #[.int .u8 0, .int .u8 0, .int .u8 0, .int .u8 0, .int .u8 0, .int .u16 0] 25 (0, 0)) (by (with_reducible repeat (first | refine blk_drewN ?_ _ | refine blk_drew ?_ | refine blk_alloc ?_ _)); exact BK117.out)) : gb117 ≠ gb118)); have n9_ := Aside0.mk ((by rw [hg]; exact Nat.ne_of_gt (blk_lt (g := gb117) (o := .cells #[.int .u8 0, .int .u8 0, .int .u8 0, .int .u8 0, .int .u8 0, .int .u16 0] 25 (0, 0)) (by (with_reducible repeat (first | refine blk_drewN ?_ _ | refine blk_drew ?_ | refine blk_alloc ?_ _)); exact BK117.out)) : gb118 ≠ gb117)); clear BK116; clear BK117; clear HB; have BK116 := n0_; have BK117 := n1_; have HB := n2_; have BK118 := n3_; have GW118 := n4_; have GE118 := n5_; have NB116_118 := n6_; have NB118_116 := n7_; have NB117_118 := n8_; have NB118_117 := n9_; clear n0_ n1_ n2_ n3_ n4_ n5_ n6_ n7_ n8_ n9_; clear hb hbox hg; have hnb10 := NB118_116.out; have hnc10 := NB116_118.out; have hnb11 := NB118_117.out; have hnc11 := NB117_118.out; have hcz12_0 : w9.cell? ⟨gb118, 0, none⟩ = some (.int .u8 0) := (blk_cell BK118.out 0).trans rfl; have hcz12_1 : w9.cell? ⟨gb118, 1, none⟩ = some (.int .u8 0) := (blk_cell BK118.out 1).trans rfl; have hcz12_2 : w9.cell? ⟨gb118, 2, none⟩ = some (.int .u8 0) := (blk_cell BK118.out 2).trans rfl; have hcz12_3 : w9.cell? ⟨gb118, 3, none⟩ = some (.int .u8 0) := (blk_cell BK118.out 3).trans rfl; have hcz12_4 : w9.cell? ⟨gb118, 4, none⟩ = some (.int .u8 0) := (blk_cell BK118.out 4).trans rfl; have hcz12_5 : w9.cell? ⟨gb118, 5, none⟩ = some (.int .u16 0) := (blk_cell BK118.out 5).trans rfl; have hfz12_0 := blk_frozen BK118.out 0; have hfz12_1 := blk_frozen BK118.out 1; have hfz12_2 := blk_frozen BK118.out 2; have hfz12_3 := blk_frozen BK118.out 3; have hfz12_4 := blk_frozen BK118.out 4; have hfz12_5 := blk_frozen BK118.out 5; have hcz13_0 : w9.cell? ⟨gb116, 0, none⟩ = some (.int .u8 a0_0) := (blk_cell BK116.out 0).trans rfl; have hcz13_1 : w9.cell? ⟨gb116, 1, none⟩ = some (.int .u16 a0_1) := (blk_cell BK116.out 1).trans rfl; have hcz13_2 : w9.cell? ⟨gb116, 2, none⟩ = some (.string a0_2) := (blk_cell BK116.out 2).trans rfl; have hcz13_3 : w9.cell? ⟨gb116, 3, none⟩ = some (.string a0_3) := (blk_cell BK116.out 3).trans rfl; have hfz13_0 := blk_frozen BK116.out 0; have hfz13_1 := blk_frozen BK116.out 1; have hfz13_2 := blk_frozen BK116.out 2; have hfz13_3 := blk_frozen BK116.out 3) | ((with_reducible refine gate_callee (f := 13) rfl ?_); refine goesL_ (some 10) rfl rfl Try.func13 (by kernel_rfl) rfl #[.agg #[.int .u8 a0_0, .int .u16 a0_1, .string a0_2, .string a0_3], .int .u8 120] rfl (by (try simp only [List.map_toArray, List.map_cons, List.map_nil]); first | done | rfl | (simp only [List.length_drop, List.length_take]; rfl)) ?_; (with_reducible refine (vesperref16_Word_has.calls k a0_0 a0_1 a0_2 a0_3 120 t119 _ A3.out).mono ?_); rintro e w14 ⟨rfl, hb⟩; refine ⟨_, rfl, ?_⟩; have n0_ := Aside0.mk (blk_below (g := gb116) (o := .cells #[.int .u8 a0_0, .int .u16 a0_1, .string a0_2, .string a0_3] 36 (0, 0)) (by (with_reducible repeat (first | refine blk_drewN ?_ _ | refine blk_drew ?_ | refine blk_alloc ?_ _)); refine blk_far ?_ NB116_118.out _; (with_reducible repeat (first | refine blk_drewN ?_ _ | refine blk_drew ?_ | refine blk_alloc ?_ _)); refine blk_far ?_ NB116_118.out _; (with_reducible repeat (first | refine blk_drewN ?_ _ | refine blk_drew ?_ | refine blk_alloc ?_ _)); refine blk_far ?_ NB116_118.out _; (with_reducible repeat (first | refine blk_drewN ?_ _ | refine blk_drew ?_ | refine blk_alloc ?_ _)); refine blk_far ?_ NB116_118.out _; (with_reducible repeat (first | refine blk_drewN ?_ _ | refine blk_drew ?_ | refine blk_alloc ?_ _)); refine blk_far ?_ NB116_118.out _; (with_reducible repeat (first | refine blk_drewN ?_ _ | refine blk_drew ?_ | refine blk_alloc ?_ _)); refine blk_far ?_ NB116_118.out _; (with_reducible repeat (first | refine blk_drewN ?_ _ | refine blk_drew ?_ | refine blk_alloc ?_ _)); exact BK116.out) hb); have n1_ := Aside0.mk (blk_below (g := gb117) (o := .cells #[.int .u8 0, .int .u8 0, .int .u8 0, .int .u8 0, .int .u8 0, .int .u16 0] 25 (0, 0)) (by (with_reducible repeat (first | refine blk_drewN ?_ _ | refine blk_drew ?_ | refine blk_alloc ?_ _)); refine blk_far ?_ NB117_118.out _; (with_reducible repeat (first | refine blk_drewN ?_ _ | refine blk_drew ?_ | refine blk_alloc ?_ _)); refine blk_far ?_ NB117_118.out _; (with_reducible repeat (first | refine blk_drewN ?_ _ | refine blk_drew ?_ | refine blk_alloc ?_ _)); refine blk_far ?_ NB117_118.out _; (with_reducible repeat (first | refine blk_drewN ?_ _ | refine blk_drew ?_ | refine blk_alloc ?_ _)); refine blk_far ?_ NB117_118.out _; (with_reducible repeat (first | refine blk_drewN ?_ _ | refine blk_drew ?_ | refine blk_alloc ?_ _)); refine blk_far ?_ NB117_118.out _; (with_reducible repeat (first | refine blk_drewN ?_ _ | refine blk_drew ?_ | refine blk_alloc ?_ _)); refine blk_far ?_ NB117_118.out _; (with_reducible repeat (first | refine blk_drewN ?_ _ | refine blk_drew ?_ | refine blk_alloc ?_ _)); exact BK117.out) hb); have n2_ := Aside0.mk (blk_below (g := gb118) (o := .cells #[.int .u8 a0_0, .int .u8 0, .int .u8 0, .int .u8 0, .int .u8 0, .int .u16 0] 25 (0, 0)) (by (with_reducible repeat (first | refine blk_drewN ?_ _ | refine blk_drew ?_ | refine blk_alloc ?_ _)); refine blk_put (cs := #[.int .u8 a0_0, .int .u8 0, .int .u8 0, .int .u8 0, .int .u8 0, .int .u16 0]) ?_ 5 _ rfl; (with_reducible repeat (first | refine blk_drewN ?_ _ | refine blk_drew ?_ | refine blk_alloc ?_ _)); refine blk_put (cs := #[.int .u8 a0_0, .int .u8 0, .int .u8 0, .int .u8 0, .int .u8 0, .int .u16 0]) ?_ 4 _ rfl; (with_reducible repeat (first | refine blk_drewN ?_ _ | refine blk_drew ?_ | refine blk_alloc ?_ _)); refine blk_put (cs := #[.int .u8 a0_0, .int .u8 0, .int .u8 0, .int .u8 0, .int .u8 0, .int .u16 0]) ?_ 3 _ rfl; (with_reducible repeat (first | refine blk_drewN ?_ _ | refine blk_drew ?_ | refine blk_alloc ?_ _)); refine blk_put (cs := #[.int .u8 a0_0, .int .u8 0, .int .u8 0, .int .u8 0, .int .u8 0, .int .u16 0]) ?_ 2 _ rfl; (with_reducible repeat (first | refine blk_drewN ?_ _ | refine blk_drew ?_ | refine blk_alloc ?_ _)); refine blk_put (cs := #[.int .u8 a0_0, .int .u8 0, .int .u8 0, .int .u8 0, .int .u8 0, .int .u16 0]) ?_ 1 _ rfl; (with_reducible repeat (first | refine blk_drewN ?_ _ | refine blk_drew ?_ | refine blk_alloc ?_ _)); refine blk_put (cs := #[.int .u8 0, .int .u8 0, .int .u8 0, .int .u8 0, .int .u8 0, .int .u16 0]) ?_ 0 _ rfl; (with_reducible repeat (first | refine blk_drewN ?_ _ | refine blk_drew ?_ | refine blk_alloc ?_ _)); exact BK118.out) hb); have n3_ := Aside0.mk (below_step (by repeat (first | (with_reducible first | exact HB.out | apply below_alloc | apply pw_below_drewN | apply below_drew1 | refine below_set ?_ GE116.out | refine below_set ?_ GE117.out | refine below_set ?_ GE118.out) | exact HB.out)) hb); clear BK116; clear BK117; clear BK118; clear HB; have BK116 := n0_; have BK117 := n1_; have BK118 := n2_; have HB := n3_; clear n0_ n1_ n2_ n3_; (try clear hb); (try clear hb2); (try clear hk); (try clear hi)))
  (try simp only [Act.put, List.setIfInBounds_toArray, List.set_cons_zero, List.set_cons_succ])
  go_cut [] (fun wc => ∃ (kq : Nat) (x119001_3 : Int), Aside0 (vesperref16_Word_order.j0 kq a1 a0_0 a0_1 a0_2 a0_3 a0_0 x119001_3 0 0 0 0 = some (r1, r2, r3, r4, r5, r6)) ∧ Aside0 (kq ≤ k) ∧ Aside0 (wc.heap[gb116]? = some (.cells #[.int .u8 a0_0, .int .u16 a0_1, .string a0_2, .string a0_3] 36 (0, 0))) ∧ Aside0 (wc.heap[gb117]? = some (.cells #[.int .u8 0, .int .u8 0, .int .u8 0, .int .u8 0, .int .u8 0, .int .u16 0] 25 (0, 0))) ∧ Aside0 (wc.heap[gb118]? = some (.cells #[.int .u8 a0_0, .int .u8 x119001_3, .int .u8 0, .int .u8 0, .int .u8 0, .int .u16 0] 25 (0, 0))) ∧ Aside0 (Below w.heap.size w wc))
  case first =>
    have H := HC4.out
    clear HC4
    by_cases c15 : t119 = true
    · subst c15
      have H1 : (vesperref16_Word_order.j0 k a1 a0_0 a0_1 a0_2 a0_3 a0_0 ((Int.tmod (IntKind.u16.wrap (Int.tdiv a1 256)) 16) % 256) 0 0 0 0) = some (r1, r2, r3, r4, r5, r6) := by rw [if_pos rfl] at H; exact H
      clear H
      have H := H1
      clear H1
      have H' := Aside0.mk H
      clear H
      have hnb16 := NB118_116.out
      have hnc16 := NB116_118.out
      have hnb17 := NB118_117.out
      have hnc17 := NB117_118.out
      have hcz18_0 : w14.cell? ⟨gb118, 0, none⟩ = some (.int .u8 a0_0) := (blk_cell BK118.out 0).trans rfl
      have hcz18_1 : w14.cell? ⟨gb118, 1, none⟩ = some (.int .u8 0) := (blk_cell BK118.out 1).trans rfl
      have hcz18_2 : w14.cell? ⟨gb118, 2, none⟩ = some (.int .u8 0) := (blk_cell BK118.out 2).trans rfl
      have hcz18_3 : w14.cell? ⟨gb118, 3, none⟩ = some (.int .u8 0) := (blk_cell BK118.out 3).trans rfl
      have hcz18_4 : w14.cell? ⟨gb118, 4, none⟩ = some (.int .u8 0) := (blk_cell BK118.out 4).trans rfl
      have hcz18_5 : w14.cell? ⟨gb118, 5, none⟩ = some (.int .u16 0) := (blk_cell BK118.out 5).trans rfl
      have hfz18_0 := blk_frozen BK118.out 0
      have hfz18_1 := blk_frozen BK118.out 1
      have hfz18_2 := blk_frozen BK118.out 2
      have hfz18_3 := blk_frozen BK118.out 3
      have hfz18_4 := blk_frozen BK118.out 4
      have hfz18_5 := blk_frozen BK118.out 5
      go_wp2
      go_meet
      case rel => exact ⟨_, ((Int.tmod (IntKind.u16.wrap (Int.tdiv a1 256)) 16) % 256), H', ⟨by first | omega | exact Nat.le_refl _⟩, ⟨by (with_reducible repeat (first | refine blk_drewN ?_ _ | refine blk_drew ?_ | refine blk_alloc ?_ _)); refine blk_far ?_ NB116_118.out _; (with_reducible repeat (first | refine blk_drewN ?_ _ | refine blk_drew ?_ | refine blk_alloc ?_ _)); exact BK116.out⟩, ⟨by (with_reducible repeat (first | refine blk_drewN ?_ _ | refine blk_drew ?_ | refine blk_alloc ?_ _)); refine blk_far ?_ NB117_118.out _; (with_reducible repeat (first | refine blk_drewN ?_ _ | refine blk_drew ?_ | refine blk_alloc ?_ _)); exact BK117.out⟩, ⟨by (with_reducible repeat (first | refine blk_drewN ?_ _ | refine blk_drew ?_ | refine blk_alloc ?_ _)); refine blk_put (cs := #[.int .u8 a0_0, .int .u8 0, .int .u8 0, .int .u8 0, .int .u8 0, .int .u16 0]) ?_ 1 _ rfl; (with_reducible repeat (first | refine blk_drewN ?_ _ | refine blk_drew ?_ | refine blk_alloc ?_ _)); exact BK118.out⟩, ⟨by repeat (first | (with_reducible first | exact HB.out | apply below_alloc | apply pw_below_drewN | apply below_drew1 | refine below_set ?_ GE116.out | refine below_set ?_ GE117.out | refine below_set ?_ GE118.out) | exact HB.out)⟩⟩
    · replace c15 := Bool.eq_false_iff.mpr c15
      subst c15
      have H1 : (vesperref16_Word_order.j0 k a1 a0_0 a0_1 a0_2 a0_3 a0_0 0 0 0 0 0) = some (r1, r2, r3, r4, r5, r6) := by rw [if_neg (show ¬ (false = true) by decide)] at H; exact H
      clear H
      have H := H1
      clear H1
      have H' := Aside0.mk H
      clear H
      go_wp2
      go_meet
      case rel => exact ⟨_, (0), H', ⟨by first | omega | exact Nat.le_refl _⟩, ⟨by (with_reducible repeat (first | refine blk_drewN ?_ _ | refine blk_drew ?_ | refine blk_alloc ?_ _)); exact BK116.out⟩, ⟨by (with_reducible repeat (first | refine blk_drewN ?_ _ | refine blk_drew ?_ | refine blk_alloc ?_ _)); exact BK117.out⟩, ⟨by (with_reducible repeat (first | refine blk_drewN ?_ _ | refine blk_drew ?_ | refine blk_alloc ?_ _)); exact BK118.out⟩, ⟨by repeat (first | (with_reducible first | exact HB.out | apply below_alloc | apply pw_below_drewN | apply below_drew1 | refine below_set ?_ GE116.out | refine below_set ?_ GE117.out | refine below_set ?_ GE118.out) | exact HB.out)⟩⟩
  case rest =>
    clear HC4
    try clear c1
    try clear p2
    try clear c7
    try clear c10
    try clear c11
    try clear c13
    try clear c14
    try clear c15
    try clear c16
    try clear c17
    try clear hcz12_0
    try clear hcz12_1
    try clear hcz12_2
    try clear hcz12_3
    try clear hcz12_4
    try clear hcz12_5
    try clear hcz13_0
    try clear hcz13_1
    try clear hcz13_2
    try clear hcz13_3
    try clear hcz18_0
    try clear hcz18_1
    try clear hcz18_2
    try clear hcz18_3
    try clear hcz18_4
    try clear hcz18_5
    try clear hcz8_0
    try clear hcz8_1
    try clear hcz8_2
    try clear hcz8_3
    try clear hfz12_0
    try clear hfz12_1
    try clear hfz12_2
    try clear hfz12_3
    try clear hfz12_4
    try clear hfz12_5
    try clear hfz13_0
    try clear hfz13_1
    try clear hfz13_2
    try clear hfz13_3
    try clear hfz18_0
    try clear hfz18_1
    try clear hfz18_2
    try clear hfz18_3
    try clear hfz18_4
    try clear hfz18_5
    try clear hfz8_0
    try clear hfz8_1
    try clear hfz8_2
    try clear hfz8_3
    obtain ⟨kq, x119001_3, HA, HJ3, BK116, BK117, BK118, HB⟩ := hcut
    cases kq with
    | zero => exact absurd HA.out (by simp [vesperref16_Word_order.j0])
    | succ kj3 =>
      have H := HA.out
      clear HA
      simp only [vesperref16_Word_order.j0] at H
      replace H := Option.bind_eq_some_iff.mp H
      obtain ⟨t120, A190, H⟩ := H
      replace H : (if t120 = true then (vesperref16_Word_order.j1 kj3 a1 a0_0 a0_1 a0_2 a0_3 a0_0 x119001_3 ((Int.tmod (IntKind.u16.wrap (Int.tdiv a1 16)) 16) % 256) 0 0 0) else (vesperref16_Word_order.j1 kj3 a1 a0_0 a0_1 a0_2 a0_3 a0_0 x119001_3 0 0 0 0)) = some (r1, r2, r3, r4, r5, r6) := H
      have A19 := Aside0.mk A190
      clear A190
      have HC20 := Aside0.mk H
      clear H
      have hnb21 := NB116_117.out
      have hnc21 := NB117_116.out
      have hnb22 := NB116_118.out
      have hnc22 := NB118_116.out
      have hcz23_0 : wc.cell? ⟨gb116, 0, none⟩ = some (.int .u8 a0_0) := (blk_cell BK116.out 0).trans rfl
      have hcz23_1 : wc.cell? ⟨gb116, 1, none⟩ = some (.int .u16 a0_1) := (blk_cell BK116.out 1).trans rfl
      have hcz23_2 : wc.cell? ⟨gb116, 2, none⟩ = some (.string a0_2) := (blk_cell BK116.out 2).trans rfl
      have hcz23_3 : wc.cell? ⟨gb116, 3, none⟩ = some (.string a0_3) := (blk_cell BK116.out 3).trans rfl
      have hfz23_0 := blk_frozen BK116.out 0
      have hfz23_1 := blk_frozen BK116.out 1
      have hfz23_2 := blk_frozen BK116.out 2
      have hfz23_3 := blk_frozen BK116.out 3
      go_upto_if 17 with (first | ((with_reducible refine gate_callee (f := 13) rfl ?_); refine goesL_ (some 17) rfl rfl Try.func13 (by kernel_rfl) rfl #[.agg #[.int .u8 a0_0, .int .u16 a0_1, .string a0_2, .string a0_3], .int .u8 121] rfl (by (try simp only [List.map_toArray, List.map_cons, List.map_nil]); first | done | rfl | (simp only [List.length_drop, List.length_take]; rfl)) ?_; (with_reducible refine (vesperref16_Word_has.calls kj3 a0_0 a0_1 a0_2 a0_3 121 t120 _ A19.out).mono ?_); rintro e w24 ⟨rfl, hb⟩; refine ⟨_, rfl, ?_⟩; have n0_ := Aside0.mk (blk_below (g := gb116) (o := .cells #[.int .u8 a0_0, .int .u16 a0_1, .string a0_2, .string a0_3] 36 (0, 0)) (by (with_reducible repeat (first | refine blk_drewN ?_ _ | refine blk_drew ?_ | refine blk_alloc ?_ _)); exact BK116.out) hb); have n1_ := Aside0.mk (blk_below (g := gb117) (o := .cells #[.int .u8 0, .int .u8 0, .int .u8 0, .int .u8 0, .int .u8 0, .int .u16 0] 25 (0, 0)) (by (with_reducible repeat (first | refine blk_drewN ?_ _ | refine blk_drew ?_ | refine blk_alloc ?_ _)); exact BK117.out) hb); have n2_ := Aside0.mk (blk_below (g := gb118) (o := .cells #[.int .u8 a0_0, .int .u8 x119001_3, .int .u8 0, .int .u8 0, .int .u8 0, .int .u16 0] 25 (0, 0)) (by (with_reducible repeat (first | refine blk_drewN ?_ _ | refine blk_drew ?_ | refine blk_alloc ?_ _)); exact BK118.out) hb); have n3_ := Aside0.mk (below_step (by repeat (first | (with_reducible first | exact HB.out | apply below_alloc | apply pw_below_drewN | apply below_drew1 | refine below_set ?_ GE116.out | refine below_set ?_ GE117.out | refine below_set ?_ GE118.out) | exact HB.out)) hb); clear BK116; clear BK117; clear BK118; clear HB; have BK116 := n0_; have BK117 := n1_; have BK118 := n2_; have HB := n3_; clear n0_ n1_ n2_ n3_; (try clear hb); (try clear hb2); (try clear hk); (try clear hi)))
      (try simp only [Act.put, List.setIfInBounds_toArray, List.set_cons_zero, List.set_cons_succ])
      go_cut [] (fun wc => ∃ (kq : Nat) (x119002_19 : Int), Aside0 (vesperref16_Word_order.j1 kq a1 a0_0 a0_1 a0_2 a0_3 a0_0 x119001_3 x119002_19 0 0 0 = some (r1, r2, r3, r4, r5, r6)) ∧ Aside0 (kq ≤ kj3) ∧ Aside0 (wc.heap[gb116]? = some (.cells #[.int .u8 a0_0, .int .u16 a0_1, .string a0_2, .string a0_3] 36 (0, 0))) ∧ Aside0 (wc.heap[gb117]? = some (.cells #[.int .u8 0, .int .u8 0, .int .u8 0, .int .u8 0, .int .u8 0, .int .u16 0] 25 (0, 0))) ∧ Aside0 (wc.heap[gb118]? = some (.cells #[.int .u8 a0_0, .int .u8 x119001_3, .int .u8 x119002_19, .int .u8 0, .int .u8 0, .int .u16 0] 25 (0, 0))) ∧ Aside0 (Below w.heap.size w wc))
      case first =>
        have H := HC20.out
        clear HC20
        by_cases c25 : t120 = true
        · subst c25
          have H1 : (vesperref16_Word_order.j1 kj3 a1 a0_0 a0_1 a0_2 a0_3 a0_0 x119001_3 ((Int.tmod (IntKind.u16.wrap (Int.tdiv a1 16)) 16) % 256) 0 0 0) = some (r1, r2, r3, r4, r5, r6) := by rw [if_pos rfl] at H; exact H
          clear H
          have H := H1
          clear H1
          have H' := Aside0.mk H
          clear H
          have hnb26 := NB118_116.out
          have hnc26 := NB116_118.out
          have hnb27 := NB118_117.out
          have hnc27 := NB117_118.out
          have hcz28_0 : w24.cell? ⟨gb118, 0, none⟩ = some (.int .u8 a0_0) := (blk_cell BK118.out 0).trans rfl
          have hcz28_1 : w24.cell? ⟨gb118, 1, none⟩ = some (.int .u8 x119001_3) := (blk_cell BK118.out 1).trans rfl
          have hcz28_2 : w24.cell? ⟨gb118, 2, none⟩ = some (.int .u8 0) := (blk_cell BK118.out 2).trans rfl
          have hcz28_3 : w24.cell? ⟨gb118, 3, none⟩ = some (.int .u8 0) := (blk_cell BK118.out 3).trans rfl
          have hcz28_4 : w24.cell? ⟨gb118, 4, none⟩ = some (.int .u8 0) := (blk_cell BK118.out 4).trans rfl
          have hcz28_5 : w24.cell? ⟨gb118, 5, none⟩ = some (.int .u16 0) := (blk_cell BK118.out 5).trans rfl
          have hfz28_0 := blk_frozen BK118.out 0
          have hfz28_1 := blk_frozen BK118.out 1
          have hfz28_2 := blk_frozen BK118.out 2
          have hfz28_3 := blk_frozen BK118.out 3
          have hfz28_4 := blk_frozen BK118.out 4
          have hfz28_5 := blk_frozen BK118.out 5
          go_wp2
          go_meet
          case rel => exact ⟨_, ((Int.tmod (IntKind.u16.wrap (Int.tdiv a1 16)) 16) % 256), H', ⟨by have := HJ3.out; first | omega | exact Nat.le_refl _⟩, ⟨by (with_reducible repeat (first | refine blk_drewN ?_ _ | refine blk_drew ?_ | refine blk_alloc ?_ _)); refine blk_far ?_ NB116_118.out _; (with_reducible repeat (first | refine blk_drewN ?_ _ | refine blk_drew ?_ | refine blk_alloc ?_ _)); exact BK116.out⟩, ⟨by (with_reducible repeat (first | refine blk_drewN ?_ _ | refine blk_drew ?_ | refine blk_alloc ?_ _)); refine blk_far ?_ NB117_118.out _; (with_reducible repeat (first | refine blk_drewN ?_ _ | refine blk_drew ?_ | refine blk_alloc ?_ _)); exact BK117.out⟩, ⟨by (with_reducible repeat (first | refine blk_drewN ?_ _ | refine blk_drew ?_ | refine blk_alloc ?_ _)); refine blk_put (cs := #[.int .u8 a0_0, .int .u8 x119001_3, .int .u8 0, .int .u8 0, .int .u8 0, .int .u16 0]) ?_ 2 _ rfl; (with_reducible repeat (first | refine blk_drewN ?_ _ | refine blk_drew ?_ | refine blk_alloc ?_ _)); exact BK118.out⟩, ⟨by repeat (first | (with_reducible first | exact HB.out | apply below_alloc | apply pw_below_drewN | apply below_drew1 | refine below_set ?_ GE116.out | refine below_set ?_ GE117.out | refine below_set ?_ GE118.out) | exact HB.out)⟩⟩
        · replace c25 := Bool.eq_false_iff.mpr c25
          subst c25
          have H1 : (vesperref16_Word_order.j1 kj3 a1 a0_0 a0_1 a0_2 a0_3 a0_0 x119001_3 0 0 0 0) = some (r1, r2, r3, r4, r5, r6) := by rw [if_neg (show ¬ (false = true) by decide)] at H; exact H
          clear H
          have H := H1
          clear H1
          have H' := Aside0.mk H
          clear H
          go_wp2
          go_meet
          case rel => exact ⟨_, (0), H', ⟨by have := HJ3.out; first | omega | exact Nat.le_refl _⟩, ⟨by (with_reducible repeat (first | refine blk_drewN ?_ _ | refine blk_drew ?_ | refine blk_alloc ?_ _)); exact BK116.out⟩, ⟨by (with_reducible repeat (first | refine blk_drewN ?_ _ | refine blk_drew ?_ | refine blk_alloc ?_ _)); exact BK117.out⟩, ⟨by (with_reducible repeat (first | refine blk_drewN ?_ _ | refine blk_drew ?_ | refine blk_alloc ?_ _)); exact BK118.out⟩, ⟨by repeat (first | (with_reducible first | exact HB.out | apply below_alloc | apply pw_below_drewN | apply below_drew1 | refine below_set ?_ GE116.out | refine below_set ?_ GE117.out | refine below_set ?_ GE118.out) | exact HB.out)⟩⟩
      case rest =>
        clear HC20
        try clear c1
        try clear c2
        try clear p2
        try clear c7
        try clear c10
        try clear c11
        try clear c13
        try clear c14
        try clear c15
        try clear c16
        try clear c17
        try clear c21
        try clear c22
        try clear c25
        try clear c26
        try clear c27
        try clear hcz12_0
        try clear hcz12_1
        try clear hcz12_2
        try clear hcz12_3
        try clear hcz12_4
        try clear hcz12_5
        try clear hcz13_0
        try clear hcz13_1
        try clear hcz13_2
        try clear hcz13_3
        try clear hcz18_0
        try clear hcz18_1
        try clear hcz18_2
        try clear hcz18_3
        try clear hcz18_4
        try clear hcz18_5
        try clear hcz23_0
        try clear hcz23_1
        try clear hcz23_2
        try clear hcz23_3
        try clear hcz28_0
        try clear hcz28_1
        try clear hcz28_2
        try clear hcz28_3
        try clear hcz28_4
        try clear hcz28_5
        try clear hcz8_0
        try clear hcz8_1
        try clear hcz8_2
        try clear hcz8_3
        try clear hfz12_0
        try clear hfz12_1
        try clear hfz12_2
        try clear hfz12_3
        try clear hfz12_4
        try clear hfz12_5
        try clear hfz13_0
        try clear hfz13_1
        try clear hfz13_2
        try clear hfz13_3
        try clear hfz18_0
        try clear hfz18_1
        try clear hfz18_2
        try clear hfz18_3
        try clear hfz18_4
        try clear hfz18_5
        try clear hfz23_0
        try clear hfz23_1
        try clear hfz23_2
        try clear hfz23_3
        try clear hfz28_0
        try clear hfz28_1
        try clear hfz28_2
        try clear hfz28_3
        try clear hfz28_4
        try clear hfz28_5
        try clear hfz8_0
        try clear hfz8_1
        try clear hfz8_2
        try clear hfz8_3
        try clear p2
        obtain ⟨kq, x119002_19, HA, HJ19, BK116, BK117, BK118, HB⟩ := hcut
        cases kq with
        | zero => exact absurd HA.out (by simp [vesperref16_Word_order.j1])
        | succ kj19 =>
          have H := HA.out
          clear HA
          simp only [vesperref16_Word_order.j1] at H
          replace H := Option.bind_eq_some_iff.mp H
          obtain ⟨t121, A290, H⟩ := H
          replace H : (if t121 = true then (vesperref16_Word_order.j2 kj19 a1 a0_0 a0_1 a0_2 a0_3 a0_0 x119001_3 x119002_19 ((Int.tmod a1 16) % 256) 0 0) else (vesperref16_Word_order.j2 kj19 a1 a0_0 a0_1 a0_2 a0_3 a0_0 x119001_3 x119002_19 0 0 0)) = some (r1, r2, r3, r4, r5, r6) := H
          have A29 := Aside0.mk A290
          clear A290
          have HC30 := Aside0.mk H
          clear H
          have hnb31 := NB116_117.out
          have hnc31 := NB117_116.out
          have hnb32 := NB116_118.out
          have hnc32 := NB118_116.out
          have hcz33_0 : wc.cell? ⟨gb116, 0, none⟩ = some (.int .u8 a0_0) := (blk_cell BK116.out 0).trans rfl
          have hcz33_1 : wc.cell? ⟨gb116, 1, none⟩ = some (.int .u16 a0_1) := (blk_cell BK116.out 1).trans rfl
          have hcz33_2 : wc.cell? ⟨gb116, 2, none⟩ = some (.string a0_2) := (blk_cell BK116.out 2).trans rfl
          have hcz33_3 : wc.cell? ⟨gb116, 3, none⟩ = some (.string a0_3) := (blk_cell BK116.out 3).trans rfl
          have hfz33_0 := blk_frozen BK116.out 0
          have hfz33_1 := blk_frozen BK116.out 1
          have hfz33_2 := blk_frozen BK116.out 2
          have hfz33_3 := blk_frozen BK116.out 3
          go_upto_if 24 with (first | ((with_reducible refine gate_callee (f := 13) rfl ?_); refine goesL_ (some 24) rfl rfl Try.func13 (by kernel_rfl) rfl #[.agg #[.int .u8 a0_0, .int .u16 a0_1, .string a0_2, .string a0_3], .int .u8 110] rfl (by (try simp only [List.map_toArray, List.map_cons, List.map_nil]); first | done | rfl | (simp only [List.length_drop, List.length_take]; rfl)) ?_; (with_reducible refine (vesperref16_Word_has.calls kj19 a0_0 a0_1 a0_2 a0_3 110 t121 _ A29.out).mono ?_); rintro e w34 ⟨rfl, hb⟩; refine ⟨_, rfl, ?_⟩; have n0_ := Aside0.mk (blk_below (g := gb116) (o := .cells #[.int .u8 a0_0, .int .u16 a0_1, .string a0_2, .string a0_3] 36 (0, 0)) (by (with_reducible repeat (first | refine blk_drewN ?_ _ | refine blk_drew ?_ | refine blk_alloc ?_ _)); exact BK116.out) hb); have n1_ := Aside0.mk (blk_below (g := gb117) (o := .cells #[.int .u8 0, .int .u8 0, .int .u8 0, .int .u8 0, .int .u8 0, .int .u16 0] 25 (0, 0)) (by (with_reducible repeat (first | refine blk_drewN ?_ _ | refine blk_drew ?_ | refine blk_alloc ?_ _)); exact BK117.out) hb); have n2_ := Aside0.mk (blk_below (g := gb118) (o := .cells #[.int .u8 a0_0, .int .u8 x119001_3, .int .u8 x119002_19, .int .u8 0, .int .u8 0, .int .u16 0] 25 (0, 0)) (by (with_reducible repeat (first | refine blk_drewN ?_ _ | refine blk_drew ?_ | refine blk_alloc ?_ _)); exact BK118.out) hb); have n3_ := Aside0.mk (below_step (by repeat (first | (with_reducible first | exact HB.out | apply below_alloc | apply pw_below_drewN | apply below_drew1 | refine below_set ?_ GE116.out | refine below_set ?_ GE117.out | refine below_set ?_ GE118.out) | exact HB.out)) hb); clear BK116; clear BK117; clear BK118; clear HB; have BK116 := n0_; have BK117 := n1_; have BK118 := n2_; have HB := n3_; clear n0_ n1_ n2_ n3_; (try clear hb); (try clear hb2); (try clear hk); (try clear hi)))
          (try simp only [Act.put, List.setIfInBounds_toArray, List.set_cons_zero, List.set_cons_succ])
          go_cut [] (fun wc => ∃ (kq : Nat) (x119003_29 : Int), Aside0 (vesperref16_Word_order.j2 kq a1 a0_0 a0_1 a0_2 a0_3 a0_0 x119001_3 x119002_19 x119003_29 0 0 = some (r1, r2, r3, r4, r5, r6)) ∧ Aside0 (kq ≤ kj19) ∧ Aside0 (wc.heap[gb116]? = some (.cells #[.int .u8 a0_0, .int .u16 a0_1, .string a0_2, .string a0_3] 36 (0, 0))) ∧ Aside0 (wc.heap[gb117]? = some (.cells #[.int .u8 0, .int .u8 0, .int .u8 0, .int .u8 0, .int .u8 0, .int .u16 0] 25 (0, 0))) ∧ Aside0 (wc.heap[gb118]? = some (.cells #[.int .u8 a0_0, .int .u8 x119001_3, .int .u8 x119002_19, .int .u8 x119003_29, .int .u8 0, .int .u16 0] 25 (0, 0))) ∧ Aside0 (Below w.heap.size w wc))
          case first =>
            have H := HC30.out
            clear HC30
            by_cases c35 : t121 = true
            · subst c35
              have H1 : (vesperref16_Word_order.j2 kj19 a1 a0_0 a0_1 a0_2 a0_3 a0_0 x119001_3 x119002_19 ((Int.tmod a1 16) % 256) 0 0) = some (r1, r2, r3, r4, r5, r6) := by rw [if_pos rfl] at H; exact H
              clear H
              have H := H1
              clear H1
              have H' := Aside0.mk H
              clear H
              have hnb36 := NB118_116.out
              have hnc36 := NB116_118.out
              have hnb37 := NB118_117.out
              have hnc37 := NB117_118.out
              have hcz38_0 : w34.cell? ⟨gb118, 0, none⟩ = some (.int .u8 a0_0) := (blk_cell BK118.out 0).trans rfl
              have hcz38_1 : w34.cell? ⟨gb118, 1, none⟩ = some (.int .u8 x119001_3) := (blk_cell BK118.out 1).trans rfl
              have hcz38_2 : w34.cell? ⟨gb118, 2, none⟩ = some (.int .u8 x119002_19) := (blk_cell BK118.out 2).trans rfl
              have hcz38_3 : w34.cell? ⟨gb118, 3, none⟩ = some (.int .u8 0) := (blk_cell BK118.out 3).trans rfl
              have hcz38_4 : w34.cell? ⟨gb118, 4, none⟩ = some (.int .u8 0) := (blk_cell BK118.out 4).trans rfl
              have hcz38_5 : w34.cell? ⟨gb118, 5, none⟩ = some (.int .u16 0) := (blk_cell BK118.out 5).trans rfl
              have hfz38_0 := blk_frozen BK118.out 0
              have hfz38_1 := blk_frozen BK118.out 1
              have hfz38_2 := blk_frozen BK118.out 2
              have hfz38_3 := blk_frozen BK118.out 3
              have hfz38_4 := blk_frozen BK118.out 4
              have hfz38_5 := blk_frozen BK118.out 5
              go_wp2
              go_meet
              case rel => exact ⟨_, ((Int.tmod a1 16) % 256), H', ⟨by have := HJ3.out; have := HJ19.out; first | omega | exact Nat.le_refl _⟩, ⟨by (with_reducible repeat (first | refine blk_drewN ?_ _ | refine blk_drew ?_ | refine blk_alloc ?_ _)); refine blk_far ?_ NB116_118.out _; (with_reducible repeat (first | refine blk_drewN ?_ _ | refine blk_drew ?_ | refine blk_alloc ?_ _)); exact BK116.out⟩, ⟨by (with_reducible repeat (first | refine blk_drewN ?_ _ | refine blk_drew ?_ | refine blk_alloc ?_ _)); refine blk_far ?_ NB117_118.out _; (with_reducible repeat (first | refine blk_drewN ?_ _ | refine blk_drew ?_ | refine blk_alloc ?_ _)); exact BK117.out⟩, ⟨by (with_reducible repeat (first | refine blk_drewN ?_ _ | refine blk_drew ?_ | refine blk_alloc ?_ _)); refine blk_put (cs := #[.int .u8 a0_0, .int .u8 x119001_3, .int .u8 x119002_19, .int .u8 0, .int .u8 0, .int .u16 0]) ?_ 3 _ rfl; (with_reducible repeat (first | refine blk_drewN ?_ _ | refine blk_drew ?_ | refine blk_alloc ?_ _)); exact BK118.out⟩, ⟨by repeat (first | (with_reducible first | exact HB.out | apply below_alloc | apply pw_below_drewN | apply below_drew1 | refine below_set ?_ GE116.out | refine below_set ?_ GE117.out | refine below_set ?_ GE118.out) | exact HB.out)⟩⟩
            · replace c35 := Bool.eq_false_iff.mpr c35
              subst c35
              have H1 : (vesperref16_Word_order.j2 kj19 a1 a0_0 a0_1 a0_2 a0_3 a0_0 x119001_3 x119002_19 0 0 0) = some (r1, r2, r3, r4, r5, r6) := by rw [if_neg (show ¬ (false = true) by decide)] at H; exact H
              clear H
              have H := H1
              clear H1
              have H' := Aside0.mk H
              clear H
              go_wp2
              go_meet
              case rel => exact ⟨_, (0), H', ⟨by have := HJ3.out; have := HJ19.out; first | omega | exact Nat.le_refl _⟩, ⟨by (with_reducible repeat (first | refine blk_drewN ?_ _ | refine blk_drew ?_ | refine blk_alloc ?_ _)); exact BK116.out⟩, ⟨by (with_reducible repeat (first | refine blk_drewN ?_ _ | refine blk_drew ?_ | refine blk_alloc ?_ _)); exact BK117.out⟩, ⟨by (with_reducible repeat (first | refine blk_drewN ?_ _ | refine blk_drew ?_ | refine blk_alloc ?_ _)); exact BK118.out⟩, ⟨by repeat (first | (with_reducible first | exact HB.out | apply below_alloc | apply pw_below_drewN | apply below_drew1 | refine below_set ?_ GE116.out | refine below_set ?_ GE117.out | refine below_set ?_ GE118.out) | exact HB.out)⟩⟩
          case rest =>
            clear HC30
            try clear c1
            try clear c2
            try clear p2
            try clear c3
            try clear c7
            try clear c10
            try clear c11
            try clear c13
            try clear c14
            try clear c15
            try clear c16
            try clear c17
            try clear c21
            try clear c22
            try clear c25
            try clear c26
            try clear c27
            try clear c31
            try clear c32
            try clear c35
            try clear c36
            try clear c37
            try clear hcz12_0
            try clear hcz12_1
            try clear hcz12_2
            try clear hcz12_3
            try clear hcz12_4
            try clear hcz12_5
            try clear hcz13_0
            try clear hcz13_1
            try clear hcz13_2
            try clear hcz13_3
            try clear hcz18_0
            try clear hcz18_1
            try clear hcz18_2
            try clear hcz18_3
            try clear hcz18_4
            try clear hcz18_5
            try clear hcz23_0
            try clear hcz23_1
            try clear hcz23_2
            try clear hcz23_3
            try clear hcz28_0
            try clear hcz28_1
            try clear hcz28_2
            try clear hcz28_3
            try clear hcz28_4
            try clear hcz28_5
            try clear hcz33_0
            try clear hcz33_1
            try clear hcz33_2
            try clear hcz33_3
            try clear hcz38_0
            try clear hcz38_1
            try clear hcz38_2
            try clear hcz38_3
            try clear hcz38_4
            try clear hcz38_5
            try clear hcz8_0
            try clear hcz8_1
            try clear hcz8_2
            try clear hcz8_3
            try clear hfz12_0
            try clear hfz12_1
            try clear hfz12_2
            try clear hfz12_3
            try clear hfz12_4
            try clear hfz12_5
            try clear hfz13_0
            try clear hfz13_1
            try clear hfz13_2
            try clear hfz13_3
            try clear hfz18_0
            try clear hfz18_1
            try clear hfz18_2
            try clear hfz18_3
            try clear hfz18_4
            try clear hfz18_5
            try clear hfz23_0
            try clear hfz23_1
            try clear hfz23_2
            try clear hfz23_3
            try clear hfz28_0
            try clear hfz28_1
            try clear hfz28_2
            try clear hfz28_3
            try clear hfz28_4
            try clear hfz28_5
            try clear hfz33_0
            try clear hfz33_1
            try clear hfz33_2
            try clear hfz33_3
            try clear hfz38_0
            try clear hfz38_1
            try clear hfz38_2
            try clear hfz38_3
            try clear hfz38_4
            try clear hfz38_5
            try clear hfz8_0
            try clear hfz8_1
            try clear hfz8_2
            try clear hfz8_3
            try clear p2
            obtain ⟨kq, x119003_29, HA, HJ29, BK116, BK117, BK118, HB⟩ := hcut
            cases kq with
            | zero => exact absurd HA.out (by simp [vesperref16_Word_order.j2])
            | succ kj29 =>
              have H := HA.out
              clear HA
              simp only [vesperref16_Word_order.j2] at H
              replace H := Option.bind_eq_some_iff.mp H
              obtain ⟨t122, A390, H⟩ := H
              replace H : (if t122 = true then ((vesperref16_Word_has.f kj29 a0_0 a0_1 a0_2 a0_3 97).bind fun t123 => (if t123 = true then (some (a0_0, x119001_3, x119002_19, x119003_29, (Int.tmod a1 256) % 256, Int.tmod a1 4096)) else (some (a0_0, x119001_3, x119002_19, x119003_29, (Int.tmod a1 256) % 256, 0)))) else ((vesperref16_Word_has.f kj29 a0_0 a0_1 a0_2 a0_3 97).bind fun t124 => (if t124 = true then (some (a0_0, x119001_3, x119002_19, x119003_29, 0, Int.tmod a1 4096)) else (some (a0_0, x119001_3, x119002_19, x119003_29, 0, 0))))) = some (r1, r2, r3, r4, r5, r6) := H
              have A39 := Aside0.mk A390
              clear A390
              by_cases c40 : t122 = true
              · subst c40
                have H1 : ((vesperref16_Word_has.f kj29 a0_0 a0_1 a0_2 a0_3 97).bind fun t123 => (if t123 = true then (some (a0_0, x119001_3, x119002_19, x119003_29, (Int.tmod a1 256) % 256, Int.tmod a1 4096)) else (some (a0_0, x119001_3, x119002_19, x119003_29, (Int.tmod a1 256) % 256, 0)))) = some (r1, r2, r3, r4, r5, r6) := by rw [if_pos rfl] at H; exact H
                clear H
                have H := H1
                clear H1
                replace H := Option.bind_eq_some_iff.mp H
                obtain ⟨t123, A410, H⟩ := H
                replace H : (if t123 = true then (some (a0_0, x119001_3, x119002_19, x119003_29, (Int.tmod a1 256) % 256, Int.tmod a1 4096)) else (some (a0_0, x119001_3, x119002_19, x119003_29, (Int.tmod a1 256) % 256, 0))) = some (r1, r2, r3, r4, r5, r6) := H
                have A41 := Aside0.mk A410
                clear A410
                by_cases c42 : t123 = true
                · subst c42
                  have H1 : (some (a0_0, x119001_3, x119002_19, x119003_29, (Int.tmod a1 256) % 256, Int.tmod a1 4096)) = some (r1, r2, r3, r4, r5, r6) := by rw [if_pos rfl] at H; exact H
                  clear H
                  have H := H1
                  clear H1
                  simp only [Option.some.injEq, Prod.mk.injEq] at H
                  obtain ⟨rfl, rfl, rfl, rfl, rfl, rfl⟩ := H
                  have hnb43 := NB116_117.out
                  have hnc43 := NB117_116.out
                  have hnb44 := NB116_118.out
                  have hnc44 := NB118_116.out
                  have hcz45_0 : wc.cell? ⟨gb116, 0, none⟩ = some (.int .u8 a0_0) := (blk_cell BK116.out 0).trans rfl
                  have hcz45_1 : wc.cell? ⟨gb116, 1, none⟩ = some (.int .u16 a0_1) := (blk_cell BK116.out 1).trans rfl
                  have hcz45_2 : wc.cell? ⟨gb116, 2, none⟩ = some (.string a0_2) := (blk_cell BK116.out 2).trans rfl
                  have hcz45_3 : wc.cell? ⟨gb116, 3, none⟩ = some (.string a0_3) := (blk_cell BK116.out 3).trans rfl
                  have hfz45_0 := blk_frozen BK116.out 0
                  have hfz45_1 := blk_frozen BK116.out 1
                  have hfz45_2 := blk_frozen BK116.out 2
                  have hfz45_3 := blk_frozen BK116.out 3
                  go_wp2_with (first | ((with_reducible refine gate_callee (f := 13) rfl ?_); refine goesL_ (some 30) rfl rfl Try.func13 (by kernel_rfl) rfl #[.agg #[.int .u8 a0_0, .int .u16 a0_1, .string a0_2, .string a0_3], .int .u8 98] rfl (by (try simp only [List.map_toArray, List.map_cons, List.map_nil]); first | done | rfl | (simp only [List.length_drop, List.length_take]; rfl)) ?_; (with_reducible refine (vesperref16_Word_has.calls kj29 a0_0 a0_1 a0_2 a0_3 98 true _ A39.out).mono ?_); rintro e w46 ⟨rfl, hb⟩; refine ⟨_, rfl, ?_⟩; have n0_ := Aside0.mk (blk_below (g := gb116) (o := .cells #[.int .u8 a0_0, .int .u16 a0_1, .string a0_2, .string a0_3] 36 (0, 0)) (by (with_reducible repeat (first | refine blk_drewN ?_ _ | refine blk_drew ?_ | refine blk_alloc ?_ _)); exact BK116.out) hb); have n1_ := Aside0.mk (blk_below (g := gb117) (o := .cells #[.int .u8 0, .int .u8 0, .int .u8 0, .int .u8 0, .int .u8 0, .int .u16 0] 25 (0, 0)) (by (with_reducible repeat (first | refine blk_drewN ?_ _ | refine blk_drew ?_ | refine blk_alloc ?_ _)); exact BK117.out) hb); have n2_ := Aside0.mk (blk_below (g := gb118) (o := .cells #[.int .u8 a0_0, .int .u8 x119001_3, .int .u8 x119002_19, .int .u8 x119003_29, .int .u8 0, .int .u16 0] 25 (0, 0)) (by (with_reducible repeat (first | refine blk_drewN ?_ _ | refine blk_drew ?_ | refine blk_alloc ?_ _)); exact BK118.out) hb); have n3_ := Aside0.mk (below_step (by repeat (first | (with_reducible first | exact HB.out | apply below_alloc | apply pw_below_drewN | apply below_drew1 | refine below_set ?_ GE116.out | refine below_set ?_ GE117.out | refine below_set ?_ GE118.out) | exact HB.out)) hb); clear BK116; clear BK117; clear BK118; clear HB; have BK116 := n0_; have BK117 := n1_; have BK118 := n2_; have HB := n3_; clear n0_ n1_ n2_ n3_; (try clear hb); (try clear hb2); (try clear hk); (try clear hi); have hnb47 := NB118_117.out; have hnc47 := NB117_118.out; have hcz48_0 : w46.cell? ⟨gb118, 0, none⟩ = some (.int .u8 a0_0) := (blk_cell BK118.out 0).trans rfl; have hcz48_1 : w46.cell? ⟨gb118, 1, none⟩ = some (.int .u8 x119001_3) := (blk_cell BK118.out 1).trans rfl; have hcz48_2 : w46.cell? ⟨gb118, 2, none⟩ = some (.int .u8 x119002_19) := (blk_cell BK118.out 2).trans rfl; have hcz48_3 : w46.cell? ⟨gb118, 3, none⟩ = some (.int .u8 x119003_29) := (blk_cell BK118.out 3).trans rfl; have hcz48_4 : w46.cell? ⟨gb118, 4, none⟩ = some (.int .u8 0) := (blk_cell BK118.out 4).trans rfl; have hcz48_5 : w46.cell? ⟨gb118, 5, none⟩ = some (.int .u16 0) := (blk_cell BK118.out 5).trans rfl; have hfz48_0 := blk_frozen BK118.out 0; have hfz48_1 := blk_frozen BK118.out 1; have hfz48_2 := blk_frozen BK118.out 2; have hfz48_3 := blk_frozen BK118.out 3; have hfz48_4 := blk_frozen BK118.out 4; have hfz48_5 := blk_frozen BK118.out 5; have hcz49_0 : w46.cell? ⟨gb116, 0, none⟩ = some (.int .u8 a0_0) := (blk_cell BK116.out 0).trans rfl; have hcz49_1 : w46.cell? ⟨gb116, 1, none⟩ = some (.int .u16 a0_1) := (blk_cell BK116.out 1).trans rfl; have hcz49_2 : w46.cell? ⟨gb116, 2, none⟩ = some (.string a0_2) := (blk_cell BK116.out 2).trans rfl; have hcz49_3 : w46.cell? ⟨gb116, 3, none⟩ = some (.string a0_3) := (blk_cell BK116.out 3).trans rfl; have hfz49_0 := blk_frozen BK116.out 0; have hfz49_1 := blk_frozen BK116.out 1; have hfz49_2 := blk_frozen BK116.out 2; have hfz49_3 := blk_frozen BK116.out 3) | ((with_reducible refine gate_callee (f := 13) rfl ?_); refine goesL_ (some 36) rfl rfl Try.func13 (by kernel_rfl) rfl #[.agg #[.int .u8 a0_0, .int .u16 a0_1, .string a0_2, .string a0_3], .int .u8 97] rfl (by (try simp only [List.map_toArray, List.map_cons, List.map_nil]); first | done | rfl | (simp only [List.length_drop, List.length_take]; rfl)) ?_; (with_reducible refine (vesperref16_Word_has.calls kj29 a0_0 a0_1 a0_2 a0_3 97 true _ A41.out).mono ?_); rintro e w50 ⟨rfl, hb⟩; refine ⟨_, rfl, ?_⟩; have n0_ := Aside0.mk (blk_below (g := gb116) (o := .cells #[.int .u8 a0_0, .int .u16 a0_1, .string a0_2, .string a0_3] 36 (0, 0)) (by (with_reducible repeat (first | refine blk_drewN ?_ _ | refine blk_drew ?_ | refine blk_alloc ?_ _)); refine blk_far ?_ NB116_118.out _; (with_reducible repeat (first | refine blk_drewN ?_ _ | refine blk_drew ?_ | refine blk_alloc ?_ _)); exact BK116.out) hb); have n1_ := Aside0.mk (blk_below (g := gb117) (o := .cells #[.int .u8 0, .int .u8 0, .int .u8 0, .int .u8 0, .int .u8 0, .int .u16 0] 25 (0, 0)) (by (with_reducible repeat (first | refine blk_drewN ?_ _ | refine blk_drew ?_ | refine blk_alloc ?_ _)); refine blk_far ?_ NB117_118.out _; (with_reducible repeat (first | refine blk_drewN ?_ _ | refine blk_drew ?_ | refine blk_alloc ?_ _)); exact BK117.out) hb); have n2_ := Aside0.mk (blk_below (g := gb118) (o := .cells #[.int .u8 a0_0, .int .u8 x119001_3, .int .u8 x119002_19, .int .u8 x119003_29, .int .u8 ((Int.tmod a1 256) % 256), .int .u16 0] 25 (0, 0)) (by (with_reducible repeat (first | refine blk_drewN ?_ _ | refine blk_drew ?_ | refine blk_alloc ?_ _)); refine blk_put (cs := #[.int .u8 a0_0, .int .u8 x119001_3, .int .u8 x119002_19, .int .u8 x119003_29, .int .u8 0, .int .u16 0]) ?_ 4 _ rfl; (with_reducible repeat (first | refine blk_drewN ?_ _ | refine blk_drew ?_ | refine blk_alloc ?_ _)); exact BK118.out) hb); have n3_ := Aside0.mk (below_step (by repeat (first | (with_reducible first | exact HB.out | apply below_alloc | apply pw_below_drewN | apply below_drew1 | refine below_set ?_ GE116.out | refine below_set ?_ GE117.out | refine below_set ?_ GE118.out) | exact HB.out)) hb); clear BK116; clear BK117; clear BK118; clear HB; have BK116 := n0_; have BK117 := n1_; have BK118 := n2_; have HB := n3_; clear n0_ n1_ n2_ n3_; (try clear hb); (try clear hb2); (try clear hk); (try clear hi); have hcz51_0 : w50.cell? ⟨gb118, 0, none⟩ = some (.int .u8 a0_0) := (blk_cell BK118.out 0).trans rfl; have hcz51_1 : w50.cell? ⟨gb118, 1, none⟩ = some (.int .u8 x119001_3) := (blk_cell BK118.out 1).trans rfl; have hcz51_2 : w50.cell? ⟨gb118, 2, none⟩ = some (.int .u8 x119002_19) := (blk_cell BK118.out 2).trans rfl; have hcz51_3 : w50.cell? ⟨gb118, 3, none⟩ = some (.int .u8 x119003_29) := (blk_cell BK118.out 3).trans rfl; have hcz51_4 : w50.cell? ⟨gb118, 4, none⟩ = some (.int .u8 ((Int.tmod a1 256) % 256)) := (blk_cell BK118.out 4).trans rfl; have hcz51_5 : w50.cell? ⟨gb118, 5, none⟩ = some (.int .u16 0) := (blk_cell BK118.out 5).trans rfl; have hfz51_0 := blk_frozen BK118.out 0; have hfz51_1 := blk_frozen BK118.out 1; have hfz51_2 := blk_frozen BK118.out 2; have hfz51_3 := blk_frozen BK118.out 3; have hfz51_4 := blk_frozen BK118.out 4; have hfz51_5 := blk_frozen BK118.out 5; have hcz52_0 : w50.cell? ⟨gb117, 0, none⟩ = some (.int .u8 0) := (blk_cell BK117.out 0).trans rfl; have hcz52_1 : w50.cell? ⟨gb117, 1, none⟩ = some (.int .u8 0) := (blk_cell BK117.out 1).trans rfl; have hcz52_2 : w50.cell? ⟨gb117, 2, none⟩ = some (.int .u8 0) := (blk_cell BK117.out 2).trans rfl; have hcz52_3 : w50.cell? ⟨gb117, 3, none⟩ = some (.int .u8 0) := (blk_cell BK117.out 3).trans rfl; have hcz52_4 : w50.cell? ⟨gb117, 4, none⟩ = some (.int .u8 0) := (blk_cell BK117.out 4).trans rfl; have hcz52_5 : w50.cell? ⟨gb117, 5, none⟩ = some (.int .u16 0) := (blk_cell BK117.out 5).trans rfl; have hfz52_0 := blk_frozen BK117.out 0; have hfz52_1 := blk_frozen BK117.out 1; have hfz52_2 := blk_frozen BK117.out 2; have hfz52_3 := blk_frozen BK117.out 3; have hfz52_4 := blk_frozen BK117.out 4; have hfz52_5 := blk_frozen BK117.out 5))
                  refine bodyPost_ret (results_cell_row rfl _ _ gb117 25 #[.int .u8 a0_0, .int .u8 x119001_3, .int .u8 x119002_19, .int .u8 x119003_29, .int .u8 ((Int.tmod a1 256) % 256), .int .u16 (Int.tmod a1 4096)] (0, 0) _ rfl (by (with_reducible repeat (first | refine blk_drewN ?_ _ | refine blk_drew ?_ | refine blk_alloc ?_ _)); refine blk_put (cs := #[.int .u8 a0_0, .int .u8 x119001_3, .int .u8 x119002_19, .int .u8 x119003_29, .int .u8 ((Int.tmod a1 256) % 256), .int .u16 0]) ?_ 5 _ rfl; (with_reducible repeat (first | refine blk_drewN ?_ _ | refine blk_drew ?_ | refine blk_alloc ?_ _)); refine blk_put (cs := #[.int .u8 a0_0, .int .u8 x119001_3, .int .u8 x119002_19, .int .u8 x119003_29, .int .u8 0, .int .u16 0]) ?_ 4 _ rfl; (with_reducible repeat (first | refine blk_drewN ?_ _ | refine blk_drew ?_ | refine blk_alloc ?_ _)); refine blk_put (cs := #[.int .u8 a0_0, .int .u8 x119001_3, .int .u8 x119002_19, .int .u8 0, .int .u8 0, .int .u16 0]) ?_ 3 _ rfl; (with_reducible repeat (first | refine blk_drewN ?_ _ | refine blk_drew ?_ | refine blk_alloc ?_ _)); refine blk_put (cs := #[.int .u8 a0_0, .int .u8 x119001_3, .int .u8 0, .int .u8 0, .int .u8 0, .int .u16 0]) ?_ 2 _ rfl; (with_reducible repeat (first | refine blk_drewN ?_ _ | refine blk_drew ?_ | refine blk_alloc ?_ _)); refine blk_put (cs := #[.int .u8 a0_0, .int .u8 0, .int .u8 0, .int .u8 0, .int .u8 0, .int .u16 0]) ?_ 1 _ rfl; (with_reducible repeat (first | refine blk_drewN ?_ _ | refine blk_drew ?_ | refine blk_alloc ?_ _)); refine blk_put (cs := #[.int .u8 0, .int .u8 0, .int .u8 0, .int .u8 0, .int .u8 0, .int .u16 0]) ?_ 0 _ rfl; (with_reducible repeat (first | refine blk_drewN ?_ _ | refine blk_drew ?_ | refine blk_alloc ?_ _)); refine blk_far ?_ NB117_118.out _; (with_reducible repeat (first | refine blk_drewN ?_ _ | refine blk_drew ?_ | refine blk_alloc ?_ _)); exact BK117.out) Try.underlying25 rfl (by kernel_rfl)) rfl ?_
                  exact ⟨by first | rfl | (simp [errW_none, errW_some] <;> rfl) | (simp [*, errW_none, errW_some] <;> rfl), by repeat (first | (with_reducible first | exact HB.out | apply below_alloc | apply pw_below_drewN | apply below_drew1 | refine below_set ?_ GE116.out | refine below_set ?_ GE117.out | refine below_set ?_ GE118.out) | exact HB.out)⟩
                · replace c42 := Bool.eq_false_iff.mpr c42
                  subst c42
                  have H1 : (some (a0_0, x119001_3, x119002_19, x119003_29, (Int.tmod a1 256) % 256, 0)) = some (r1, r2, r3, r4, r5, r6) := by rw [if_neg (show ¬ (false = true) by decide)] at H; exact H
                  clear H
                  have H := H1
                  clear H1
                  simp only [Option.some.injEq, Prod.mk.injEq] at H
                  obtain ⟨rfl, rfl, rfl, rfl, rfl, rfl⟩ := H
                  have hnb53 := NB116_117.out
                  have hnc53 := NB117_116.out
                  have hnb54 := NB116_118.out
                  have hnc54 := NB118_116.out
                  have hcz55_0 : wc.cell? ⟨gb116, 0, none⟩ = some (.int .u8 a0_0) := (blk_cell BK116.out 0).trans rfl
                  have hcz55_1 : wc.cell? ⟨gb116, 1, none⟩ = some (.int .u16 a0_1) := (blk_cell BK116.out 1).trans rfl
                  have hcz55_2 : wc.cell? ⟨gb116, 2, none⟩ = some (.string a0_2) := (blk_cell BK116.out 2).trans rfl
                  have hcz55_3 : wc.cell? ⟨gb116, 3, none⟩ = some (.string a0_3) := (blk_cell BK116.out 3).trans rfl
                  have hfz55_0 := blk_frozen BK116.out 0
                  have hfz55_1 := blk_frozen BK116.out 1
                  have hfz55_2 := blk_frozen BK116.out 2
                  have hfz55_3 := blk_frozen BK116.out 3
                  go_wp2_with (first | ((with_reducible refine gate_callee (f := 13) rfl ?_); refine goesL_ (some 30) rfl rfl Try.func13 (by kernel_rfl) rfl #[.agg #[.int .u8 a0_0, .int .u16 a0_1, .string a0_2, .string a0_3], .int .u8 98] rfl (by (try simp only [List.map_toArray, List.map_cons, List.map_nil]); first | done | rfl | (simp only [List.length_drop, List.length_take]; rfl)) ?_; (with_reducible refine (vesperref16_Word_has.calls kj29 a0_0 a0_1 a0_2 a0_3 98 true _ A39.out).mono ?_); rintro e w56 ⟨rfl, hb⟩; refine ⟨_, rfl, ?_⟩; have n0_ := Aside0.mk (blk_below (g := gb116) (o := .cells #[.int .u8 a0_0, .int .u16 a0_1, .string a0_2, .string a0_3] 36 (0, 0)) (by (with_reducible repeat (first | refine blk_drewN ?_ _ | refine blk_drew ?_ | refine blk_alloc ?_ _)); exact BK116.out) hb); have n1_ := Aside0.mk (blk_below (g := gb117) (o := .cells #[.int .u8 0, .int .u8 0, .int .u8 0, .int .u8 0, .int .u8 0, .int .u16 0] 25 (0, 0)) (by (with_reducible repeat (first | refine blk_drewN ?_ _ | refine blk_drew ?_ | refine blk_alloc ?_ _)); exact BK117.out) hb); have n2_ := Aside0.mk (blk_below (g := gb118) (o := .cells #[.int .u8 a0_0, .int .u8 x119001_3, .int .u8 x119002_19, .int .u8 x119003_29, .int .u8 0, .int .u16 0] 25 (0, 0)) (by (with_reducible repeat (first | refine blk_drewN ?_ _ | refine blk_drew ?_ | refine blk_alloc ?_ _)); exact BK118.out) hb); have n3_ := Aside0.mk (below_step (by repeat (first | (with_reducible first | exact HB.out | apply below_alloc | apply pw_below_drewN | apply below_drew1 | refine below_set ?_ GE116.out | refine below_set ?_ GE117.out | refine below_set ?_ GE118.out) | exact HB.out)) hb); clear BK116; clear BK117; clear BK118; clear HB; have BK116 := n0_; have BK117 := n1_; have BK118 := n2_; have HB := n3_; clear n0_ n1_ n2_ n3_; (try clear hb); (try clear hb2); (try clear hk); (try clear hi); have hnb57 := NB118_117.out; have hnc57 := NB117_118.out; have hcz58_0 : w56.cell? ⟨gb118, 0, none⟩ = some (.int .u8 a0_0) := (blk_cell BK118.out 0).trans rfl; have hcz58_1 : w56.cell? ⟨gb118, 1, none⟩ = some (.int .u8 x119001_3) := (blk_cell BK118.out 1).trans rfl; have hcz58_2 : w56.cell? ⟨gb118, 2, none⟩ = some (.int .u8 x119002_19) := (blk_cell BK118.out 2).trans rfl; have hcz58_3 : w56.cell? ⟨gb118, 3, none⟩ = some (.int .u8 x119003_29) := (blk_cell BK118.out 3).trans rfl; have hcz58_4 : w56.cell? ⟨gb118, 4, none⟩ = some (.int .u8 0) := (blk_cell BK118.out 4).trans rfl; have hcz58_5 : w56.cell? ⟨gb118, 5, none⟩ = some (.int .u16 0) := (blk_cell BK118.out 5).trans rfl; have hfz58_0 := blk_frozen BK118.out 0; have hfz58_1 := blk_frozen BK118.out 1; have hfz58_2 := blk_frozen BK118.out 2; have hfz58_3 := blk_frozen BK118.out 3; have hfz58_4 := blk_frozen BK118.out 4; have hfz58_5 := blk_frozen BK118.out 5; have hcz59_0 : w56.cell? ⟨gb116, 0, none⟩ = some (.int .u8 a0_0) := (blk_cell BK116.out 0).trans rfl; have hcz59_1 : w56.cell? ⟨gb116, 1, none⟩ = some (.int .u16 a0_1) := (blk_cell BK116.out 1).trans rfl; have hcz59_2 : w56.cell? ⟨gb116, 2, none⟩ = some (.string a0_2) := (blk_cell BK116.out 2).trans rfl; have hcz59_3 : w56.cell? ⟨gb116, 3, none⟩ = some (.string a0_3) := (blk_cell BK116.out 3).trans rfl; have hfz59_0 := blk_frozen BK116.out 0; have hfz59_1 := blk_frozen BK116.out 1; have hfz59_2 := blk_frozen BK116.out 2; have hfz59_3 := blk_frozen BK116.out 3) | ((with_reducible refine gate_callee (f := 13) rfl ?_); refine goesL_ (some 36) rfl rfl Try.func13 (by kernel_rfl) rfl #[.agg #[.int .u8 a0_0, .int .u16 a0_1, .string a0_2, .string a0_3], .int .u8 97] rfl (by (try simp only [List.map_toArray, List.map_cons, List.map_nil]); first | done | rfl | (simp only [List.length_drop, List.length_take]; rfl)) ?_; (with_reducible refine (vesperref16_Word_has.calls kj29 a0_0 a0_1 a0_2 a0_3 97 false _ A41.out).mono ?_); rintro e w60 ⟨rfl, hb⟩; refine ⟨_, rfl, ?_⟩; have n0_ := Aside0.mk (blk_below (g := gb116) (o := .cells #[.int .u8 a0_0, .int .u16 a0_1, .string a0_2, .string a0_3] 36 (0, 0)) (by (with_reducible repeat (first | refine blk_drewN ?_ _ | refine blk_drew ?_ | refine blk_alloc ?_ _)); refine blk_far ?_ NB116_118.out _; (with_reducible repeat (first | refine blk_drewN ?_ _ | refine blk_drew ?_ | refine blk_alloc ?_ _)); exact BK116.out) hb); have n1_ := Aside0.mk (blk_below (g := gb117) (o := .cells #[.int .u8 0, .int .u8 0, .int .u8 0, .int .u8 0, .int .u8 0, .int .u16 0] 25 (0, 0)) (by (with_reducible repeat (first | refine blk_drewN ?_ _ | refine blk_drew ?_ | refine blk_alloc ?_ _)); refine blk_far ?_ NB117_118.out _; (with_reducible repeat (first | refine blk_drewN ?_ _ | refine blk_drew ?_ | refine blk_alloc ?_ _)); exact BK117.out) hb); have n2_ := Aside0.mk (blk_below (g := gb118) (o := .cells #[.int .u8 a0_0, .int .u8 x119001_3, .int .u8 x119002_19, .int .u8 x119003_29, .int .u8 ((Int.tmod a1 256) % 256), .int .u16 0] 25 (0, 0)) (by (with_reducible repeat (first | refine blk_drewN ?_ _ | refine blk_drew ?_ | refine blk_alloc ?_ _)); refine blk_put (cs := #[.int .u8 a0_0, .int .u8 x119001_3, .int .u8 x119002_19, .int .u8 x119003_29, .int .u8 0, .int .u16 0]) ?_ 4 _ rfl; (with_reducible repeat (first | refine blk_drewN ?_ _ | refine blk_drew ?_ | refine blk_alloc ?_ _)); exact BK118.out) hb); have n3_ := Aside0.mk (below_step (by repeat (first | (with_reducible first | exact HB.out | apply below_alloc | apply pw_below_drewN | apply below_drew1 | refine below_set ?_ GE116.out | refine below_set ?_ GE117.out | refine below_set ?_ GE118.out) | exact HB.out)) hb); clear BK116; clear BK117; clear BK118; clear HB; have BK116 := n0_; have BK117 := n1_; have BK118 := n2_; have HB := n3_; clear n0_ n1_ n2_ n3_; (try clear hb); (try clear hb2); (try clear hk); (try clear hi); have hcz61_0 : w60.cell? ⟨gb118, 0, none⟩ = some (.int .u8 a0_0) := (blk_cell BK118.out 0).trans rfl; have hcz61_1 : w60.cell? ⟨gb118, 1, none⟩ = some (.int .u8 x119001_3) := (blk_cell BK118.out 1).trans rfl; have hcz61_2 : w60.cell? ⟨gb118, 2, none⟩ = some (.int .u8 x119002_19) := (blk_cell BK118.out 2).trans rfl; have hcz61_3 : w60.cell? ⟨gb118, 3, none⟩ = some (.int .u8 x119003_29) := (blk_cell BK118.out 3).trans rfl; have hcz61_4 : w60.cell? ⟨gb118, 4, none⟩ = some (.int .u8 ((Int.tmod a1 256) % 256)) := (blk_cell BK118.out 4).trans rfl; have hcz61_5 : w60.cell? ⟨gb118, 5, none⟩ = some (.int .u16 0) := (blk_cell BK118.out 5).trans rfl; have hfz61_0 := blk_frozen BK118.out 0; have hfz61_1 := blk_frozen BK118.out 1; have hfz61_2 := blk_frozen BK118.out 2; have hfz61_3 := blk_frozen BK118.out 3; have hfz61_4 := blk_frozen BK118.out 4; have hfz61_5 := blk_frozen BK118.out 5; have hcz62_0 : w60.cell? ⟨gb117, 0, none⟩ = some (.int .u8 0) := (blk_cell BK117.out 0).trans rfl; have hcz62_1 : w60.cell? ⟨gb117, 1, none⟩ = some (.int .u8 0) := (blk_cell BK117.out 1).trans rfl; have hcz62_2 : w60.cell? ⟨gb117, 2, none⟩ = some (.int .u8 0) := (blk_cell BK117.out 2).trans rfl; have hcz62_3 : w60.cell? ⟨gb117, 3, none⟩ = some (.int .u8 0) := (blk_cell BK117.out 3).trans rfl; have hcz62_4 : w60.cell? ⟨gb117, 4, none⟩ = some (.int .u8 0) := (blk_cell BK117.out 4).trans rfl; have hcz62_5 : w60.cell? ⟨gb117, 5, none⟩ = some (.int .u16 0) := (blk_cell BK117.out 5).trans rfl; have hfz62_0 := blk_frozen BK117.out 0; have hfz62_1 := blk_frozen BK117.out 1; have hfz62_2 := blk_frozen BK117.out 2; have hfz62_3 := blk_frozen BK117.out 3; have hfz62_4 := blk_frozen BK117.out 4; have hfz62_5 := blk_frozen BK117.out 5))
                  refine bodyPost_ret (results_cell_row rfl _ _ gb117 25 #[.int .u8 a0_0, .int .u8 x119001_3, .int .u8 x119002_19, .int .u8 x119003_29, .int .u8 ((Int.tmod a1 256) % 256), .int .u16 0] (0, 0) _ rfl (by (with_reducible repeat (first | refine blk_drewN ?_ _ | refine blk_drew ?_ | refine blk_alloc ?_ _)); refine blk_put (cs := #[.int .u8 a0_0, .int .u8 x119001_3, .int .u8 x119002_19, .int .u8 x119003_29, .int .u8 ((Int.tmod a1 256) % 256), .int .u16 0]) ?_ 5 _ rfl; (with_reducible repeat (first | refine blk_drewN ?_ _ | refine blk_drew ?_ | refine blk_alloc ?_ _)); refine blk_put (cs := #[.int .u8 a0_0, .int .u8 x119001_3, .int .u8 x119002_19, .int .u8 x119003_29, .int .u8 0, .int .u16 0]) ?_ 4 _ rfl; (with_reducible repeat (first | refine blk_drewN ?_ _ | refine blk_drew ?_ | refine blk_alloc ?_ _)); refine blk_put (cs := #[.int .u8 a0_0, .int .u8 x119001_3, .int .u8 x119002_19, .int .u8 0, .int .u8 0, .int .u16 0]) ?_ 3 _ rfl; (with_reducible repeat (first | refine blk_drewN ?_ _ | refine blk_drew ?_ | refine blk_alloc ?_ _)); refine blk_put (cs := #[.int .u8 a0_0, .int .u8 x119001_3, .int .u8 0, .int .u8 0, .int .u8 0, .int .u16 0]) ?_ 2 _ rfl; (with_reducible repeat (first | refine blk_drewN ?_ _ | refine blk_drew ?_ | refine blk_alloc ?_ _)); refine blk_put (cs := #[.int .u8 a0_0, .int .u8 0, .int .u8 0, .int .u8 0, .int .u8 0, .int .u16 0]) ?_ 1 _ rfl; (with_reducible repeat (first | refine blk_drewN ?_ _ | refine blk_drew ?_ | refine blk_alloc ?_ _)); refine blk_put (cs := #[.int .u8 0, .int .u8 0, .int .u8 0, .int .u8 0, .int .u8 0, .int .u16 0]) ?_ 0 _ rfl; (with_reducible repeat (first | refine blk_drewN ?_ _ | refine blk_drew ?_ | refine blk_alloc ?_ _)); exact BK117.out) Try.underlying25 rfl (by kernel_rfl)) rfl ?_
                  exact ⟨by first | rfl | (simp [errW_none, errW_some] <;> rfl) | (simp [*, errW_none, errW_some] <;> rfl), by repeat (first | (with_reducible first | exact HB.out | apply below_alloc | apply pw_below_drewN | apply below_drew1 | refine below_set ?_ GE116.out | refine below_set ?_ GE117.out | refine below_set ?_ GE118.out) | exact HB.out)⟩
              · replace c40 := Bool.eq_false_iff.mpr c40
                subst c40
                have H1 : ((vesperref16_Word_has.f kj29 a0_0 a0_1 a0_2 a0_3 97).bind fun t124 => (if t124 = true then (some (a0_0, x119001_3, x119002_19, x119003_29, 0, Int.tmod a1 4096)) else (some (a0_0, x119001_3, x119002_19, x119003_29, 0, 0)))) = some (r1, r2, r3, r4, r5, r6) := by rw [if_neg (show ¬ (false = true) by decide)] at H; exact H
                clear H
                have H := H1
                clear H1
                replace H := Option.bind_eq_some_iff.mp H
                obtain ⟨t124, A630, H⟩ := H
                replace H : (if t124 = true then (some (a0_0, x119001_3, x119002_19, x119003_29, 0, Int.tmod a1 4096)) else (some (a0_0, x119001_3, x119002_19, x119003_29, 0, 0))) = some (r1, r2, r3, r4, r5, r6) := H
                have A63 := Aside0.mk A630
                clear A630
                by_cases c64 : t124 = true
                · subst c64
                  have H1 : (some (a0_0, x119001_3, x119002_19, x119003_29, 0, Int.tmod a1 4096)) = some (r1, r2, r3, r4, r5, r6) := by rw [if_pos rfl] at H; exact H
                  clear H
                  have H := H1
                  clear H1
                  simp only [Option.some.injEq, Prod.mk.injEq] at H
                  obtain ⟨rfl, rfl, rfl, rfl, rfl, rfl⟩ := H
                  have hnb65 := NB116_117.out
                  have hnc65 := NB117_116.out
                  have hnb66 := NB116_118.out
                  have hnc66 := NB118_116.out
                  have hcz67_0 : wc.cell? ⟨gb116, 0, none⟩ = some (.int .u8 a0_0) := (blk_cell BK116.out 0).trans rfl
                  have hcz67_1 : wc.cell? ⟨gb116, 1, none⟩ = some (.int .u16 a0_1) := (blk_cell BK116.out 1).trans rfl
                  have hcz67_2 : wc.cell? ⟨gb116, 2, none⟩ = some (.string a0_2) := (blk_cell BK116.out 2).trans rfl
                  have hcz67_3 : wc.cell? ⟨gb116, 3, none⟩ = some (.string a0_3) := (blk_cell BK116.out 3).trans rfl
                  have hfz67_0 := blk_frozen BK116.out 0
                  have hfz67_1 := blk_frozen BK116.out 1
                  have hfz67_2 := blk_frozen BK116.out 2
                  have hfz67_3 := blk_frozen BK116.out 3
                  go_wp2_with (first | ((with_reducible refine gate_callee (f := 13) rfl ?_); refine goesL_ (some 30) rfl rfl Try.func13 (by kernel_rfl) rfl #[.agg #[.int .u8 a0_0, .int .u16 a0_1, .string a0_2, .string a0_3], .int .u8 98] rfl (by (try simp only [List.map_toArray, List.map_cons, List.map_nil]); first | done | rfl | (simp only [List.length_drop, List.length_take]; rfl)) ?_; (with_reducible refine (vesperref16_Word_has.calls kj29 a0_0 a0_1 a0_2 a0_3 98 false _ A39.out).mono ?_); rintro e w68 ⟨rfl, hb⟩; refine ⟨_, rfl, ?_⟩; have n0_ := Aside0.mk (blk_below (g := gb116) (o := .cells #[.int .u8 a0_0, .int .u16 a0_1, .string a0_2, .string a0_3] 36 (0, 0)) (by (with_reducible repeat (first | refine blk_drewN ?_ _ | refine blk_drew ?_ | refine blk_alloc ?_ _)); exact BK116.out) hb); have n1_ := Aside0.mk (blk_below (g := gb117) (o := .cells #[.int .u8 0, .int .u8 0, .int .u8 0, .int .u8 0, .int .u8 0, .int .u16 0] 25 (0, 0)) (by (with_reducible repeat (first | refine blk_drewN ?_ _ | refine blk_drew ?_ | refine blk_alloc ?_ _)); exact BK117.out) hb); have n2_ := Aside0.mk (blk_below (g := gb118) (o := .cells #[.int .u8 a0_0, .int .u8 x119001_3, .int .u8 x119002_19, .int .u8 x119003_29, .int .u8 0, .int .u16 0] 25 (0, 0)) (by (with_reducible repeat (first | refine blk_drewN ?_ _ | refine blk_drew ?_ | refine blk_alloc ?_ _)); exact BK118.out) hb); have n3_ := Aside0.mk (below_step (by repeat (first | (with_reducible first | exact HB.out | apply below_alloc | apply pw_below_drewN | apply below_drew1 | refine below_set ?_ GE116.out | refine below_set ?_ GE117.out | refine below_set ?_ GE118.out) | exact HB.out)) hb); clear BK116; clear BK117; clear BK118; clear HB; have BK116 := n0_; have BK117 := n1_; have BK118 := n2_; have HB := n3_; clear n0_ n1_ n2_ n3_; (try clear hb); (try clear hb2); (try clear hk); (try clear hi); have hcz69_0 : w68.cell? ⟨gb116, 0, none⟩ = some (.int .u8 a0_0) := (blk_cell BK116.out 0).trans rfl; have hcz69_1 : w68.cell? ⟨gb116, 1, none⟩ = some (.int .u16 a0_1) := (blk_cell BK116.out 1).trans rfl; have hcz69_2 : w68.cell? ⟨gb116, 2, none⟩ = some (.string a0_2) := (blk_cell BK116.out 2).trans rfl; have hcz69_3 : w68.cell? ⟨gb116, 3, none⟩ = some (.string a0_3) := (blk_cell BK116.out 3).trans rfl; have hfz69_0 := blk_frozen BK116.out 0; have hfz69_1 := blk_frozen BK116.out 1; have hfz69_2 := blk_frozen BK116.out 2; have hfz69_3 := blk_frozen BK116.out 3) | ((with_reducible refine gate_callee (f := 13) rfl ?_); refine goesL_ (some 36) rfl rfl Try.func13 (by kernel_rfl) rfl #[.agg #[.int .u8 a0_0, .int .u16 a0_1, .string a0_2, .string a0_3], .int .u8 97] rfl (by (try simp only [List.map_toArray, List.map_cons, List.map_nil]); first | done | rfl | (simp only [List.length_drop, List.length_take]; rfl)) ?_; (with_reducible refine (vesperref16_Word_has.calls kj29 a0_0 a0_1 a0_2 a0_3 97 true _ A63.out).mono ?_); rintro e w70 ⟨rfl, hb⟩; refine ⟨_, rfl, ?_⟩; have n0_ := Aside0.mk (blk_below (g := gb116) (o := .cells #[.int .u8 a0_0, .int .u16 a0_1, .string a0_2, .string a0_3] 36 (0, 0)) (by (with_reducible repeat (first | refine blk_drewN ?_ _ | refine blk_drew ?_ | refine blk_alloc ?_ _)); exact BK116.out) hb); have n1_ := Aside0.mk (blk_below (g := gb117) (o := .cells #[.int .u8 0, .int .u8 0, .int .u8 0, .int .u8 0, .int .u8 0, .int .u16 0] 25 (0, 0)) (by (with_reducible repeat (first | refine blk_drewN ?_ _ | refine blk_drew ?_ | refine blk_alloc ?_ _)); exact BK117.out) hb); have n2_ := Aside0.mk (blk_below (g := gb118) (o := .cells #[.int .u8 a0_0, .int .u8 x119001_3, .int .u8 x119002_19, .int .u8 x119003_29, .int .u8 0, .int .u16 0] 25 (0, 0)) (by (with_reducible repeat (first | refine blk_drewN ?_ _ | refine blk_drew ?_ | refine blk_alloc ?_ _)); exact BK118.out) hb); have n3_ := Aside0.mk (below_step (by repeat (first | (with_reducible first | exact HB.out | apply below_alloc | apply pw_below_drewN | apply below_drew1 | refine below_set ?_ GE116.out | refine below_set ?_ GE117.out | refine below_set ?_ GE118.out) | exact HB.out)) hb); clear BK116; clear BK117; clear BK118; clear HB; have BK116 := n0_; have BK117 := n1_; have BK118 := n2_; have HB := n3_; clear n0_ n1_ n2_ n3_; (try clear hb); (try clear hb2); (try clear hk); (try clear hi); have hnb71 := NB118_117.out; have hnc71 := NB117_118.out; have hcz72_0 : w70.cell? ⟨gb118, 0, none⟩ = some (.int .u8 a0_0) := (blk_cell BK118.out 0).trans rfl; have hcz72_1 : w70.cell? ⟨gb118, 1, none⟩ = some (.int .u8 x119001_3) := (blk_cell BK118.out 1).trans rfl; have hcz72_2 : w70.cell? ⟨gb118, 2, none⟩ = some (.int .u8 x119002_19) := (blk_cell BK118.out 2).trans rfl; have hcz72_3 : w70.cell? ⟨gb118, 3, none⟩ = some (.int .u8 x119003_29) := (blk_cell BK118.out 3).trans rfl; have hcz72_4 : w70.cell? ⟨gb118, 4, none⟩ = some (.int .u8 0) := (blk_cell BK118.out 4).trans rfl; have hcz72_5 : w70.cell? ⟨gb118, 5, none⟩ = some (.int .u16 0) := (blk_cell BK118.out 5).trans rfl; have hfz72_0 := blk_frozen BK118.out 0; have hfz72_1 := blk_frozen BK118.out 1; have hfz72_2 := blk_frozen BK118.out 2; have hfz72_3 := blk_frozen BK118.out 3; have hfz72_4 := blk_frozen BK118.out 4; have hfz72_5 := blk_frozen BK118.out 5; have hcz73_0 : w70.cell? ⟨gb117, 0, none⟩ = some (.int .u8 0) := (blk_cell BK117.out 0).trans rfl; have hcz73_1 : w70.cell? ⟨gb117, 1, none⟩ = some (.int .u8 0) := (blk_cell BK117.out 1).trans rfl; have hcz73_2 : w70.cell? ⟨gb117, 2, none⟩ = some (.int .u8 0) := (blk_cell BK117.out 2).trans rfl; have hcz73_3 : w70.cell? ⟨gb117, 3, none⟩ = some (.int .u8 0) := (blk_cell BK117.out 3).trans rfl; have hcz73_4 : w70.cell? ⟨gb117, 4, none⟩ = some (.int .u8 0) := (blk_cell BK117.out 4).trans rfl; have hcz73_5 : w70.cell? ⟨gb117, 5, none⟩ = some (.int .u16 0) := (blk_cell BK117.out 5).trans rfl; have hfz73_0 := blk_frozen BK117.out 0; have hfz73_1 := blk_frozen BK117.out 1; have hfz73_2 := blk_frozen BK117.out 2; have hfz73_3 := blk_frozen BK117.out 3; have hfz73_4 := blk_frozen BK117.out 4; have hfz73_5 := blk_frozen BK117.out 5))
                  refine bodyPost_ret (results_cell_row rfl _ _ gb117 25 #[.int .u8 a0_0, .int .u8 x119001_3, .int .u8 x119002_19, .int .u8 x119003_29, .int .u8 0, .int .u16 (Int.tmod a1 4096)] (0, 0) _ rfl (by (with_reducible repeat (first | refine blk_drewN ?_ _ | refine blk_drew ?_ | refine blk_alloc ?_ _)); refine blk_put (cs := #[.int .u8 a0_0, .int .u8 x119001_3, .int .u8 x119002_19, .int .u8 x119003_29, .int .u8 0, .int .u16 0]) ?_ 5 _ rfl; (with_reducible repeat (first | refine blk_drewN ?_ _ | refine blk_drew ?_ | refine blk_alloc ?_ _)); refine blk_put (cs := #[.int .u8 a0_0, .int .u8 x119001_3, .int .u8 x119002_19, .int .u8 x119003_29, .int .u8 0, .int .u16 0]) ?_ 4 _ rfl; (with_reducible repeat (first | refine blk_drewN ?_ _ | refine blk_drew ?_ | refine blk_alloc ?_ _)); refine blk_put (cs := #[.int .u8 a0_0, .int .u8 x119001_3, .int .u8 x119002_19, .int .u8 0, .int .u8 0, .int .u16 0]) ?_ 3 _ rfl; (with_reducible repeat (first | refine blk_drewN ?_ _ | refine blk_drew ?_ | refine blk_alloc ?_ _)); refine blk_put (cs := #[.int .u8 a0_0, .int .u8 x119001_3, .int .u8 0, .int .u8 0, .int .u8 0, .int .u16 0]) ?_ 2 _ rfl; (with_reducible repeat (first | refine blk_drewN ?_ _ | refine blk_drew ?_ | refine blk_alloc ?_ _)); refine blk_put (cs := #[.int .u8 a0_0, .int .u8 0, .int .u8 0, .int .u8 0, .int .u8 0, .int .u16 0]) ?_ 1 _ rfl; (with_reducible repeat (first | refine blk_drewN ?_ _ | refine blk_drew ?_ | refine blk_alloc ?_ _)); refine blk_put (cs := #[.int .u8 0, .int .u8 0, .int .u8 0, .int .u8 0, .int .u8 0, .int .u16 0]) ?_ 0 _ rfl; (with_reducible repeat (first | refine blk_drewN ?_ _ | refine blk_drew ?_ | refine blk_alloc ?_ _)); refine blk_far ?_ NB117_118.out _; (with_reducible repeat (first | refine blk_drewN ?_ _ | refine blk_drew ?_ | refine blk_alloc ?_ _)); exact BK117.out) Try.underlying25 rfl (by kernel_rfl)) rfl ?_
                  exact ⟨by first | rfl | (simp [errW_none, errW_some] <;> rfl) | (simp [*, errW_none, errW_some] <;> rfl), by repeat (first | (with_reducible first | exact HB.out | apply below_alloc | apply pw_below_drewN | apply below_drew1 | refine below_set ?_ GE116.out | refine below_set ?_ GE117.out | refine below_set ?_ GE118.out) | exact HB.out)⟩
                · replace c64 := Bool.eq_false_iff.mpr c64
                  subst c64
                  have H1 : (some (a0_0, x119001_3, x119002_19, x119003_29, 0, 0)) = some (r1, r2, r3, r4, r5, r6) := by rw [if_neg (show ¬ (false = true) by decide)] at H; exact H
                  clear H
                  have H := H1
                  clear H1
                  simp only [Option.some.injEq, Prod.mk.injEq] at H
                  obtain ⟨rfl, rfl, rfl, rfl, rfl, rfl⟩ := H
                  have hnb74 := NB116_117.out
                  have hnc74 := NB117_116.out
                  have hnb75 := NB116_118.out
                  have hnc75 := NB118_116.out
                  have hcz76_0 : wc.cell? ⟨gb116, 0, none⟩ = some (.int .u8 a0_0) := (blk_cell BK116.out 0).trans rfl
                  have hcz76_1 : wc.cell? ⟨gb116, 1, none⟩ = some (.int .u16 a0_1) := (blk_cell BK116.out 1).trans rfl
                  have hcz76_2 : wc.cell? ⟨gb116, 2, none⟩ = some (.string a0_2) := (blk_cell BK116.out 2).trans rfl
                  have hcz76_3 : wc.cell? ⟨gb116, 3, none⟩ = some (.string a0_3) := (blk_cell BK116.out 3).trans rfl
                  have hfz76_0 := blk_frozen BK116.out 0
                  have hfz76_1 := blk_frozen BK116.out 1
                  have hfz76_2 := blk_frozen BK116.out 2
                  have hfz76_3 := blk_frozen BK116.out 3
                  go_wp2_with (first | ((with_reducible refine gate_callee (f := 13) rfl ?_); refine goesL_ (some 30) rfl rfl Try.func13 (by kernel_rfl) rfl #[.agg #[.int .u8 a0_0, .int .u16 a0_1, .string a0_2, .string a0_3], .int .u8 98] rfl (by (try simp only [List.map_toArray, List.map_cons, List.map_nil]); first | done | rfl | (simp only [List.length_drop, List.length_take]; rfl)) ?_; (with_reducible refine (vesperref16_Word_has.calls kj29 a0_0 a0_1 a0_2 a0_3 98 false _ A39.out).mono ?_); rintro e w77 ⟨rfl, hb⟩; refine ⟨_, rfl, ?_⟩; have n0_ := Aside0.mk (blk_below (g := gb116) (o := .cells #[.int .u8 a0_0, .int .u16 a0_1, .string a0_2, .string a0_3] 36 (0, 0)) (by (with_reducible repeat (first | refine blk_drewN ?_ _ | refine blk_drew ?_ | refine blk_alloc ?_ _)); exact BK116.out) hb); have n1_ := Aside0.mk (blk_below (g := gb117) (o := .cells #[.int .u8 0, .int .u8 0, .int .u8 0, .int .u8 0, .int .u8 0, .int .u16 0] 25 (0, 0)) (by (with_reducible repeat (first | refine blk_drewN ?_ _ | refine blk_drew ?_ | refine blk_alloc ?_ _)); exact BK117.out) hb); have n2_ := Aside0.mk (blk_below (g := gb118) (o := .cells #[.int .u8 a0_0, .int .u8 x119001_3, .int .u8 x119002_19, .int .u8 x119003_29, .int .u8 0, .int .u16 0] 25 (0, 0)) (by (with_reducible repeat (first | refine blk_drewN ?_ _ | refine blk_drew ?_ | refine blk_alloc ?_ _)); exact BK118.out) hb); have n3_ := Aside0.mk (below_step (by repeat (first | (with_reducible first | exact HB.out | apply below_alloc | apply pw_below_drewN | apply below_drew1 | refine below_set ?_ GE116.out | refine below_set ?_ GE117.out | refine below_set ?_ GE118.out) | exact HB.out)) hb); clear BK116; clear BK117; clear BK118; clear HB; have BK116 := n0_; have BK117 := n1_; have BK118 := n2_; have HB := n3_; clear n0_ n1_ n2_ n3_; (try clear hb); (try clear hb2); (try clear hk); (try clear hi); have hcz78_0 : w77.cell? ⟨gb116, 0, none⟩ = some (.int .u8 a0_0) := (blk_cell BK116.out 0).trans rfl; have hcz78_1 : w77.cell? ⟨gb116, 1, none⟩ = some (.int .u16 a0_1) := (blk_cell BK116.out 1).trans rfl; have hcz78_2 : w77.cell? ⟨gb116, 2, none⟩ = some (.string a0_2) := (blk_cell BK116.out 2).trans rfl; have hcz78_3 : w77.cell? ⟨gb116, 3, none⟩ = some (.string a0_3) := (blk_cell BK116.out 3).trans rfl; have hfz78_0 := blk_frozen BK116.out 0; have hfz78_1 := blk_frozen BK116.out 1; have hfz78_2 := blk_frozen BK116.out 2; have hfz78_3 := blk_frozen BK116.out 3) | ((with_reducible refine gate_callee (f := 13) rfl ?_); refine goesL_ (some 36) rfl rfl Try.func13 (by kernel_rfl) rfl #[.agg #[.int .u8 a0_0, .int .u16 a0_1, .string a0_2, .string a0_3], .int .u8 97] rfl (by (try simp only [List.map_toArray, List.map_cons, List.map_nil]); first | done | rfl | (simp only [List.length_drop, List.length_take]; rfl)) ?_; (with_reducible refine (vesperref16_Word_has.calls kj29 a0_0 a0_1 a0_2 a0_3 97 false _ A63.out).mono ?_); rintro e w79 ⟨rfl, hb⟩; refine ⟨_, rfl, ?_⟩; have n0_ := Aside0.mk (blk_below (g := gb116) (o := .cells #[.int .u8 a0_0, .int .u16 a0_1, .string a0_2, .string a0_3] 36 (0, 0)) (by (with_reducible repeat (first | refine blk_drewN ?_ _ | refine blk_drew ?_ | refine blk_alloc ?_ _)); exact BK116.out) hb); have n1_ := Aside0.mk (blk_below (g := gb117) (o := .cells #[.int .u8 0, .int .u8 0, .int .u8 0, .int .u8 0, .int .u8 0, .int .u16 0] 25 (0, 0)) (by (with_reducible repeat (first | refine blk_drewN ?_ _ | refine blk_drew ?_ | refine blk_alloc ?_ _)); exact BK117.out) hb); have n2_ := Aside0.mk (blk_below (g := gb118) (o := .cells #[.int .u8 a0_0, .int .u8 x119001_3, .int .u8 x119002_19, .int .u8 x119003_29, .int .u8 0, .int .u16 0] 25 (0, 0)) (by (with_reducible repeat (first | refine blk_drewN ?_ _ | refine blk_drew ?_ | refine blk_alloc ?_ _)); exact BK118.out) hb); have n3_ := Aside0.mk (below_step (by repeat (first | (with_reducible first | exact HB.out | apply below_alloc | apply pw_below_drewN | apply below_drew1 | refine below_set ?_ GE116.out | refine below_set ?_ GE117.out | refine below_set ?_ GE118.out) | exact HB.out)) hb); clear BK116; clear BK117; clear BK118; clear HB; have BK116 := n0_; have BK117 := n1_; have BK118 := n2_; have HB := n3_; clear n0_ n1_ n2_ n3_; (try clear hb); (try clear hb2); (try clear hk); (try clear hi); have hnb80 := NB118_117.out; have hnc80 := NB117_118.out; have hcz81_0 : w79.cell? ⟨gb118, 0, none⟩ = some (.int .u8 a0_0) := (blk_cell BK118.out 0).trans rfl; have hcz81_1 : w79.cell? ⟨gb118, 1, none⟩ = some (.int .u8 x119001_3) := (blk_cell BK118.out 1).trans rfl; have hcz81_2 : w79.cell? ⟨gb118, 2, none⟩ = some (.int .u8 x119002_19) := (blk_cell BK118.out 2).trans rfl; have hcz81_3 : w79.cell? ⟨gb118, 3, none⟩ = some (.int .u8 x119003_29) := (blk_cell BK118.out 3).trans rfl; have hcz81_4 : w79.cell? ⟨gb118, 4, none⟩ = some (.int .u8 0) := (blk_cell BK118.out 4).trans rfl; have hcz81_5 : w79.cell? ⟨gb118, 5, none⟩ = some (.int .u16 0) := (blk_cell BK118.out 5).trans rfl; have hfz81_0 := blk_frozen BK118.out 0; have hfz81_1 := blk_frozen BK118.out 1; have hfz81_2 := blk_frozen BK118.out 2; have hfz81_3 := blk_frozen BK118.out 3; have hfz81_4 := blk_frozen BK118.out 4; have hfz81_5 := blk_frozen BK118.out 5; have hcz82_0 : w79.cell? ⟨gb117, 0, none⟩ = some (.int .u8 0) := (blk_cell BK117.out 0).trans rfl; have hcz82_1 : w79.cell? ⟨gb117, 1, none⟩ = some (.int .u8 0) := (blk_cell BK117.out 1).trans rfl; have hcz82_2 : w79.cell? ⟨gb117, 2, none⟩ = some (.int .u8 0) := (blk_cell BK117.out 2).trans rfl; have hcz82_3 : w79.cell? ⟨gb117, 3, none⟩ = some (.int .u8 0) := (blk_cell BK117.out 3).trans rfl; have hcz82_4 : w79.cell? ⟨gb117, 4, none⟩ = some (.int .u8 0) := (blk_cell BK117.out 4).trans rfl; have hcz82_5 : w79.cell? ⟨gb117, 5, none⟩ = some (.int .u16 0) := (blk_cell BK117.out 5).trans rfl; have hfz82_0 := blk_frozen BK117.out 0; have hfz82_1 := blk_frozen BK117.out 1; have hfz82_2 := blk_frozen BK117.out 2; have hfz82_3 := blk_frozen BK117.out 3; have hfz82_4 := blk_frozen BK117.out 4; have hfz82_5 := blk_frozen BK117.out 5))
                  refine bodyPost_ret (results_cell_row rfl _ _ gb117 25 #[.int .u8 a0_0, .int .u8 x119001_3, .int .u8 x119002_19, .int .u8 x119003_29, .int .u8 0, .int .u16 0] (0, 0) _ rfl (by (with_reducible repeat (first | refine blk_drewN ?_ _ | refine blk_drew ?_ | refine blk_alloc ?_ _)); refine blk_put (cs := #[.int .u8 a0_0, .int .u8 x119001_3, .int .u8 x119002_19, .int .u8 x119003_29, .int .u8 0, .int .u16 0]) ?_ 5 _ rfl; (with_reducible repeat (first | refine blk_drewN ?_ _ | refine blk_drew ?_ | refine blk_alloc ?_ _)); refine blk_put (cs := #[.int .u8 a0_0, .int .u8 x119001_3, .int .u8 x119002_19, .int .u8 x119003_29, .int .u8 0, .int .u16 0]) ?_ 4 _ rfl; (with_reducible repeat (first | refine blk_drewN ?_ _ | refine blk_drew ?_ | refine blk_alloc ?_ _)); refine blk_put (cs := #[.int .u8 a0_0, .int .u8 x119001_3, .int .u8 x119002_19, .int .u8 0, .int .u8 0, .int .u16 0]) ?_ 3 _ rfl; (with_reducible repeat (first | refine blk_drewN ?_ _ | refine blk_drew ?_ | refine blk_alloc ?_ _)); refine blk_put (cs := #[.int .u8 a0_0, .int .u8 x119001_3, .int .u8 0, .int .u8 0, .int .u8 0, .int .u16 0]) ?_ 2 _ rfl; (with_reducible repeat (first | refine blk_drewN ?_ _ | refine blk_drew ?_ | refine blk_alloc ?_ _)); refine blk_put (cs := #[.int .u8 a0_0, .int .u8 0, .int .u8 0, .int .u8 0, .int .u8 0, .int .u16 0]) ?_ 1 _ rfl; (with_reducible repeat (first | refine blk_drewN ?_ _ | refine blk_drew ?_ | refine blk_alloc ?_ _)); refine blk_put (cs := #[.int .u8 0, .int .u8 0, .int .u8 0, .int .u8 0, .int .u8 0, .int .u16 0]) ?_ 0 _ rfl; (with_reducible repeat (first | refine blk_drewN ?_ _ | refine blk_drew ?_ | refine blk_alloc ?_ _)); exact BK117.out) Try.underlying25 rfl (by kernel_rfl)) rfl ?_
                  exact ⟨by first | rfl | (simp [errW_none, errW_some] <;> rfl) | (simp [*, errW_none, errW_some] <;> rfl), by repeat (first | (with_reducible first | exact HB.out | apply below_alloc | apply pw_below_drewN | apply below_drew1 | refine below_set ?_ GE116.out | refine below_set ?_ GE117.out | refine below_set ?_ GE118.out) | exact HB.out)⟩

end Go.Proofs.Ythkheffilabhlaa.PInterBounds
