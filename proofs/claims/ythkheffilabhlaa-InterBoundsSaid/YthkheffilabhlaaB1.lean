/-
  For InterBounds: inter.Bound, and the law's walk.
-/
import Derived.Test.YthkheffilabhlaaB0
set_option linter.unusedSimpArgs false
set_option linter.unusedVariables false
namespace Go.Proofs.Ythkheffilabhlaa
open Go.RowKit Go.Proofs.YthkheffilabhlaaW.PrintWords Go.Proofs.YthkheffilabhlaaW.PrintLast Go.Proofs.YthkheffilabhlaaW.PrintMore

def boundV (o : OD) : Int := if rowsD.any (encHit o) = true then (if o.op = 1 then 0 else if o.op = 2 then 12000 else if o.op = 20 then 12000 else 5000) else 0
theorem enc_op {o : OD} (h : rowsD.any (encHit o) = true) : 1 ≤ o.op ∧ o.op ≤ 31 := by
  obtain ⟨r, hr, h⟩ := List.any_eq_true.1 h
  have h2 : ∀ r ∈ rowsD, 1 ≤ r.op ∧ r.op ≤ 31 := by decide
  have := h2 r hr
  unfold encHit at h
  rw [Bool.and_eq_true] at h
  have h3 := h.1
  simp at h3
  omega
theorem enc_no {c : Int} {x : Bool} (h : (c = 0 ∧ x = true) ∨ (c = 160 ∧ x = false)) (hx : x = false) : c = 160 := by
  rcases h with ⟨_, h⟩ | ⟨h, _⟩
  · rw [hx] at h; cases h
  · exact h
theorem enc_yes {c : Int} {x : Bool} (h : (c = 0 ∧ x = true) ∨ (c = 160 ∧ x = false)) (hx : x = true) : c = 0 := by
  rcases h with ⟨h, _⟩ | ⟨_, h⟩
  · exact h
  · rw [hx] at h; cases h
set_option maxRecDepth 100000 in
set_option maxHeartbeats 1000000 in
theorem bound_calls (o : OD) (ho : Fits o) (w : World) : Calls Try.prog 4 #[.agg (ocells o)] w fun e w' => e = .returned (.int .i64 (boundV o)) ∧ Below w.heap.size w w' := by
  have hop := ho.op
  cases hany : rowsD.any (encHit o) with
  | false =>
    have HV : Aside0 (boundV o = 0) := ⟨by unfold boundV; rw [hany]; rfl⟩
    have HA := Aside0.mk hany
    clear hany
    unfold ocells
    go_enter Try.func4, Try.ntmps4
    go_wp2_with (go_at_call 6; refine (encode_calls o ho _).mono ?_; rintro e w1 ⟨hb, v, c, rfl, hc⟩; obtain rfl := enc_no hc HA.out; have HB0 := Aside0.mk (below_step (below_alloc (Below.refl _ w) (.cells #[.int .u8 o.op, .int .u8 o.x, .int .u8 o.y, .int .u8 o.n, .int .u8 o.b, .int .u16 o.a] 25)) hb); clear hc hb)
    go_ret
    exact ⟨by rw [HV.out]; rfl, HB0.out⟩
  | true =>
    have hr := enc_op hany
    have HA := Aside0.mk hany
    clear hany
    by_cases h1 : o.op = 1
    · have HV : Aside0 (boundV o = 0) := ⟨by unfold boundV; rw [HA.out, if_pos rfl, if_pos h1]⟩
      have hq : (o.op == 1) = true := by rw [h1]; rfl
      clear h1
      unfold ocells
      go_enter Try.func4, Try.ntmps4
      go_wp2_with (go_at_call 6; refine (encode_calls o ho _).mono ?_; rintro e w1 ⟨hb, v, c, rfl, hc⟩; obtain rfl := enc_yes hc HA.out; have HB0 := Aside0.mk (below_step (below_alloc (Below.refl _ w) (.cells #[.int .u8 o.op, .int .u8 o.x, .int .u8 o.y, .int .u8 o.n, .int .u8 o.b, .int .u16 o.a] 25)) hb); have BK0 := Aside0.mk (blk_below (blk_new w (.cells #[.int .u8 o.op, .int .u8 o.x, .int .u8 o.y, .int .u8 o.n, .int .u8 o.b, .int .u16 o.a] 25)) hb); have z0 : w1.cell? ⟨w.heap.size, 0, none⟩ = some (.int .u8 o.op) := (blk_cell BK0.out 0).trans rfl; clear hc hb)
      go_ret
      exact ⟨by rw [HV.out]; rfl, HB0.out⟩
    · have hq : (o.op == 1) = false := by rw [beq_eq_false_iff_ne]; exact h1
      have HV : Aside0 (boundV o = if bnd o.op > 0 then bnd o.op else 5000) := ⟨by unfold boundV bnd; rw [HA.out, if_pos rfl, if_neg h1]; by_cases h2 : o.op = 2 <;> by_cases h3 : o.op = 20 <;> simp [h2, h3]⟩
      have hix := idx_run o.op (by omega) (by omega)
      clear h1
      unfold ocells
      go_enter Try.func4, Try.ntmps4
      go_wp2_with (go_at_call 6; refine (encode_calls o ho _).mono ?_; rintro e w1 ⟨hb, v, c, rfl, hc⟩; obtain rfl := enc_yes hc HA.out; have HB0 := Aside0.mk (below_step (below_alloc (Below.refl _ w) (.cells #[.int .u8 o.op, .int .u8 o.x, .int .u8 o.y, .int .u8 o.n, .int .u8 o.b, .int .u16 o.a] 25)) hb); have BK0 := Aside0.mk (blk_below (blk_new w (.cells #[.int .u8 o.op, .int .u8 o.x, .int .u8 o.y, .int .u8 o.n, .int .u8 o.b, .int .u16 o.a] 25)) hb); have z0 : w1.cell? ⟨w.heap.size, 0, none⟩ = some (.int .u8 o.op) := (blk_cell BK0.out 0).trans rfl; clear hc hb)
      go_region_held3 (fun w' => w'.cell? ⟨w.heap.size, 0, none⟩ = some (.int .u8 o.op) ∧ Below w.heap.size w w') (first | exact ⟨z0, below_drew HB0.out⟩ | exact ⟨pw_cell_below hb (show w1.drew.cell? _ = _ from z0), below_step (below_drew HB0.out) hb⟩) (first | (go_at_call 7; refine (bounds_calls _).mono ?_; rintro e w' ⟨rfl, hb⟩))
      rename_i hHeld
      have HB3 := Aside0.mk hHeld.2
      clear hHeld hb hix
      generalize bnd o.op = q at *
      by_cases hq0 : 0 < q
      · have HV2 : Aside0 (boundV o = q) := ⟨by rw [HV.out, if_pos hq0]⟩
        go_wp2
        go_ret
        exact ⟨by rw [HV2.out]; rfl, HB3.out⟩
      · have HV2 : Aside0 (boundV o = 5000) := ⟨by rw [HV.out, if_neg hq0]⟩
        go_wp2
        go_ret
        exact ⟨by rw [HV2.out]; rfl, HB3.out⟩
theorem boundV_yes {o : OD} (h : rowsD.any (encHit o) = true) : (o.op = 1 → boundV o = 0) ∧ (o.op ≠ 1 → 0 < boundV o ∧ boundV o ≤ (if o.op = 2 ∨ o.op = 20 then 20000 else 6000)) := by
  unfold boundV
  rw [h]
  refine ⟨fun h1 => by simp [h1], fun h1 => ?_⟩
  rw [if_pos rfl, if_neg h1]
  by_cases h2 : o.op = 2
  · simp [h2]
  · by_cases h3 : o.op = 20
    · simp [h3]
    · simp [h2, h3]
theorem boundV_no {o : OD} (h : rowsD.any (encHit o) = false) : boundV o = 0 := by unfold boundV; rw [h]; rfl
/-- The reference's Encode, met as data. -/
theorem ref_calls (o : OD) (ho : Fits o) (w : World) : Calls Try.prog 5 #[.agg (ocells o)] w fun e w' => (∃ v c : Int, e = .returned (.tuple #[.int .u16 v, .int .i64 c]) ∧ ((c = 0 ∧ rowsD.any (encHit o) = true) ∨ (c = 160 ∧ rowsD.any (encHit o) = false))) ∧ Below w.heap.size w w' := by
  obtain ⟨⟨a0, a1⟩, ⟨b0, b1⟩, ⟨c0, c1⟩, ⟨d0, d1⟩, ⟨e0, e1⟩, ⟨f0, f1⟩⟩ := ho
  obtain ⟨op, x, y, n, b, a⟩ := o
  simp only at a0 a1 b0 b1 c0 c1 d0 d1 e0 e1 f0 f1
  obtain ⟨op, rfl⟩ := Int.eq_ofNat_of_zero_le a0
  obtain ⟨x, rfl⟩ := Int.eq_ofNat_of_zero_le b0
  obtain ⟨y, rfl⟩ := Int.eq_ofNat_of_zero_le c0
  obtain ⟨n, rfl⟩ := Int.eq_ofNat_of_zero_le d0
  obtain ⟨b, rfl⟩ := Int.eq_ofNat_of_zero_le e0
  obtain ⟨a, rfl⟩ := Int.eq_ofNat_of_zero_le f0
  obtain ⟨v, c, h, hc⟩ := agree op ⟨x, y, n, b, a⟩ ⟨by simp only; omega, by simp only; omega, by simp only; omega, by simp only; omega, by simp only; omega⟩
  exact (PInterBounds.vesperref16_Encode.calls 100 op x y n b a v c w h).mono fun e w' ⟨he, hb⟩ => ⟨⟨v, c, he, hc⟩, hb⟩
set_option maxRecDepth 100000 in
set_option maxHeartbeats 2000000 in
theorem law_bad (o p : OD) (ho : Fits o) (hp : Fits p) (w : World) (hA : rowsD.any (encHit o) = false) : Calls Try.prog 3 #[.agg (ocells o), .agg (ocells p)] w fun e w' => e = .returned (.bool true) ∧ Below w.heap.size w w' := by
  have hop := ho.op
  have hN := boundV_no hA
  have HA := Aside0.mk hA
  clear hA
  unfold ocells
  go_enter Try.func3, Try.ntmps3
  go_wp2_with (first | (go_at_call 4; refine (bound_calls o ho _).mono ?_; rintro e w1 ⟨rfl, hb⟩; rw [hN]; have HB1 := Aside0.mk (below_step (below_alloc (below_alloc (Below.refl _ w) (.cells #[.int .u8 o.op, .int .u8 o.x, .int .u8 o.y, .int .u8 o.n, .int .u8 o.b, .int .u16 o.a] 25)) (.cells #[.int .u8 p.op, .int .u8 p.x, .int .u8 p.y, .int .u8 p.n, .int .u8 p.b, .int .u16 p.a] 25)) hb); have BO1 := Aside0.mk (blk_below (blk_alloc (blk_new w (.cells #[.int .u8 o.op, .int .u8 o.x, .int .u8 o.y, .int .u8 o.n, .int .u8 o.b, .int .u16 o.a] 25)) (.cells #[.int .u8 p.op, .int .u8 p.x, .int .u8 p.y, .int .u8 p.n, .int .u8 p.b, .int .u16 p.a] 25)) hb); have BP1 := Aside0.mk (blk_below (blk_new (w.alloc (.cells #[.int .u8 o.op, .int .u8 o.x, .int .u8 o.y, .int .u8 o.n, .int .u8 o.b, .int .u16 o.a] 25)) (.cells #[.int .u8 p.op, .int .u8 p.x, .int .u8 p.y, .int .u8 p.n, .int .u8 p.b, .int .u16 p.a] 25)) hb); rw [World.size_alloc] at BP1; clear hb; have z0 : w1.cell? ⟨w.heap.size, 0, none⟩ = some (.int .u8 o.op) := (blk_cell BO1.out 0).trans rfl; have z1 : w1.cell? ⟨w.heap.size, 1, none⟩ = some (.int .u8 o.x) := (blk_cell BO1.out 1).trans rfl; have z2 : w1.cell? ⟨w.heap.size, 2, none⟩ = some (.int .u8 o.y) := (blk_cell BO1.out 2).trans rfl; have z3 : w1.cell? ⟨w.heap.size, 3, none⟩ = some (.int .u8 o.n) := (blk_cell BO1.out 3).trans rfl; have z4 : w1.cell? ⟨w.heap.size, 4, none⟩ = some (.int .u8 o.b) := (blk_cell BO1.out 4).trans rfl; have z5 : w1.cell? ⟨w.heap.size, 5, none⟩ = some (.int .u16 o.a) := (blk_cell BO1.out 5).trans rfl) | (go_at_call 5; refine (ref_calls o ho _).mono ?_; rintro e w2 ⟨⟨v, c, rfl, hc⟩, hb⟩; obtain rfl := enc_no hc HA.out; have HB2 := Aside0.mk (below_step HB1.out hb); have BO2 := Aside0.mk (blk_below BO1.out hb); have BP2 := Aside0.mk (blk_below BP1.out hb); clear z0 z1 z2 z3 z4 z5 hc hb; have z0 : w2.cell? ⟨w.heap.size, 0, none⟩ = some (.int .u8 o.op) := (blk_cell BO2.out 0).trans rfl; have z1 : w2.cell? ⟨w.heap.size, 1, none⟩ = some (.int .u8 o.x) := (blk_cell BO2.out 1).trans rfl; have z2 : w2.cell? ⟨w.heap.size, 2, none⟩ = some (.int .u8 o.y) := (blk_cell BO2.out 2).trans rfl; have z3 : w2.cell? ⟨w.heap.size, 3, none⟩ = some (.int .u8 o.n) := (blk_cell BO2.out 3).trans rfl; have z4 : w2.cell? ⟨w.heap.size, 4, none⟩ = some (.int .u8 o.b) := (blk_cell BO2.out 4).trans rfl; have z5 : w2.cell? ⟨w.heap.size, 5, none⟩ = some (.int .u16 o.a) := (blk_cell BO2.out 5).trans rfl; have f0 := blk_frozen BP2.out 0; have y0 : w2.cell? ⟨w.heap.size + 1, 0, none⟩ = some (.int .u8 p.op) := (blk_cell BP2.out 0).trans rfl; have y1 : w2.cell? ⟨w.heap.size + 1, 1, none⟩ = some (.int .u8 p.x) := (blk_cell BP2.out 1).trans rfl; have y2 : w2.cell? ⟨w.heap.size + 1, 2, none⟩ = some (.int .u8 p.y) := (blk_cell BP2.out 2).trans rfl; have y3 : w2.cell? ⟨w.heap.size + 1, 3, none⟩ = some (.int .u8 p.n) := (blk_cell BP2.out 3).trans rfl; have y4 : w2.cell? ⟨w.heap.size + 1, 4, none⟩ = some (.int .u8 p.b) := (blk_cell BP2.out 4).trans rfl; have y5 : w2.cell? ⟨w.heap.size + 1, 5, none⟩ = some (.int .u16 p.a) := (blk_cell BP2.out 5).trans rfl))
  go_ret
  exact ⟨rfl, HB2.out⟩
set_option maxRecDepth 100000 in
set_option maxHeartbeats 2000000 in
theorem law_one (o p : OD) (ho : Fits o) (hp : Fits p) (w : World) (hA : rowsD.any (encHit o) = true) (h1 : o.op = 1) : Calls Try.prog 3 #[.agg (ocells o), .agg (ocells p)] w fun e w' => e = .returned (.bool true) ∧ Below w.heap.size w w' := by
  have hN := (boundV_yes hA).1 h1
  have hq : (o.op == 1) = true := by rw [h1]; rfl
  have HA := Aside0.mk hA
  clear hA h1
  unfold ocells
  go_enter Try.func3, Try.ntmps3
  go_wp2_with (first | (go_at_call 4; refine (bound_calls o ho _).mono ?_; rintro e w1 ⟨rfl, hb⟩; rw [hN]; have HB1 := Aside0.mk (below_step (below_alloc (below_alloc (Below.refl _ w) (.cells #[.int .u8 o.op, .int .u8 o.x, .int .u8 o.y, .int .u8 o.n, .int .u8 o.b, .int .u16 o.a] 25)) (.cells #[.int .u8 p.op, .int .u8 p.x, .int .u8 p.y, .int .u8 p.n, .int .u8 p.b, .int .u16 p.a] 25)) hb); have BO1 := Aside0.mk (blk_below (blk_alloc (blk_new w (.cells #[.int .u8 o.op, .int .u8 o.x, .int .u8 o.y, .int .u8 o.n, .int .u8 o.b, .int .u16 o.a] 25)) (.cells #[.int .u8 p.op, .int .u8 p.x, .int .u8 p.y, .int .u8 p.n, .int .u8 p.b, .int .u16 p.a] 25)) hb); have BP1 := Aside0.mk (blk_below (blk_new (w.alloc (.cells #[.int .u8 o.op, .int .u8 o.x, .int .u8 o.y, .int .u8 o.n, .int .u8 o.b, .int .u16 o.a] 25)) (.cells #[.int .u8 p.op, .int .u8 p.x, .int .u8 p.y, .int .u8 p.n, .int .u8 p.b, .int .u16 p.a] 25)) hb); rw [World.size_alloc] at BP1; clear hb; have z0 : w1.cell? ⟨w.heap.size, 0, none⟩ = some (.int .u8 o.op) := (blk_cell BO1.out 0).trans rfl; have z1 : w1.cell? ⟨w.heap.size, 1, none⟩ = some (.int .u8 o.x) := (blk_cell BO1.out 1).trans rfl; have z2 : w1.cell? ⟨w.heap.size, 2, none⟩ = some (.int .u8 o.y) := (blk_cell BO1.out 2).trans rfl; have z3 : w1.cell? ⟨w.heap.size, 3, none⟩ = some (.int .u8 o.n) := (blk_cell BO1.out 3).trans rfl; have z4 : w1.cell? ⟨w.heap.size, 4, none⟩ = some (.int .u8 o.b) := (blk_cell BO1.out 4).trans rfl; have z5 : w1.cell? ⟨w.heap.size, 5, none⟩ = some (.int .u16 o.a) := (blk_cell BO1.out 5).trans rfl) | (go_at_call 5; refine (ref_calls o ho _).mono ?_; rintro e w2 ⟨⟨v, c, rfl, hc⟩, hb⟩; obtain rfl := enc_yes hc HA.out; have HB2 := Aside0.mk (below_step HB1.out hb); have BO2 := Aside0.mk (blk_below BO1.out hb); have BP2 := Aside0.mk (blk_below BP1.out hb); clear z0 z1 z2 z3 z4 z5 hc hb; have z0 : w2.cell? ⟨w.heap.size, 0, none⟩ = some (.int .u8 o.op) := (blk_cell BO2.out 0).trans rfl; have z1 : w2.cell? ⟨w.heap.size, 1, none⟩ = some (.int .u8 o.x) := (blk_cell BO2.out 1).trans rfl; have z2 : w2.cell? ⟨w.heap.size, 2, none⟩ = some (.int .u8 o.y) := (blk_cell BO2.out 2).trans rfl; have z3 : w2.cell? ⟨w.heap.size, 3, none⟩ = some (.int .u8 o.n) := (blk_cell BO2.out 3).trans rfl; have z4 : w2.cell? ⟨w.heap.size, 4, none⟩ = some (.int .u8 o.b) := (blk_cell BO2.out 4).trans rfl; have z5 : w2.cell? ⟨w.heap.size, 5, none⟩ = some (.int .u16 o.a) := (blk_cell BO2.out 5).trans rfl; have f0 := blk_frozen BP2.out 0; have y0 : w2.cell? ⟨w.heap.size + 1, 0, none⟩ = some (.int .u8 p.op) := (blk_cell BP2.out 0).trans rfl; have y1 : w2.cell? ⟨w.heap.size + 1, 1, none⟩ = some (.int .u8 p.x) := (blk_cell BP2.out 1).trans rfl; have y2 : w2.cell? ⟨w.heap.size + 1, 2, none⟩ = some (.int .u8 p.y) := (blk_cell BP2.out 2).trans rfl; have y3 : w2.cell? ⟨w.heap.size + 1, 3, none⟩ = some (.int .u8 p.n) := (blk_cell BP2.out 3).trans rfl; have y4 : w2.cell? ⟨w.heap.size + 1, 4, none⟩ = some (.int .u8 p.b) := (blk_cell BP2.out 4).trans rfl; have y5 : w2.cell? ⟨w.heap.size + 1, 5, none⟩ = some (.int .u16 p.a) := (blk_cell BP2.out 5).trans rfl))
  go_ret
  exact ⟨rfl, HB2.out⟩
set_option maxRecDepth 100000 in
set_option maxHeartbeats 4000000 in
theorem law_main (o p : OD) (ho : Fits o) (hp : Fits p) (w : World) (hA : rowsD.any (encHit o) = true) (h1 : o.op ≠ 1) : Calls Try.prog 3 #[.agg (ocells o), .agg (ocells p)] w fun e w' => e = .returned (.bool true) ∧ Below w.heap.size w w' := by
  have hq : Fits ⟨o.op, p.x, p.y, p.n, p.b, p.a⟩ := ⟨ho.op, hp.x, hp.y, hp.n, hp.b, hp.a⟩
  have hb1 : (o.op == 1) = false := by rw [beq_eq_false_iff_ne]; exact h1
  obtain ⟨hN0, hN1⟩ := (boundV_yes hA).2 h1
  have hop := ho.op
  cases hany : rowsD.any (encHit ⟨o.op, p.x, p.y, p.n, p.b, p.a⟩) with
  | false =>
    have HM : Aside0 (boundV ⟨o.op, p.x, p.y, p.n, p.b, p.a⟩ = 0) := ⟨boundV_no hany⟩
    have HQ := Aside0.mk hany
    have HA := Aside0.mk hA
    clear hany hA h1
    generalize hN : boundV o = N at hN0 hN1
    have HN := Aside0.mk hN
    clear hN
    by_cases h2 : o.op = 2
    · have hb2 : (o.op == 2) = true := by rw [h2]; rfl
      rw [if_pos (.inl h2)] at hN1
      clear h2
      unfold ocells
      go_enter Try.func3, Try.ntmps3
      go_wp2_with fail
      refine (bound_calls o ho _).mono ?_; rintro e w1 ⟨rfl, hb⟩; rw [HN.out]; have HB1 := Aside0.mk (below_step (below_alloc (below_alloc (Below.refl _ w) (.cells #[.int .u8 o.op, .int .u8 o.x, .int .u8 o.y, .int .u8 o.n, .int .u8 o.b, .int .u16 o.a] 25)) (.cells #[.int .u8 p.op, .int .u8 p.x, .int .u8 p.y, .int .u8 p.n, .int .u8 p.b, .int .u16 p.a] 25)) hb); have BO1 := Aside0.mk (blk_below (blk_alloc (blk_new w (.cells #[.int .u8 o.op, .int .u8 o.x, .int .u8 o.y, .int .u8 o.n, .int .u8 o.b, .int .u16 o.a] 25)) (.cells #[.int .u8 p.op, .int .u8 p.x, .int .u8 p.y, .int .u8 p.n, .int .u8 p.b, .int .u16 p.a] 25)) hb); have BP1 := Aside0.mk (blk_below (blk_new (w.alloc (.cells #[.int .u8 o.op, .int .u8 o.x, .int .u8 o.y, .int .u8 o.n, .int .u8 o.b, .int .u16 o.a] 25)) (.cells #[.int .u8 p.op, .int .u8 p.x, .int .u8 p.y, .int .u8 p.n, .int .u8 p.b, .int .u16 p.a] 25)) hb); rw [World.size_alloc] at BP1; clear hb; have z0 : w1.cell? ⟨w.heap.size, 0, none⟩ = some (.int .u8 o.op) := (blk_cell BO1.out 0).trans rfl; have z1 : w1.cell? ⟨w.heap.size, 1, none⟩ = some (.int .u8 o.x) := (blk_cell BO1.out 1).trans rfl; have z2 : w1.cell? ⟨w.heap.size, 2, none⟩ = some (.int .u8 o.y) := (blk_cell BO1.out 2).trans rfl; have z3 : w1.cell? ⟨w.heap.size, 3, none⟩ = some (.int .u8 o.n) := (blk_cell BO1.out 3).trans rfl; have z4 : w1.cell? ⟨w.heap.size, 4, none⟩ = some (.int .u8 o.b) := (blk_cell BO1.out 4).trans rfl; have z5 : w1.cell? ⟨w.heap.size, 5, none⟩ = some (.int .u16 o.a) := (blk_cell BO1.out 5).trans rfl
      go_wp2_with fail
      refine (ref_calls o ho _).mono ?_; rintro e w2 ⟨⟨v, c, rfl, hc⟩, hb⟩; obtain rfl := enc_yes hc HA.out; have HB2 := Aside0.mk (below_step HB1.out hb); have BO2 := Aside0.mk (blk_below BO1.out hb); have BP2 := Aside0.mk (blk_below BP1.out hb); clear z0 z1 z2 z3 z4 z5 hc hb; have z0 : w2.cell? ⟨w.heap.size, 0, none⟩ = some (.int .u8 o.op) := (blk_cell BO2.out 0).trans rfl; have z1 : w2.cell? ⟨w.heap.size, 1, none⟩ = some (.int .u8 o.x) := (blk_cell BO2.out 1).trans rfl; have z2 : w2.cell? ⟨w.heap.size, 2, none⟩ = some (.int .u8 o.y) := (blk_cell BO2.out 2).trans rfl; have z3 : w2.cell? ⟨w.heap.size, 3, none⟩ = some (.int .u8 o.n) := (blk_cell BO2.out 3).trans rfl; have z4 : w2.cell? ⟨w.heap.size, 4, none⟩ = some (.int .u8 o.b) := (blk_cell BO2.out 4).trans rfl; have z5 : w2.cell? ⟨w.heap.size, 5, none⟩ = some (.int .u16 o.a) := (blk_cell BO2.out 5).trans rfl; have f0 := blk_frozen BP2.out 0; have y0 : w2.cell? ⟨w.heap.size + 1, 0, none⟩ = some (.int .u8 p.op) := (blk_cell BP2.out 0).trans rfl; have y1 : w2.cell? ⟨w.heap.size + 1, 1, none⟩ = some (.int .u8 p.x) := (blk_cell BP2.out 1).trans rfl; have y2 : w2.cell? ⟨w.heap.size + 1, 2, none⟩ = some (.int .u8 p.y) := (blk_cell BP2.out 2).trans rfl; have y3 : w2.cell? ⟨w.heap.size + 1, 3, none⟩ = some (.int .u8 p.n) := (blk_cell BP2.out 3).trans rfl; have y4 : w2.cell? ⟨w.heap.size + 1, 4, none⟩ = some (.int .u8 p.b) := (blk_cell BP2.out 4).trans rfl; have y5 : w2.cell? ⟨w.heap.size + 1, 5, none⟩ = some (.int .u16 p.a) := (blk_cell BP2.out 5).trans rfl
      go_wp2_with fail
      refine (ref_calls ⟨o.op, p.x, p.y, p.n, p.b, p.a⟩ hq _).mono ?_; rintro e w3 ⟨⟨v2, c2, rfl, hc⟩, hb⟩; obtain rfl := enc_no hc HQ.out; have HB3 := Aside0.mk (below_step (below_set HB2.out (Nat.le_succ _)) hb); have BP3 := Aside0.mk (blk_below (blk_set BP2.out 0 (.int .u8 o.op)) hb); clear y0 y1 y2 y3 y4 y5 z0 z1 z2 z3 z4 z5 f0 hc hb; have x0 : w3.cell? ⟨w.heap.size + 1, 0, none⟩ = some (.int .u8 o.op) := (blk_cell BP3.out 0).trans rfl; have x1 : w3.cell? ⟨w.heap.size + 1, 1, none⟩ = some (.int .u8 p.x) := (blk_cell BP3.out 1).trans rfl; have x2 : w3.cell? ⟨w.heap.size + 1, 2, none⟩ = some (.int .u8 p.y) := (blk_cell BP3.out 2).trans rfl; have x3 : w3.cell? ⟨w.heap.size + 1, 3, none⟩ = some (.int .u8 p.n) := (blk_cell BP3.out 3).trans rfl; have x4 : w3.cell? ⟨w.heap.size + 1, 4, none⟩ = some (.int .u8 p.b) := (blk_cell BP3.out 4).trans rfl; have x5 : w3.cell? ⟨w.heap.size + 1, 5, none⟩ = some (.int .u16 p.a) := (blk_cell BP3.out 5).trans rfl
      go_wp2_with fail
      refine (bound_calls ⟨o.op, p.x, p.y, p.n, p.b, p.a⟩ hq _).mono ?_; rintro e w4 ⟨rfl, hb⟩; rw [HM.out]; have HB4 := Aside0.mk (below_step HB3.out hb); clear hb
      go_wp2
      go_ret
      exact ⟨rfl, HB4.out⟩
    · have hb2 : (o.op == 2) = false := by rw [beq_eq_false_iff_ne]; exact h2
      by_cases h3 : o.op = 20
      · have hb3 : (o.op == 20) = true := by rw [h3]; rfl
        rw [if_pos (.inr h3)] at hN1
        clear h2 h3
        unfold ocells
        go_enter Try.func3, Try.ntmps3
        go_wp2_with fail
        refine (bound_calls o ho _).mono ?_; rintro e w1 ⟨rfl, hb⟩; rw [HN.out]; have HB1 := Aside0.mk (below_step (below_alloc (below_alloc (Below.refl _ w) (.cells #[.int .u8 o.op, .int .u8 o.x, .int .u8 o.y, .int .u8 o.n, .int .u8 o.b, .int .u16 o.a] 25)) (.cells #[.int .u8 p.op, .int .u8 p.x, .int .u8 p.y, .int .u8 p.n, .int .u8 p.b, .int .u16 p.a] 25)) hb); have BO1 := Aside0.mk (blk_below (blk_alloc (blk_new w (.cells #[.int .u8 o.op, .int .u8 o.x, .int .u8 o.y, .int .u8 o.n, .int .u8 o.b, .int .u16 o.a] 25)) (.cells #[.int .u8 p.op, .int .u8 p.x, .int .u8 p.y, .int .u8 p.n, .int .u8 p.b, .int .u16 p.a] 25)) hb); have BP1 := Aside0.mk (blk_below (blk_new (w.alloc (.cells #[.int .u8 o.op, .int .u8 o.x, .int .u8 o.y, .int .u8 o.n, .int .u8 o.b, .int .u16 o.a] 25)) (.cells #[.int .u8 p.op, .int .u8 p.x, .int .u8 p.y, .int .u8 p.n, .int .u8 p.b, .int .u16 p.a] 25)) hb); rw [World.size_alloc] at BP1; clear hb; have z0 : w1.cell? ⟨w.heap.size, 0, none⟩ = some (.int .u8 o.op) := (blk_cell BO1.out 0).trans rfl; have z1 : w1.cell? ⟨w.heap.size, 1, none⟩ = some (.int .u8 o.x) := (blk_cell BO1.out 1).trans rfl; have z2 : w1.cell? ⟨w.heap.size, 2, none⟩ = some (.int .u8 o.y) := (blk_cell BO1.out 2).trans rfl; have z3 : w1.cell? ⟨w.heap.size, 3, none⟩ = some (.int .u8 o.n) := (blk_cell BO1.out 3).trans rfl; have z4 : w1.cell? ⟨w.heap.size, 4, none⟩ = some (.int .u8 o.b) := (blk_cell BO1.out 4).trans rfl; have z5 : w1.cell? ⟨w.heap.size, 5, none⟩ = some (.int .u16 o.a) := (blk_cell BO1.out 5).trans rfl
        go_wp2_with fail
        refine (ref_calls o ho _).mono ?_; rintro e w2 ⟨⟨v, c, rfl, hc⟩, hb⟩; obtain rfl := enc_yes hc HA.out; have HB2 := Aside0.mk (below_step HB1.out hb); have BO2 := Aside0.mk (blk_below BO1.out hb); have BP2 := Aside0.mk (blk_below BP1.out hb); clear z0 z1 z2 z3 z4 z5 hc hb; have z0 : w2.cell? ⟨w.heap.size, 0, none⟩ = some (.int .u8 o.op) := (blk_cell BO2.out 0).trans rfl; have z1 : w2.cell? ⟨w.heap.size, 1, none⟩ = some (.int .u8 o.x) := (blk_cell BO2.out 1).trans rfl; have z2 : w2.cell? ⟨w.heap.size, 2, none⟩ = some (.int .u8 o.y) := (blk_cell BO2.out 2).trans rfl; have z3 : w2.cell? ⟨w.heap.size, 3, none⟩ = some (.int .u8 o.n) := (blk_cell BO2.out 3).trans rfl; have z4 : w2.cell? ⟨w.heap.size, 4, none⟩ = some (.int .u8 o.b) := (blk_cell BO2.out 4).trans rfl; have z5 : w2.cell? ⟨w.heap.size, 5, none⟩ = some (.int .u16 o.a) := (blk_cell BO2.out 5).trans rfl; have f0 := blk_frozen BP2.out 0; have y0 : w2.cell? ⟨w.heap.size + 1, 0, none⟩ = some (.int .u8 p.op) := (blk_cell BP2.out 0).trans rfl; have y1 : w2.cell? ⟨w.heap.size + 1, 1, none⟩ = some (.int .u8 p.x) := (blk_cell BP2.out 1).trans rfl; have y2 : w2.cell? ⟨w.heap.size + 1, 2, none⟩ = some (.int .u8 p.y) := (blk_cell BP2.out 2).trans rfl; have y3 : w2.cell? ⟨w.heap.size + 1, 3, none⟩ = some (.int .u8 p.n) := (blk_cell BP2.out 3).trans rfl; have y4 : w2.cell? ⟨w.heap.size + 1, 4, none⟩ = some (.int .u8 p.b) := (blk_cell BP2.out 4).trans rfl; have y5 : w2.cell? ⟨w.heap.size + 1, 5, none⟩ = some (.int .u16 p.a) := (blk_cell BP2.out 5).trans rfl
        go_wp2_with fail
        refine (ref_calls ⟨o.op, p.x, p.y, p.n, p.b, p.a⟩ hq _).mono ?_; rintro e w3 ⟨⟨v2, c2, rfl, hc⟩, hb⟩; obtain rfl := enc_no hc HQ.out; have HB3 := Aside0.mk (below_step (below_set HB2.out (Nat.le_succ _)) hb); have BP3 := Aside0.mk (blk_below (blk_set BP2.out 0 (.int .u8 o.op)) hb); clear y0 y1 y2 y3 y4 y5 z0 z1 z2 z3 z4 z5 f0 hc hb; have x0 : w3.cell? ⟨w.heap.size + 1, 0, none⟩ = some (.int .u8 o.op) := (blk_cell BP3.out 0).trans rfl; have x1 : w3.cell? ⟨w.heap.size + 1, 1, none⟩ = some (.int .u8 p.x) := (blk_cell BP3.out 1).trans rfl; have x2 : w3.cell? ⟨w.heap.size + 1, 2, none⟩ = some (.int .u8 p.y) := (blk_cell BP3.out 2).trans rfl; have x3 : w3.cell? ⟨w.heap.size + 1, 3, none⟩ = some (.int .u8 p.n) := (blk_cell BP3.out 3).trans rfl; have x4 : w3.cell? ⟨w.heap.size + 1, 4, none⟩ = some (.int .u8 p.b) := (blk_cell BP3.out 4).trans rfl; have x5 : w3.cell? ⟨w.heap.size + 1, 5, none⟩ = some (.int .u16 p.a) := (blk_cell BP3.out 5).trans rfl
        go_wp2_with fail
        refine (bound_calls ⟨o.op, p.x, p.y, p.n, p.b, p.a⟩ hq _).mono ?_; rintro e w4 ⟨rfl, hb⟩; rw [HM.out]; have HB4 := Aside0.mk (below_step HB3.out hb); clear hb
        go_wp2
        go_ret
        exact ⟨rfl, HB4.out⟩
      · have hb3 : (o.op == 20) = false := by rw [beq_eq_false_iff_ne]; exact h3
        rw [if_neg (fun h => h.elim h2 h3)] at hN1
        clear h2 h3
        unfold ocells
        go_enter Try.func3, Try.ntmps3
        go_wp2_with fail
        refine (bound_calls o ho _).mono ?_; rintro e w1 ⟨rfl, hb⟩; rw [HN.out]; have HB1 := Aside0.mk (below_step (below_alloc (below_alloc (Below.refl _ w) (.cells #[.int .u8 o.op, .int .u8 o.x, .int .u8 o.y, .int .u8 o.n, .int .u8 o.b, .int .u16 o.a] 25)) (.cells #[.int .u8 p.op, .int .u8 p.x, .int .u8 p.y, .int .u8 p.n, .int .u8 p.b, .int .u16 p.a] 25)) hb); have BO1 := Aside0.mk (blk_below (blk_alloc (blk_new w (.cells #[.int .u8 o.op, .int .u8 o.x, .int .u8 o.y, .int .u8 o.n, .int .u8 o.b, .int .u16 o.a] 25)) (.cells #[.int .u8 p.op, .int .u8 p.x, .int .u8 p.y, .int .u8 p.n, .int .u8 p.b, .int .u16 p.a] 25)) hb); have BP1 := Aside0.mk (blk_below (blk_new (w.alloc (.cells #[.int .u8 o.op, .int .u8 o.x, .int .u8 o.y, .int .u8 o.n, .int .u8 o.b, .int .u16 o.a] 25)) (.cells #[.int .u8 p.op, .int .u8 p.x, .int .u8 p.y, .int .u8 p.n, .int .u8 p.b, .int .u16 p.a] 25)) hb); rw [World.size_alloc] at BP1; clear hb; have z0 : w1.cell? ⟨w.heap.size, 0, none⟩ = some (.int .u8 o.op) := (blk_cell BO1.out 0).trans rfl; have z1 : w1.cell? ⟨w.heap.size, 1, none⟩ = some (.int .u8 o.x) := (blk_cell BO1.out 1).trans rfl; have z2 : w1.cell? ⟨w.heap.size, 2, none⟩ = some (.int .u8 o.y) := (blk_cell BO1.out 2).trans rfl; have z3 : w1.cell? ⟨w.heap.size, 3, none⟩ = some (.int .u8 o.n) := (blk_cell BO1.out 3).trans rfl; have z4 : w1.cell? ⟨w.heap.size, 4, none⟩ = some (.int .u8 o.b) := (blk_cell BO1.out 4).trans rfl; have z5 : w1.cell? ⟨w.heap.size, 5, none⟩ = some (.int .u16 o.a) := (blk_cell BO1.out 5).trans rfl
        go_wp2_with fail
        refine (ref_calls o ho _).mono ?_; rintro e w2 ⟨⟨v, c, rfl, hc⟩, hb⟩; obtain rfl := enc_yes hc HA.out; have HB2 := Aside0.mk (below_step HB1.out hb); have BO2 := Aside0.mk (blk_below BO1.out hb); have BP2 := Aside0.mk (blk_below BP1.out hb); clear z0 z1 z2 z3 z4 z5 hc hb; have z0 : w2.cell? ⟨w.heap.size, 0, none⟩ = some (.int .u8 o.op) := (blk_cell BO2.out 0).trans rfl; have z1 : w2.cell? ⟨w.heap.size, 1, none⟩ = some (.int .u8 o.x) := (blk_cell BO2.out 1).trans rfl; have z2 : w2.cell? ⟨w.heap.size, 2, none⟩ = some (.int .u8 o.y) := (blk_cell BO2.out 2).trans rfl; have z3 : w2.cell? ⟨w.heap.size, 3, none⟩ = some (.int .u8 o.n) := (blk_cell BO2.out 3).trans rfl; have z4 : w2.cell? ⟨w.heap.size, 4, none⟩ = some (.int .u8 o.b) := (blk_cell BO2.out 4).trans rfl; have z5 : w2.cell? ⟨w.heap.size, 5, none⟩ = some (.int .u16 o.a) := (blk_cell BO2.out 5).trans rfl; have f0 := blk_frozen BP2.out 0; have y0 : w2.cell? ⟨w.heap.size + 1, 0, none⟩ = some (.int .u8 p.op) := (blk_cell BP2.out 0).trans rfl; have y1 : w2.cell? ⟨w.heap.size + 1, 1, none⟩ = some (.int .u8 p.x) := (blk_cell BP2.out 1).trans rfl; have y2 : w2.cell? ⟨w.heap.size + 1, 2, none⟩ = some (.int .u8 p.y) := (blk_cell BP2.out 2).trans rfl; have y3 : w2.cell? ⟨w.heap.size + 1, 3, none⟩ = some (.int .u8 p.n) := (blk_cell BP2.out 3).trans rfl; have y4 : w2.cell? ⟨w.heap.size + 1, 4, none⟩ = some (.int .u8 p.b) := (blk_cell BP2.out 4).trans rfl; have y5 : w2.cell? ⟨w.heap.size + 1, 5, none⟩ = some (.int .u16 p.a) := (blk_cell BP2.out 5).trans rfl
        go_wp2_with fail
        refine (ref_calls ⟨o.op, p.x, p.y, p.n, p.b, p.a⟩ hq _).mono ?_; rintro e w3 ⟨⟨v2, c2, rfl, hc⟩, hb⟩; obtain rfl := enc_no hc HQ.out; have HB3 := Aside0.mk (below_step (below_set HB2.out (Nat.le_succ _)) hb); have BP3 := Aside0.mk (blk_below (blk_set BP2.out 0 (.int .u8 o.op)) hb); clear y0 y1 y2 y3 y4 y5 z0 z1 z2 z3 z4 z5 f0 hc hb; have x0 : w3.cell? ⟨w.heap.size + 1, 0, none⟩ = some (.int .u8 o.op) := (blk_cell BP3.out 0).trans rfl; have x1 : w3.cell? ⟨w.heap.size + 1, 1, none⟩ = some (.int .u8 p.x) := (blk_cell BP3.out 1).trans rfl; have x2 : w3.cell? ⟨w.heap.size + 1, 2, none⟩ = some (.int .u8 p.y) := (blk_cell BP3.out 2).trans rfl; have x3 : w3.cell? ⟨w.heap.size + 1, 3, none⟩ = some (.int .u8 p.n) := (blk_cell BP3.out 3).trans rfl; have x4 : w3.cell? ⟨w.heap.size + 1, 4, none⟩ = some (.int .u8 p.b) := (blk_cell BP3.out 4).trans rfl; have x5 : w3.cell? ⟨w.heap.size + 1, 5, none⟩ = some (.int .u16 p.a) := (blk_cell BP3.out 5).trans rfl
        go_wp2_with fail
        refine (bound_calls ⟨o.op, p.x, p.y, p.n, p.b, p.a⟩ hq _).mono ?_; rintro e w4 ⟨rfl, hb⟩; rw [HM.out]; have HB4 := Aside0.mk (below_step HB3.out hb); clear hb
        go_wp2
        go_ret
        exact ⟨rfl, HB4.out⟩
  | true =>
    have HM : Aside0 (boundV ⟨o.op, p.x, p.y, p.n, p.b, p.a⟩ = boundV o) := ⟨by unfold boundV; rw [hany, hA]⟩
    have HQ := Aside0.mk hany
    have HA := Aside0.mk hA
    clear hany hA h1
    generalize hN : boundV o = N at hN0 hN1 HM
    have HN := Aside0.mk hN
    clear hN
    by_cases h2 : o.op = 2
    · have hb2 : (o.op == 2) = true := by rw [h2]; rfl
      rw [if_pos (.inl h2)] at hN1
      clear h2
      unfold ocells
      go_enter Try.func3, Try.ntmps3
      go_wp2_with fail
      refine (bound_calls o ho _).mono ?_; rintro e w1 ⟨rfl, hb⟩; rw [HN.out]; have HB1 := Aside0.mk (below_step (below_alloc (below_alloc (Below.refl _ w) (.cells #[.int .u8 o.op, .int .u8 o.x, .int .u8 o.y, .int .u8 o.n, .int .u8 o.b, .int .u16 o.a] 25)) (.cells #[.int .u8 p.op, .int .u8 p.x, .int .u8 p.y, .int .u8 p.n, .int .u8 p.b, .int .u16 p.a] 25)) hb); have BO1 := Aside0.mk (blk_below (blk_alloc (blk_new w (.cells #[.int .u8 o.op, .int .u8 o.x, .int .u8 o.y, .int .u8 o.n, .int .u8 o.b, .int .u16 o.a] 25)) (.cells #[.int .u8 p.op, .int .u8 p.x, .int .u8 p.y, .int .u8 p.n, .int .u8 p.b, .int .u16 p.a] 25)) hb); have BP1 := Aside0.mk (blk_below (blk_new (w.alloc (.cells #[.int .u8 o.op, .int .u8 o.x, .int .u8 o.y, .int .u8 o.n, .int .u8 o.b, .int .u16 o.a] 25)) (.cells #[.int .u8 p.op, .int .u8 p.x, .int .u8 p.y, .int .u8 p.n, .int .u8 p.b, .int .u16 p.a] 25)) hb); rw [World.size_alloc] at BP1; clear hb; have z0 : w1.cell? ⟨w.heap.size, 0, none⟩ = some (.int .u8 o.op) := (blk_cell BO1.out 0).trans rfl; have z1 : w1.cell? ⟨w.heap.size, 1, none⟩ = some (.int .u8 o.x) := (blk_cell BO1.out 1).trans rfl; have z2 : w1.cell? ⟨w.heap.size, 2, none⟩ = some (.int .u8 o.y) := (blk_cell BO1.out 2).trans rfl; have z3 : w1.cell? ⟨w.heap.size, 3, none⟩ = some (.int .u8 o.n) := (blk_cell BO1.out 3).trans rfl; have z4 : w1.cell? ⟨w.heap.size, 4, none⟩ = some (.int .u8 o.b) := (blk_cell BO1.out 4).trans rfl; have z5 : w1.cell? ⟨w.heap.size, 5, none⟩ = some (.int .u16 o.a) := (blk_cell BO1.out 5).trans rfl
      go_wp2_with fail
      refine (ref_calls o ho _).mono ?_; rintro e w2 ⟨⟨v, c, rfl, hc⟩, hb⟩; obtain rfl := enc_yes hc HA.out; have HB2 := Aside0.mk (below_step HB1.out hb); have BO2 := Aside0.mk (blk_below BO1.out hb); have BP2 := Aside0.mk (blk_below BP1.out hb); clear z0 z1 z2 z3 z4 z5 hc hb; have z0 : w2.cell? ⟨w.heap.size, 0, none⟩ = some (.int .u8 o.op) := (blk_cell BO2.out 0).trans rfl; have z1 : w2.cell? ⟨w.heap.size, 1, none⟩ = some (.int .u8 o.x) := (blk_cell BO2.out 1).trans rfl; have z2 : w2.cell? ⟨w.heap.size, 2, none⟩ = some (.int .u8 o.y) := (blk_cell BO2.out 2).trans rfl; have z3 : w2.cell? ⟨w.heap.size, 3, none⟩ = some (.int .u8 o.n) := (blk_cell BO2.out 3).trans rfl; have z4 : w2.cell? ⟨w.heap.size, 4, none⟩ = some (.int .u8 o.b) := (blk_cell BO2.out 4).trans rfl; have z5 : w2.cell? ⟨w.heap.size, 5, none⟩ = some (.int .u16 o.a) := (blk_cell BO2.out 5).trans rfl; have f0 := blk_frozen BP2.out 0; have y0 : w2.cell? ⟨w.heap.size + 1, 0, none⟩ = some (.int .u8 p.op) := (blk_cell BP2.out 0).trans rfl; have y1 : w2.cell? ⟨w.heap.size + 1, 1, none⟩ = some (.int .u8 p.x) := (blk_cell BP2.out 1).trans rfl; have y2 : w2.cell? ⟨w.heap.size + 1, 2, none⟩ = some (.int .u8 p.y) := (blk_cell BP2.out 2).trans rfl; have y3 : w2.cell? ⟨w.heap.size + 1, 3, none⟩ = some (.int .u8 p.n) := (blk_cell BP2.out 3).trans rfl; have y4 : w2.cell? ⟨w.heap.size + 1, 4, none⟩ = some (.int .u8 p.b) := (blk_cell BP2.out 4).trans rfl; have y5 : w2.cell? ⟨w.heap.size + 1, 5, none⟩ = some (.int .u16 p.a) := (blk_cell BP2.out 5).trans rfl
      go_wp2_with fail
      refine (ref_calls ⟨o.op, p.x, p.y, p.n, p.b, p.a⟩ hq _).mono ?_; rintro e w3 ⟨⟨v2, c2, rfl, hc⟩, hb⟩; obtain rfl := enc_yes hc HQ.out; have HB3 := Aside0.mk (below_step (below_set HB2.out (Nat.le_succ _)) hb); have BP3 := Aside0.mk (blk_below (blk_set BP2.out 0 (.int .u8 o.op)) hb); clear y0 y1 y2 y3 y4 y5 z0 z1 z2 z3 z4 z5 f0 hc hb; have x0 : w3.cell? ⟨w.heap.size + 1, 0, none⟩ = some (.int .u8 o.op) := (blk_cell BP3.out 0).trans rfl; have x1 : w3.cell? ⟨w.heap.size + 1, 1, none⟩ = some (.int .u8 p.x) := (blk_cell BP3.out 1).trans rfl; have x2 : w3.cell? ⟨w.heap.size + 1, 2, none⟩ = some (.int .u8 p.y) := (blk_cell BP3.out 2).trans rfl; have x3 : w3.cell? ⟨w.heap.size + 1, 3, none⟩ = some (.int .u8 p.n) := (blk_cell BP3.out 3).trans rfl; have x4 : w3.cell? ⟨w.heap.size + 1, 4, none⟩ = some (.int .u8 p.b) := (blk_cell BP3.out 4).trans rfl; have x5 : w3.cell? ⟨w.heap.size + 1, 5, none⟩ = some (.int .u16 p.a) := (blk_cell BP3.out 5).trans rfl
      go_wp2_with fail
      refine (bound_calls ⟨o.op, p.x, p.y, p.n, p.b, p.a⟩ hq _).mono ?_; rintro e w4 ⟨rfl, hb⟩; rw [HM.out]; have HB4 := Aside0.mk (below_step HB3.out hb); clear hb
      go_wp2
      go_ret
      exact ⟨rfl, HB4.out⟩
    · have hb2 : (o.op == 2) = false := by rw [beq_eq_false_iff_ne]; exact h2
      by_cases h3 : o.op = 20
      · have hb3 : (o.op == 20) = true := by rw [h3]; rfl
        rw [if_pos (.inr h3)] at hN1
        clear h2 h3
        unfold ocells
        go_enter Try.func3, Try.ntmps3
        go_wp2_with fail
        refine (bound_calls o ho _).mono ?_; rintro e w1 ⟨rfl, hb⟩; rw [HN.out]; have HB1 := Aside0.mk (below_step (below_alloc (below_alloc (Below.refl _ w) (.cells #[.int .u8 o.op, .int .u8 o.x, .int .u8 o.y, .int .u8 o.n, .int .u8 o.b, .int .u16 o.a] 25)) (.cells #[.int .u8 p.op, .int .u8 p.x, .int .u8 p.y, .int .u8 p.n, .int .u8 p.b, .int .u16 p.a] 25)) hb); have BO1 := Aside0.mk (blk_below (blk_alloc (blk_new w (.cells #[.int .u8 o.op, .int .u8 o.x, .int .u8 o.y, .int .u8 o.n, .int .u8 o.b, .int .u16 o.a] 25)) (.cells #[.int .u8 p.op, .int .u8 p.x, .int .u8 p.y, .int .u8 p.n, .int .u8 p.b, .int .u16 p.a] 25)) hb); have BP1 := Aside0.mk (blk_below (blk_new (w.alloc (.cells #[.int .u8 o.op, .int .u8 o.x, .int .u8 o.y, .int .u8 o.n, .int .u8 o.b, .int .u16 o.a] 25)) (.cells #[.int .u8 p.op, .int .u8 p.x, .int .u8 p.y, .int .u8 p.n, .int .u8 p.b, .int .u16 p.a] 25)) hb); rw [World.size_alloc] at BP1; clear hb; have z0 : w1.cell? ⟨w.heap.size, 0, none⟩ = some (.int .u8 o.op) := (blk_cell BO1.out 0).trans rfl; have z1 : w1.cell? ⟨w.heap.size, 1, none⟩ = some (.int .u8 o.x) := (blk_cell BO1.out 1).trans rfl; have z2 : w1.cell? ⟨w.heap.size, 2, none⟩ = some (.int .u8 o.y) := (blk_cell BO1.out 2).trans rfl; have z3 : w1.cell? ⟨w.heap.size, 3, none⟩ = some (.int .u8 o.n) := (blk_cell BO1.out 3).trans rfl; have z4 : w1.cell? ⟨w.heap.size, 4, none⟩ = some (.int .u8 o.b) := (blk_cell BO1.out 4).trans rfl; have z5 : w1.cell? ⟨w.heap.size, 5, none⟩ = some (.int .u16 o.a) := (blk_cell BO1.out 5).trans rfl
        go_wp2_with fail
        refine (ref_calls o ho _).mono ?_; rintro e w2 ⟨⟨v, c, rfl, hc⟩, hb⟩; obtain rfl := enc_yes hc HA.out; have HB2 := Aside0.mk (below_step HB1.out hb); have BO2 := Aside0.mk (blk_below BO1.out hb); have BP2 := Aside0.mk (blk_below BP1.out hb); clear z0 z1 z2 z3 z4 z5 hc hb; have z0 : w2.cell? ⟨w.heap.size, 0, none⟩ = some (.int .u8 o.op) := (blk_cell BO2.out 0).trans rfl; have z1 : w2.cell? ⟨w.heap.size, 1, none⟩ = some (.int .u8 o.x) := (blk_cell BO2.out 1).trans rfl; have z2 : w2.cell? ⟨w.heap.size, 2, none⟩ = some (.int .u8 o.y) := (blk_cell BO2.out 2).trans rfl; have z3 : w2.cell? ⟨w.heap.size, 3, none⟩ = some (.int .u8 o.n) := (blk_cell BO2.out 3).trans rfl; have z4 : w2.cell? ⟨w.heap.size, 4, none⟩ = some (.int .u8 o.b) := (blk_cell BO2.out 4).trans rfl; have z5 : w2.cell? ⟨w.heap.size, 5, none⟩ = some (.int .u16 o.a) := (blk_cell BO2.out 5).trans rfl; have f0 := blk_frozen BP2.out 0; have y0 : w2.cell? ⟨w.heap.size + 1, 0, none⟩ = some (.int .u8 p.op) := (blk_cell BP2.out 0).trans rfl; have y1 : w2.cell? ⟨w.heap.size + 1, 1, none⟩ = some (.int .u8 p.x) := (blk_cell BP2.out 1).trans rfl; have y2 : w2.cell? ⟨w.heap.size + 1, 2, none⟩ = some (.int .u8 p.y) := (blk_cell BP2.out 2).trans rfl; have y3 : w2.cell? ⟨w.heap.size + 1, 3, none⟩ = some (.int .u8 p.n) := (blk_cell BP2.out 3).trans rfl; have y4 : w2.cell? ⟨w.heap.size + 1, 4, none⟩ = some (.int .u8 p.b) := (blk_cell BP2.out 4).trans rfl; have y5 : w2.cell? ⟨w.heap.size + 1, 5, none⟩ = some (.int .u16 p.a) := (blk_cell BP2.out 5).trans rfl
        go_wp2_with fail
        refine (ref_calls ⟨o.op, p.x, p.y, p.n, p.b, p.a⟩ hq _).mono ?_; rintro e w3 ⟨⟨v2, c2, rfl, hc⟩, hb⟩; obtain rfl := enc_yes hc HQ.out; have HB3 := Aside0.mk (below_step (below_set HB2.out (Nat.le_succ _)) hb); have BP3 := Aside0.mk (blk_below (blk_set BP2.out 0 (.int .u8 o.op)) hb); clear y0 y1 y2 y3 y4 y5 z0 z1 z2 z3 z4 z5 f0 hc hb; have x0 : w3.cell? ⟨w.heap.size + 1, 0, none⟩ = some (.int .u8 o.op) := (blk_cell BP3.out 0).trans rfl; have x1 : w3.cell? ⟨w.heap.size + 1, 1, none⟩ = some (.int .u8 p.x) := (blk_cell BP3.out 1).trans rfl; have x2 : w3.cell? ⟨w.heap.size + 1, 2, none⟩ = some (.int .u8 p.y) := (blk_cell BP3.out 2).trans rfl; have x3 : w3.cell? ⟨w.heap.size + 1, 3, none⟩ = some (.int .u8 p.n) := (blk_cell BP3.out 3).trans rfl; have x4 : w3.cell? ⟨w.heap.size + 1, 4, none⟩ = some (.int .u8 p.b) := (blk_cell BP3.out 4).trans rfl; have x5 : w3.cell? ⟨w.heap.size + 1, 5, none⟩ = some (.int .u16 p.a) := (blk_cell BP3.out 5).trans rfl
        go_wp2_with fail
        refine (bound_calls ⟨o.op, p.x, p.y, p.n, p.b, p.a⟩ hq _).mono ?_; rintro e w4 ⟨rfl, hb⟩; rw [HM.out]; have HB4 := Aside0.mk (below_step HB3.out hb); clear hb
        go_wp2
        go_ret
        exact ⟨rfl, HB4.out⟩
      · have hb3 : (o.op == 20) = false := by rw [beq_eq_false_iff_ne]; exact h3
        rw [if_neg (fun h => h.elim h2 h3)] at hN1
        clear h2 h3
        unfold ocells
        go_enter Try.func3, Try.ntmps3
        go_wp2_with fail
        refine (bound_calls o ho _).mono ?_; rintro e w1 ⟨rfl, hb⟩; rw [HN.out]; have HB1 := Aside0.mk (below_step (below_alloc (below_alloc (Below.refl _ w) (.cells #[.int .u8 o.op, .int .u8 o.x, .int .u8 o.y, .int .u8 o.n, .int .u8 o.b, .int .u16 o.a] 25)) (.cells #[.int .u8 p.op, .int .u8 p.x, .int .u8 p.y, .int .u8 p.n, .int .u8 p.b, .int .u16 p.a] 25)) hb); have BO1 := Aside0.mk (blk_below (blk_alloc (blk_new w (.cells #[.int .u8 o.op, .int .u8 o.x, .int .u8 o.y, .int .u8 o.n, .int .u8 o.b, .int .u16 o.a] 25)) (.cells #[.int .u8 p.op, .int .u8 p.x, .int .u8 p.y, .int .u8 p.n, .int .u8 p.b, .int .u16 p.a] 25)) hb); have BP1 := Aside0.mk (blk_below (blk_new (w.alloc (.cells #[.int .u8 o.op, .int .u8 o.x, .int .u8 o.y, .int .u8 o.n, .int .u8 o.b, .int .u16 o.a] 25)) (.cells #[.int .u8 p.op, .int .u8 p.x, .int .u8 p.y, .int .u8 p.n, .int .u8 p.b, .int .u16 p.a] 25)) hb); rw [World.size_alloc] at BP1; clear hb; have z0 : w1.cell? ⟨w.heap.size, 0, none⟩ = some (.int .u8 o.op) := (blk_cell BO1.out 0).trans rfl; have z1 : w1.cell? ⟨w.heap.size, 1, none⟩ = some (.int .u8 o.x) := (blk_cell BO1.out 1).trans rfl; have z2 : w1.cell? ⟨w.heap.size, 2, none⟩ = some (.int .u8 o.y) := (blk_cell BO1.out 2).trans rfl; have z3 : w1.cell? ⟨w.heap.size, 3, none⟩ = some (.int .u8 o.n) := (blk_cell BO1.out 3).trans rfl; have z4 : w1.cell? ⟨w.heap.size, 4, none⟩ = some (.int .u8 o.b) := (blk_cell BO1.out 4).trans rfl; have z5 : w1.cell? ⟨w.heap.size, 5, none⟩ = some (.int .u16 o.a) := (blk_cell BO1.out 5).trans rfl
        go_wp2_with fail
        refine (ref_calls o ho _).mono ?_; rintro e w2 ⟨⟨v, c, rfl, hc⟩, hb⟩; obtain rfl := enc_yes hc HA.out; have HB2 := Aside0.mk (below_step HB1.out hb); have BO2 := Aside0.mk (blk_below BO1.out hb); have BP2 := Aside0.mk (blk_below BP1.out hb); clear z0 z1 z2 z3 z4 z5 hc hb; have z0 : w2.cell? ⟨w.heap.size, 0, none⟩ = some (.int .u8 o.op) := (blk_cell BO2.out 0).trans rfl; have z1 : w2.cell? ⟨w.heap.size, 1, none⟩ = some (.int .u8 o.x) := (blk_cell BO2.out 1).trans rfl; have z2 : w2.cell? ⟨w.heap.size, 2, none⟩ = some (.int .u8 o.y) := (blk_cell BO2.out 2).trans rfl; have z3 : w2.cell? ⟨w.heap.size, 3, none⟩ = some (.int .u8 o.n) := (blk_cell BO2.out 3).trans rfl; have z4 : w2.cell? ⟨w.heap.size, 4, none⟩ = some (.int .u8 o.b) := (blk_cell BO2.out 4).trans rfl; have z5 : w2.cell? ⟨w.heap.size, 5, none⟩ = some (.int .u16 o.a) := (blk_cell BO2.out 5).trans rfl; have f0 := blk_frozen BP2.out 0; have y0 : w2.cell? ⟨w.heap.size + 1, 0, none⟩ = some (.int .u8 p.op) := (blk_cell BP2.out 0).trans rfl; have y1 : w2.cell? ⟨w.heap.size + 1, 1, none⟩ = some (.int .u8 p.x) := (blk_cell BP2.out 1).trans rfl; have y2 : w2.cell? ⟨w.heap.size + 1, 2, none⟩ = some (.int .u8 p.y) := (blk_cell BP2.out 2).trans rfl; have y3 : w2.cell? ⟨w.heap.size + 1, 3, none⟩ = some (.int .u8 p.n) := (blk_cell BP2.out 3).trans rfl; have y4 : w2.cell? ⟨w.heap.size + 1, 4, none⟩ = some (.int .u8 p.b) := (blk_cell BP2.out 4).trans rfl; have y5 : w2.cell? ⟨w.heap.size + 1, 5, none⟩ = some (.int .u16 p.a) := (blk_cell BP2.out 5).trans rfl
        go_wp2_with fail
        refine (ref_calls ⟨o.op, p.x, p.y, p.n, p.b, p.a⟩ hq _).mono ?_; rintro e w3 ⟨⟨v2, c2, rfl, hc⟩, hb⟩; obtain rfl := enc_yes hc HQ.out; have HB3 := Aside0.mk (below_step (below_set HB2.out (Nat.le_succ _)) hb); have BP3 := Aside0.mk (blk_below (blk_set BP2.out 0 (.int .u8 o.op)) hb); clear y0 y1 y2 y3 y4 y5 z0 z1 z2 z3 z4 z5 f0 hc hb; have x0 : w3.cell? ⟨w.heap.size + 1, 0, none⟩ = some (.int .u8 o.op) := (blk_cell BP3.out 0).trans rfl; have x1 : w3.cell? ⟨w.heap.size + 1, 1, none⟩ = some (.int .u8 p.x) := (blk_cell BP3.out 1).trans rfl; have x2 : w3.cell? ⟨w.heap.size + 1, 2, none⟩ = some (.int .u8 p.y) := (blk_cell BP3.out 2).trans rfl; have x3 : w3.cell? ⟨w.heap.size + 1, 3, none⟩ = some (.int .u8 p.n) := (blk_cell BP3.out 3).trans rfl; have x4 : w3.cell? ⟨w.heap.size + 1, 4, none⟩ = some (.int .u8 p.b) := (blk_cell BP3.out 4).trans rfl; have x5 : w3.cell? ⟨w.heap.size + 1, 5, none⟩ = some (.int .u16 p.a) := (blk_cell BP3.out 5).trans rfl
        go_wp2_with fail
        refine (bound_calls ⟨o.op, p.x, p.y, p.n, p.b, p.a⟩ hq _).mono ?_; rintro e w4 ⟨rfl, hb⟩; rw [HM.out]; have HB4 := Aside0.mk (below_step HB3.out hb); clear hb
        go_wp2
        go_ret
        exact ⟨rfl, HB4.out⟩
theorem law_calls (o p : OD) (ho : Fits o) (hp : Fits p) (w : World) : Calls Try.prog 3 #[.agg (ocells o), .agg (ocells p)] w fun e w' => e = .returned (.bool true) ∧ Below w.heap.size w w' := by
  cases hA : rowsD.any (encHit o) with
  | false => exact law_bad o p ho hp w hA
  | true =>
    by_cases h1 : o.op = 1
    · exact law_one o p ho hp w hA h1
    · exact law_main o p ho hp w hA h1
end Go.Proofs.Ythkheffilabhlaa
