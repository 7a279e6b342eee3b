/-
  For InterBounds: plain law: both Encode agree on which orders have a word.
-/
import Derived.Test.YthkheffilabhlaaA8
set_option linter.unusedSimpArgs false
set_option linter.unusedVariables false
namespace Go.Proofs.Ythkheffilabhlaa
open Go.RowKit Go.Proofs.YthkheffilabhlaaW.PrintWords Go.Proofs.YthkheffilabhlaaW.PrintLast Go.Proofs.YthkheffilabhlaaW.PrintMore
open PInterBounds

theorem tight_fields (pat w : Nat) : Tight (fieldsN pat w) := by
  unfold fieldsN
  split <;> exact ⟨by simp <;> omega, by simp <;> omega, by simp <;> omega, by simp <;> omega, by simp <;> omega⟩
theorem Tight.loose {t : TN} (h : Tight t) : Loose t := ⟨by have := h.x; omega, by have := h.y; omega, by have := h.n; omega, h.b, by have := h.a; omega⟩
def CBS (w : Nat) (r : S36) : Bool := CB w (gS r)
theorem gS_mem {r : S36} (h : r ∈ rowsR) : gS r ∈ rowsU := by rw [← rowsR_map]; exact List.mem_map.2 ⟨r, h, rfl⟩
theorem rowsU_one : ∀ t ∈ rowsU, (t.1 = 1 → t = (1, 0, 1)) ∧ t.1 ≠ 0 := by decide +kernel
theorem cb_iff (w : Nat) (hw : w < 65536) {t : T3} (ht : t ∈ rowsU) : CB w t = true ↔ (wordM t (fieldsN t.2.2 w) % 65536 = w ∧ (t.1 = 1 → w < 4096)) := by
  have hwell := rowsU_well t ht
  have hone := (rowsU_one t ht).1
  obtain ⟨op, W, pat⟩ := t
  simp only [wellB, Bool.and_eq_true, Nat.blt_eq] at hwell
  obtain ⟨⟨h1, h2⟩, h3⟩ := hwell
  unfold CB wordM fieldsN
  by_cases ho : op = 1
  · have := hone ho
    simp only [Prod.mk.injEq] at this
    obtain ⟨rfl, rfl, rfl⟩ := this
    simp only [beq_iff_eq]
    omega
  · rcases (by omega : pat = 0 ∨ pat = 1 ∨ pat = 2 ∨ pat = 3 ∨ pat = 4 ∨ pat = 5) with rfl | rfl | rfl | rfl | rfl | rfl
    all_goals (simp only [Nat.blt_eq, Nat.beq_eq_true_eq, Nat.beq_eq, beq_iff_eq] at h2 ⊢; omega)
def out (w : Nat) : Option S36 → Int × Int × Int × Int × Int × Int × Bool
  | none => (0, 0, 0, 0, 0, 0, false)
  | some r => let s := six (gS r).1 (fieldsN (gS r).2.2 w); (s.1, s.2.1, s.2.2.1, s.2.2.2.1, s.2.2.2.2.1, s.2.2.2.2.2, true)
theorem rowsR_len : rowsR.length = 31 := rfl
theorem rd_eq (n : Nat) (h : n < 31) : rd_T36 rowsR (n : Int) = rowsR[n]'h := by
  unfold rd_T36
  rw [Int.toNat_natCast, List.getD_eq_getElem?_getD, List.getElem?_eq_getElem h]; rfl
theorem dec_l0 (w : Nat) (hw : w < 65536) : ∀ (n k : Nat), n ≤ 31 → n + 9 ≤ k → vesperref16_Decode.l0 k w rowsR ((n : Int) - 1) = some (out w ((rowsR.take n).reverse.find? (CBS w)))
  | 0, k, _, hk => by
    obtain ⟨k, rfl⟩ : ∃ m, k = m + 1 := ⟨k - 1, by omega⟩
    simp only [vesperref16_Decode.l0]
    rw [if_neg (by omega)]
    rfl
  | n + 1, k, hn, hk => by
    obtain ⟨K, rfl⟩ : ∃ m, k = m + 1 := ⟨k - 1, by omega⟩
    obtain ⟨k, hK⟩ : ∃ m, K = m + 8 := ⟨K - 8, by omega⟩
    have hlt : n < 31 := by omega
    have hr : rowsR[n]'hlt ∈ rowsR := List.getElem_mem _
    have ih := dec_l0 w hw n K (by omega) (by omega)
    have hrd := rd_eq n hlt
    rw [List.take_succ_eq_append_getElem (show n < rowsR.length from hlt), List.reverse_append, List.reverse_singleton, List.singleton_append, List.find?_cons]
    rw [show ((n + 1 : Nat) : Int) - 1 = (n : Int) by omega]
    have hord := ref_order k w hw _ hr
    have hwrd := ref_word k (gS (rowsR[n]'hlt)).1 _ (tight_fields (gS (rowsR[n]'hlt)).2.2 w).loose _ hr
    rw [← hK] at hord hwrd
    have hcb := cb_iff w hw (gS_mem hr)
    obtain ⟨hf0, _⟩ := rowsR_int _ hr
    simp only [vesperref16_Decode.l0]
    rw [if_pos (show (n : Int) ≥ 0 by omega), if_pos (show (0 : Int) ≤ n by omega), if_pos (show (n : Int) < (rowsR.length : Int) by rw [rowsR_len]; omega), hrd]
    generalize rowsR[n]'hlt = r at *
    rw [hord]
    simp only [Option.bind_some, six]
    rw [hwrd]
    simp only [Option.bind_some]
    rw [show wrap64 ((n : Int) - 1) = (n : Int) - 1 by unfold wrap64; omega, ih]
    rw [show (gS r).1 = r.f0.toNat from rfl] at *
    by_cases h1 : wordM (gS r) (fieldsN (gS r).2.2 w) % 65536 = w
    · rw [if_pos (by rw [h1])]
      by_cases h2 : r.f0 = 1
      · rw [if_pos h2]
        by_cases h3 : w < 4096
        · have : CBS w r = true := hcb.2 ⟨h1, fun _ => h3⟩
          rw [if_pos (by omega), this]; rfl
        · have : CBS w r = false := by
            rw [← Bool.not_eq_true]
            exact fun h => h3 ((hcb.1 h).2 (by omega))
          rw [if_neg (by omega), this]
      · have : CBS w r = true := hcb.2 ⟨h1, fun h => absurd (by omega) h2⟩
        rw [if_neg h2, this]; rfl
    · have : CBS w r = false := by
        rw [← Bool.not_eq_true]
        exact fun h => h1 (hcb.1 h).1
      rw [if_neg (by omega), this]
theorem ref_dec (w k : Nat) (hw : w < 65536) (hk : 40 ≤ k) : vesperref16_Decode.f k w = some (out w (rowsR.reverse.find? (CBS w))) := by
  unfold vesperref16_Decode.f
  rw [words_eq]
  simp only [Option.bind_some]
  rw [rowsR_len, show wrap64 (((31 : Nat) : Int) - 1) = ((31 : Nat) : Int) - 1 by unfold wrap64; omega, dec_l0 w hw 31 k (by omega) (by omega)]
  rw [List.take_of_length_le (by rw [rowsR_len]; omega)]
theorem find_refD (w : Nat) : refD w = (rowsR.reverse.find? (CBS w)).map fun r => toOD (gS r).1 (fieldsN (gS r).2.2 w) := by
  unfold refD
  rw [← rowsR_map, ← List.map_reverse, List.find?_map, Option.map_map]
  rfl
def eqF (s : Int × Int × Int × Int × Int × Int × Bool) (op : Nat) (t : TN) : Bool := !(!(s.1 == (op : Int)) || (!(s.2.1 == (t.x : Int)) || (!(s.2.2.1 == (t.y : Int)) || (!(s.2.2.2.1 == (t.n : Int)) || (!(s.2.2.2.2.1 == (t.b : Int)) || (!(s.2.2.2.2.2.1 == (t.a : Int))))))))
theorem eqF_out (w op : Nat) (t : TN) (h0 : op ≠ 0) : eqF (out w (rowsR.reverse.find? (CBS w))) op t = (match refD w with | some p => eqO p (toOD op t) | none => false) := by
  rw [find_refD]
  cases rowsR.reverse.find? (CBS w) with
  | none =>
    have : ((0 : Int) == (op : Int)) = false := by rw [beq_eq_false_iff_ne]; omega
    simp [eqF, out, this]
  | some r =>
    simp [eqF, out, eqO, toOD, six, Bool.not_or]
theorem eqF_big (s : Int × Int × Int × Int × Int × Int × Bool) (op : Nat) (t : TN) : (!(s.1 == (op : Int)) || (!(s.2.1 == (t.x : Int)) || (!(s.2.2.1 == (t.y : Int)) || (!(s.2.2.2.1 == (t.n : Int)) || (!(s.2.2.2.2.1 == (t.b : Int)) || (!(s.2.2.2.2.2.1 == (t.a : Int)))))))) = !eqF s op t := by
  unfold eqF; rw [Bool.not_not]
/-- The reference's Encode at one row. -/
def encR (r : S36) (op : Nat) (t : TN) : Int × Int :=
  if t.x ≤ 15 ∧ t.y ≤ 15 ∧ t.n ≤ 15 ∧ t.a ≤ 4095 then
    (if eqF (out (wordM (gS r) t % 65536) (rowsR.reverse.find? (CBS (wordM (gS r) t % 65536)))) op t = true then (((wordM (gS r) t % 65536 : Nat) : Int), 0) else (0, 160))
  else (0, 160)
theorem enc_j1 (op : Nat) (t : TN) (ht : Loose t) (j k : Nat) (hj : j < 31) (hk : 50 ≤ k) (b : Bool) (hb : b = true ∨ (b = false ∧ t.x ≤ 15 ∧ t.y ≤ 15 ∧ t.n ≤ 15 ∧ t.a ≤ 4095)) (hb' : b = true → ¬ (t.x ≤ 15 ∧ t.y ≤ 15 ∧ t.n ≤ 15 ∧ t.a ≤ 4095)) :
    vesperref16_Encode.j1 k rowsR j b op t.x t.y t.n t.b t.a = some (encR (rowsR[j]'hj) op t) := by
  obtain ⟨k, rfl⟩ : ∃ m, k = m + 8 + 1 := ⟨k - 9, by omega⟩
  have hr : rowsR[j]'hj ∈ rowsR := List.getElem_mem _
  have hwrd := ref_word k op t ht _ hr
  have hrd := rd_eq j hj
  simp only [vesperref16_Encode.j1]
  rcases hb with rfl | ⟨rfl, hb⟩
  · rw [if_pos rfl]
    unfold encR
    rw [if_neg (hb' rfl)]
  · rw [if_neg (by decide), if_pos (show (0 : Int) ≤ j by omega), if_pos (show (j : Int) < (rowsR.length : Int) by rw [rowsR_len]; omega), hrd]
    generalize rowsR[j]'hj = r at *
    rw [hwrd]
    simp only [Option.bind_some]
    rw [ref_dec _ _ (Nat.mod_lt _ (by omega)) (by omega)]
    simp only [Option.bind_some]
    unfold encR
    rw [if_pos hb]
    rw [eqF_big]
    cases eqF (out (wordM (gS r) t % 65536) (rowsR.reverse.find? (CBS (wordM (gS r) t % 65536)))) op t with
    | true => rfl
    | false => rfl
theorem enc_l0 (op : Nat) (t : TN) (ht : Loose t) : ∀ (d k : Nat), d ≤ 31 → d + 60 ≤ k → vesperref16_Encode.l0 k rowsR ((31 - d : Nat) : Int) op t.x t.y t.n t.b t.a = some (match (rowsR.drop (31 - d)).find? (fun r => r.f0 == (op : Int)) with | none => (0, 160) | some r => encR r op t)
  | 0, k, _, hk => by
    obtain ⟨k, rfl⟩ : ∃ m, k = m + 1 := ⟨k - 1, by omega⟩
    simp only [vesperref16_Encode.l0]
    rw [if_neg (by rw [rowsR_len]; omega), List.drop_of_length_le (by rw [rowsR_len]; omega)]
    rfl
  | d + 1, k, hd, hk => by
    obtain ⟨k, rfl⟩ : ∃ m, k = m + 1 := ⟨k - 1, by omega⟩
    have ih := enc_l0 op t ht d k (by omega) (by omega)
    have hj : 31 - (d + 1) < 31 := by omega
    have hrd := rd_eq (31 - (d + 1)) hj
    rw [List.drop_eq_getElem_cons (show 31 - (d + 1) < rowsR.length from hj), List.find?_cons, show 31 - (d + 1) + 1 = 31 - d by omega]
    have hj1 := fun b hb hb' => enc_j1 op t ht (31 - (d + 1)) k hj (by omega) b hb hb'
    simp only [vesperref16_Encode.l0]
    rw [if_pos (by rw [rowsR_len]; omega), if_pos (by omega), hrd]
    rw [show wrap64 (((31 - (d + 1) : Nat) : Int) + 1) = ((31 - d : Nat) : Int) by unfold wrap64; omega, ih]
    generalize rowsR[31 - (d + 1)]'hj = r at *
    by_cases h : r.f0 = (op : Int)
    · have hb : (r.f0 == (op : Int)) = true := by rw [h]; exact beq_self_eq_true _
      rw [if_pos h, hb]
      simp only
      by_cases h1 : (t.x : Int) > 15
      · rw [if_pos h1]; exact hj1 true (.inl rfl) (fun _ => by omega)
      rw [if_neg h1]
      by_cases h2 : (t.y : Int) > 15
      · rw [if_pos h2]; exact hj1 true (.inl rfl) (fun _ => by omega)
      rw [if_neg h2]
      by_cases h3 : (t.n : Int) > 15
      · rw [if_pos h3]; exact hj1 true (.inl rfl) (fun _ => by omega)
      rw [if_neg h3]
      by_cases h4 : (t.a : Int) > 4095
      · rw [decide_eq_true h4]; exact hj1 true (.inl rfl) (fun _ => by omega)
      · rw [decide_eq_false h4]; exact hj1 false (.inr ⟨rfl, by omega⟩) (fun h => by cases h)
    · have hb : (r.f0 == (op : Int)) = false := by rw [beq_eq_false_iff_ne]; exact h
      rw [if_neg h, hb]
theorem encode_ref (op : Nat) (t : TN) (ht : Loose t) : vesperref16_Encode.f 100 op t.x t.y t.n t.b t.a = some (match rowsR.find? (fun r => r.f0 == (op : Int)) with | none => (0, 160) | some r => encR r op t) := by
  unfold vesperref16_Encode.f
  rw [words_eq]
  simp only [Option.bind_some]
  have := enc_l0 op t ht 31 100 (by omega) (by omega)
  simpa using this
theorem not_tight (op : Nat) (t : TN) (w : Int) (h0 : 0 ≤ w) (h1 : w ≤ 65535) (p : OD) (hd : decD w = some p) (he : eqO p (toOD op t) = true) : Tight t := by
  obtain ⟨n, rfl⟩ := Int.eq_ofNat_of_zero_le h0
  rw [decD_nat n (by omega)] at hd
  unfold refD at hd
  obtain ⟨s, _, rfl⟩ := Option.map_eq_some_iff.1 hd
  have hf := tight_fields s.2.2 n
  simp only [eqO, toOD, Bool.and_eq_true, beq_iff_eq] at he
  obtain ⟨_, h1, h2, h3, h4, h5⟩ := he
  exact ⟨by have := hf.x; omega, by have := hf.y; omega, by have := hf.n; omega, by have := hf.b; omega, by have := hf.a; omega⟩
theorem wordM_small {s : T3} (hs : s ∈ rowsU) {t : TN} (ht : Tight t) : wordM s t < 65536 := by
  have hwell := rowsU_well s hs
  have h5 := ht.x; have h6 := ht.y; have h7 := ht.n; have h8 := ht.b; have h9 := ht.a
  obtain ⟨op, W, pat⟩ := s
  simp only [wellB, Bool.and_eq_true, Nat.blt_eq] at hwell
  obtain ⟨⟨h1, h2⟩, h3⟩ := hwell
  unfold wordM
  rcases (by omega : pat = 0 ∨ pat = 1 ∨ pat = 2 ∨ pat = 3 ∨ pat = 4 ∨ pat = 5) with rfl | rfl | rfl | rfl | rfl | rfl
  all_goals (simp only [Nat.blt_eq, Nat.beq_eq_true_eq, Nat.beq_eq] at h2 ⊢; omega)
/-- **The two agree on which orders have a word.** -/
theorem agree (op : Nat) (t : TN) (ht : Loose t) : ∃ v c : Int, vesperref16_Encode.f 100 op t.x t.y t.n t.b t.a = some (v, c) ∧ ((c = 0 ∧ rowsD.any (encHit (toOD op t)) = true) ∨ (c = 160 ∧ rowsD.any (encHit (toOD op t)) = false)) := by
  rw [encode_ref op t ht]
  have hhit : ∀ r ∈ rowsD, encHit (toOD op t) r = true → Tight t ∧ r.op = (op : Int) := by
    intro r hr h
    unfold encHit at h
    rw [Bool.and_eq_true] at h
    obtain ⟨h1, h2⟩ := h
    have hw := wordOf_range r hr (toOD op t)
    cases hd : decD (wordOf r (toOD op t)) with
    | none => rw [hd] at h2; cases h2
    | some p =>
      rw [hd] at h2
      exact ⟨not_tight op t _ hw.1 hw.2 p hd h2, by simpa [toOD] using h1⟩
  cases hfi : rowsR.find? (fun r => r.f0 == (op : Int)) with
  | none =>
    refine ⟨0, 160, rfl, .inr ⟨rfl, ?_⟩⟩
    rw [List.any_eq_false]
    intro r hr h
    have hop := (hhit r hr h).2
    have hm : gN r ∈ rowsR.map gS := by rw [rowsR_map]; exact (rowsT_mem _).1 (List.mem_map.2 ⟨r, hr, rfl⟩)
    obtain ⟨s, hs, he⟩ := List.mem_map.1 hm
    rw [List.find?_eq_none] at hfi
    apply hfi s hs
    have h1 := (rowsR_int s hs).1
    have h2 := (rowsD_mask r hr).1
    have h3 : (gS s).1 = (gN r).1 := by rw [he]
    have h4 : s.f0.toNat = r.op.toNat := h3
    rw [beq_iff_eq]; omega
  | some s =>
    have hs := List.mem_of_find?_eq_some hfi
    have hsop : s.f0 = (op : Int) := by simpa using List.find?_some hfi
    have hsU := gS_mem hs
    have hop1 : (gS s).1 = op := by show s.f0.toNat = op; omega
    have hop0 : op ≠ 0 := by rw [← hop1]; exact (rowsU_one _ hsU).2
    have hsame : ∀ r ∈ rowsD, r.op = (op : Int) → gN r = gS s := by
      intro r hr h
      refine rowsU_op _ ((rowsT_mem _).1 (List.mem_map.2 ⟨r, hr, rfl⟩)) _ hsU ?_
      rw [hop1]; show r.op.toNat = op; omega
    simp only
    unfold encR
    by_cases hti : t.x ≤ 15 ∧ t.y ≤ 15 ∧ t.n ≤ 15 ∧ t.a ≤ 4095
    · have hT : Tight t := ⟨hti.1, hti.2.1, hti.2.2.1, ht.b, hti.2.2.2⟩
      rw [if_pos hti]
      have hsm := wordM_small hsU hT
      rw [Nat.mod_eq_of_lt hsm, eqF_out _ _ _ hop0]
      have hall : ∀ r ∈ rowsD, r.op = (op : Int) → encHit (toOD op t) r = (match refD (wordM (gS s) t) with | some p => eqO p (toOD op t) | none => false) := by
        intro r hr h
        unfold encHit
        rw [wordOf_eq op t hT r hr, hsame r hr h, decD_nat _ hsm]
        have : (r.op != (toOD op t).op) = false := by rw [show (toOD op t).op = (op : Int) from rfl, h]; simp
        rw [this]; rfl
      obtain ⟨r0, hr0, he0⟩ := List.mem_map.1 ((rowsT_mem _).2 hsU)
      have hr0op : r0.op = (op : Int) := by
        have h1 := (rowsD_mask r0 hr0).1
        have h2 : r0.op.toNat = op := by rw [← hop1, ← he0]; rfl
        omega
      cases hm : (match refD (wordM (gS s) t) with | some p => eqO p (toOD op t) | none => false) with
      | true =>
        rw [if_pos rfl]
        exact ⟨_, _, rfl, .inl ⟨rfl, List.any_eq_true.2 ⟨r0, hr0, by rw [hall r0 hr0 hr0op, hm]⟩⟩⟩
      | false =>
        rw [if_neg (by decide)]
        refine ⟨_, _, rfl, .inr ⟨rfl, ?_⟩⟩
        rw [List.any_eq_false]
        intro r hr h
        rw [hall r hr (hhit r hr h).2, hm] at h
        cases h
    · rw [if_neg hti]
      refine ⟨_, _, rfl, .inr ⟨rfl, ?_⟩⟩
      rw [List.any_eq_false]
      intro r hr h
      have hT := (hhit r hr h).1
      exact hti ⟨hT.x, hT.y, hT.n, hT.a⟩
end Go.Proofs.Ythkheffilabhlaa
