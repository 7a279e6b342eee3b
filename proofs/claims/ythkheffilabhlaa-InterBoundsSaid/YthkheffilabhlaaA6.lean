/-
  For InterBounds: plain law: decD on natural numbers, the rows' order does not matter.
-/
import Derived.Test.YthkheffilabhlaaA5
set_option linter.unusedSimpArgs false
set_option linter.unusedVariables false
namespace Go.Proofs.Ythkheffilabhlaa
open Go.RowKit Go.Proofs.YthkheffilabhlaaW.PrintWords Go.Proofs.YthkheffilabhlaaW.PrintLast Go.Proofs.YthkheffilabhlaaW.PrintMore

/-! ### Rows on natural numbers: op, word, pattern -/
def allPow (f : Nat → Bool) : Nat → Nat → Bool
  | 0, base => f base
  | k + 1, base => allPow f k base && allPow f k (base + 2 ^ k)
theorem allPow_sound (f : Nat → Bool) : ∀ (k base : Nat), allPow f k base = true → ∀ n, base ≤ n → n < base + 2 ^ k → f n = true
  | 0, base, h, n, h0, h1 => by
    obtain rfl : n = base := by simp at h1; omega
    exact h
  | k + 1, base, h, n, h0, h1 => by
    simp only [allPow, Bool.and_eq_true] at h
    rw [Nat.pow_succ] at h1
    by_cases hn : n < base + 2 ^ k
    · exact allPow_sound f k base h.1 n h0 hn
    · exact allPow_sound f k _ h.2 n (by omega) (by omega)
def landB (w : Nat) : Bool := Nat.beq (Nat.land w 61440) (w / 4096 * 4096) && (Nat.beq (Nat.land w 61455) (w / 4096 * 4096 + w % 16) && Nat.beq (Nat.land w 61695) (w / 4096 * 4096 + w % 256))
theorem land0 : allPow landB 14 0 = true := by decide +kernel
theorem land1 : allPow landB 14 16384 = true := by decide +kernel
theorem land2 : allPow landB 14 32768 = true := by decide +kernel
theorem land3 : allPow landB 14 49152 = true := by decide +kernel
theorem land_all (w : Nat) (h : w < 65536) : Nat.land w 61440 = w / 4096 * 4096 ∧ Nat.land w 61455 = w / 4096 * 4096 + w % 16 ∧ Nat.land w 61695 = w / 4096 * 4096 + w % 256 := by
  have : landB w = true := by
    by_cases h1 : w < 16384
    · exact allPow_sound landB 14 0 land0 w (by omega) (by omega)
    · by_cases h2 : w < 32768
      · exact allPow_sound landB 14 _ land1 w (by omega) (by omega)
      · by_cases h3 : w < 49152
        · exact allPow_sound landB 14 _ land2 w (by omega) (by omega)
        · exact allPow_sound landB 14 _ land3 w (by omega) (by omega)
  simp only [landB, Bool.and_eq_true, Nat.beq_eq_true_eq, Nat.beq_eq] at this
  exact this
abbrev T3 := Nat × Nat × Nat
structure TN where
  x : Nat
  y : Nat
  n : Nat
  b : Nat
  a : Nat
def fieldsN (pat w : Nat) : TN := match pat with
  | 1 => ⟨0, 0, 0, 0, w % 4096⟩
  | 2 => ⟨w / 256 % 16, 0, 0, w % 256, 0⟩
  | 3 => ⟨w / 256 % 16, w / 16 % 16, 0, 0, 0⟩
  | 4 => ⟨w / 256 % 16, w / 16 % 16, w % 16, 0, 0⟩
  | 5 => ⟨w / 256 % 16, 0, 0, 0, 0⟩
  | _ => ⟨0, 0, 0, 0, 0⟩
def toOD (op : Nat) (t : TN) : OD := ⟨op, t.x, t.y, t.n, t.b, t.a⟩
def CB (w : Nat) (r : T3) : Bool := match r.2.2 with
  | 0 => w == r.2.1
  | 3 => w / 4096 * 4096 + w % 16 == r.2.1
  | 5 => w / 4096 * 4096 + w % 256 == r.2.1
  | _ => w / 4096 * 4096 == r.2.1
def wordM (r : T3) (t : TN) : Nat := match r.2.2 with
  | 0 => r.2.1
  | 1 => r.2.1 + t.a
  | 2 => r.2.1 + t.x * 256 + t.b
  | 3 => r.2.1 + t.x * 256 + t.y * 16
  | 4 => r.2.1 + t.x * 256 + t.y * 16 + t.n
  | _ => r.2.1 + t.x * 256
def patOf (fs : List FD) : Nat := match fs.map (·.put_) with
  | [24] => 1
  | [16, 22] => 2
  | [16, 18] => 3
  | [16, 18, 20] => 4
  | [16] => 5
  | _ => 0
def gN (r : RD) : T3 := (r.op.toNat, r.word.toNat, patOf r.fields)
def rowsT : List T3 := rowsD.map gN
def rowsU : List T3 := [(1, 0, 1), (2, 224, 0), (3, 238, 0), (4, 4096, 1), (5, 8192, 1), (6, 12288, 2), (7, 16384, 2), (8, 20480, 3), (9, 24576, 2), (10, 28672, 2), (11, 32768, 3), (12, 32769, 3), (13, 32770, 3), (14, 32772, 3), (15, 32773, 3), (16, 36864, 3), (17, 40960, 1), (18, 45056, 1), (19, 49152, 2), (20, 53248, 4), (21, 57502, 5), (22, 57505, 5), (23, 61447, 5), (24, 61450, 5), (25, 61461, 5), (26, 61464, 5), (27, 61470, 5), (28, 61481, 5), (29, 61491, 5), (30, 61525, 5), (31, 61541, 5)]
theorem rowsT_mem : ∀ t, t ∈ rowsT ↔ t ∈ rowsU := by
  have h1 : ∀ t ∈ rowsT, t ∈ rowsU := by decide +kernel
  have h2 : ∀ t ∈ rowsU, t ∈ rowsT := by decide +kernel
  exact fun t => ⟨h1 t, h2 t⟩
/-- What a word of a pattern may be. -/
def wellB (r : T3) : Bool := Nat.blt r.2.1 65536 && (match r.2.2 with | 0 => true | 3 => Nat.blt (r.2.1 % 4096) 16 | 5 => Nat.blt (r.2.1 % 4096) 256 | _ => Nat.beq (r.2.1 % 4096) 0) && Nat.blt r.2.2 6
theorem rowsU_well : ∀ t ∈ rowsU, wellB t = true := by decide +kernel
def clashB (r s : T3) : Bool := !(r.2.1 / 4096 == s.2.1 / 4096) || (r.2.2 == 3 && s.2.2 == 3 && !(r.2.1 % 16 == s.2.1 % 16)) || (r.2.2 == 5 && s.2.2 == 5 && !(r.2.1 % 256 == s.2.1 % 256))
theorem rowsU_clash : ∀ r ∈ rowsU, ∀ s ∈ rowsU, r = s ∨ clashB r s = true ∨ r.1 = 2 ∨ r.1 = 3 ∨ s.1 = 2 ∨ s.1 = 3 := by decide +kernel
theorem rowsU_op : ∀ r ∈ rowsU, ∀ s ∈ rowsU, r.1 = s.1 → r = s := by decide +kernel
theorem rowsU_23 : ∀ r ∈ rowsU, (r.1 = 2 → r = (2, 224, 0)) ∧ (r.1 = 3 → r = (3, 238, 0)) := by decide +kernel
theorem CB_high {w : Nat} {r : T3} (hr : wellB r = true) (h : CB w r = true) : w / 4096 = r.2.1 / 4096 ∧ (r.2.2 = 3 → w % 16 = r.2.1 % 16) ∧ (r.2.2 = 5 → w % 256 = r.2.1 % 256) := by
  obtain ⟨op, word, pat⟩ := r
  simp only [wellB, Bool.and_eq_true, Nat.blt_eq] at hr
  obtain ⟨⟨h1, h2⟩, h3⟩ := hr
  unfold CB at h
  rcases (by omega : pat = 0 ∨ pat = 1 ∨ pat = 2 ∨ pat = 3 ∨ pat = 4 ∨ pat = 5) with rfl | rfl | rfl | rfl | rfl | rfl
  all_goals (simp only [Nat.blt_eq, Nat.beq_eq_true_eq, Nat.beq_eq, beq_iff_eq] at h h2 ⊢; omega)
theorem CB_unique {w : Nat} {r s : T3} (hr : r ∈ rowsU) (hs : s ∈ rowsU) (h1 : CB w r = true) (h2 : CB w s = true) (n1 : w ≠ 224) (n2 : w ≠ 238) : r = s := by
  have k1 := CB_high (rowsU_well r hr) h1
  have k2 := CB_high (rowsU_well s hs) h2
  rcases rowsU_clash r hr s hs with h | h | h | h | h | h
  · exact h
  · exfalso
    simp only [clashB, Bool.or_eq_true, Bool.and_eq_true, Bool.not_eq_true', beq_eq_false_iff_ne, beq_iff_eq] at h
    rcases h with (h | ⟨⟨h3, h4⟩, h5⟩) | ⟨⟨h3, h4⟩, h5⟩
    · omega
    · have := k1.2.1 h3; have := k2.2.1 h4; omega
    · have := k1.2.2 h3; have := k2.2.2 h4; omega
  · obtain rfl := (rowsU_23 r hr).1 h; simp [CB] at h1; omega
  · obtain rfl := (rowsU_23 r hr).2 h; simp [CB] at h1; omega
  · obtain rfl := (rowsU_23 s hs).1 h; simp [CB] at h2; omega
  · obtain rfl := (rowsU_23 s hs).2 h; simp [CB] at h2; omega
/-- The rows' order does not matter, but at 00E0 and 00EE. -/
theorem find_same (w : Nat) : rowsT.find? (CB w) = rowsU.reverse.find? (CB w) := by
  by_cases n1 : w = 224
  · subst n1; decide +kernel
  by_cases n2 : w = 238
  · subst n2; decide +kernel
  cases h : rowsT.find? (CB w) with
  | none =>
    symm
    rw [List.find?_eq_none] at h ⊢
    intro x hx
    exact h x ((rowsT_mem x).2 (List.mem_reverse.1 hx))
  | some r =>
    have hr := (rowsT_mem r).1 (List.mem_of_find?_eq_some h)
    have h1 : CB w r = true := by simpa using List.find?_some h
    cases h' : rowsU.reverse.find? (CB w) with
    | none =>
      rw [List.find?_eq_none] at h'
      exact absurd h1 (h' r (List.mem_reverse.2 hr))
    | some s =>
      rw [CB_unique hr (List.mem_reverse.1 (List.mem_of_find?_eq_some h')) h1 (by simpa using List.find?_some h') n1 n2]

/-! ### The program's Decode -/
theorem wraps16 (n : Int) (h0 : 0 ≤ n) (h1 : n < 2 ^ 16) : IntKind.u16.wrap n = n := by
  have : IntKind.u16.wrap n = n % 65536 := by simp [IntKind.wrap, IntKind.bits, IntKind.signed]
  rw [this]; omega
theorem wrap16 (n : Int) : IntKind.u16.wrap n = n % 65536 := by simp [IntKind.wrap, IntKind.bits, IntKind.signed]
theorem hit_nat (w m c : Nat) (hw : w < 65536) (hm : m < 65536) : (bits .and .u16 (w : Int) (m : Int) == (c : Int)) = (Nat.land w m == c) := by
  rw [(bits_nat .u16 16 (by decide) wraps16 w m hw hm).1]
  rw [Bool.eq_iff_iff, beq_iff_eq, beq_iff_eq]
  exact Int.natCast_inj
theorem rowsD_mask : ∀ r ∈ rowsD, r.op = (r.op.toNat : Int) ∧ r.word = (r.word.toNat : Int) ∧ r.mask = (r.mask.toNat : Int) ∧ r.mask.toNat = (match patOf r.fields with | 0 => 65535 | 3 => 61455 | 5 => 61695 | _ => 61440) ∧ patOf r.fields < 6 := by decide +kernel
theorem land_ffff (w : Nat) (h : w < 65536) : Nat.land w 65535 = w := by
  have := Nat.and_two_pow_sub_one_eq_mod w 16
  rw [Nat.mod_eq_of_lt h] at this
  exact this
theorem hit_eq (w : Nat) (hw : w < 65536) : ∀ r ∈ rowsD, hit (w : Int) r = CB w (gN r) := by
  intro r hr
  obtain ⟨_, h2, h3, h4, h5⟩ := rowsD_mask r hr
  unfold hit
  rw [h2, h3]
  have hl := land_all w hw
  have hm : r.mask.toNat < 65536 := by rw [h4]; split <;> omega
  rw [hit_nat w _ _ hw hm, h4]
  unfold CB gN
  generalize patOf r.fields = p at h5 ⊢
  rcases (by omega : p = 0 ∨ p = 1 ∨ p = 2 ∨ p = 3 ∨ p = 4 ∨ p = 5) with rfl | rfl | rfl | rfl | rfl | rfl
  · simp only [land_ffff w hw]
  · simp only [hl.1]
  · simp only [hl.1]
  · simp only [hl.2.1]
  · simp only [hl.1]
  · simp only [hl.2.2]
theorem fvn_X (w : Nat) (h : w < 65536) : fval (w : Int) fX = ((w / 256 % 16 : Nat) : Int) := by rw [fv_X, fval_X _ (by omega) (by omega)]; omega
theorem fvn_Y (w : Nat) (h : w < 65536) : fval (w : Int) fY = ((w / 16 % 16 : Nat) : Int) := by rw [fv_Y, fval_Y _ (by omega) (by omega)]; omega
theorem fvn_N (w : Nat) (h : w < 65536) : fval (w : Int) fN = ((w % 16 : Nat) : Int) := by rw [fv_N, fval_N _ (by omega) (by omega)]; omega
theorem fvn_B (w : Nat) (h : w < 65536) : fval (w : Int) fB = ((w % 256 : Nat) : Int) := by rw [fv_B, fval_B _ (by omega) (by omega)]; omega
theorem fvn_A (w : Nat) (h : w < 65536) : fval (w : Int) fA = ((w % 4096 : Nat) : Int) := by rw [fv_A, fval_A _ (by omega) (by omega)]; omega
theorem rows_lists : ∀ r ∈ rowsD, r.fields = [] ∨ r.fields = [fA] ∨ r.fields = [fX, fB] ∨ r.fields = [fX, fY] ∨ r.fields = [fX, fY, fN] ∨ r.fields = [fX] := by
  intro r hr
  have hf : r.fields ∈ rowsD.map (·.fields) := List.mem_map.2 ⟨r, hr, rfl⟩
  simp only [rowsD, List.map_cons, List.map_nil, List.mem_cons, List.not_mem_nil, or_false] at hf
  clear hr
  generalize r.fields = l at hf ⊢
  repeat (rcases hf with rfl | hf; · simp)
theorem exp_eq (w : Nat) (hw : w < 65536) : ∀ r ∈ rowsD, r.fields.foldl (fun o f => putD f (fval (w : Int) f) o) ⟨r.op, 0, 0, 0, 0, 0⟩ = toOD (gN r).1 (fieldsN (gN r).2.2 w) := by
  intro r hr
  obtain ⟨h1, _⟩ := rowsD_mask r hr
  unfold gN
  simp only
  rcases rows_lists r hr with h | h | h | h | h | h <;> rw [h]
  · show OD.mk r.op 0 0 0 0 0 = _
    rw [h1]; rfl
  · show OD.mk r.op 0 0 0 0 (fval w fA) = _
    rw [h1, fvn_A w hw]; rfl
  · show OD.mk r.op (fval w fX) 0 0 (fval w fB) 0 = _
    rw [h1, fvn_X w hw, fvn_B w hw]; rfl
  · show OD.mk r.op (fval w fX) (fval w fY) 0 0 0 = _
    rw [h1, fvn_X w hw, fvn_Y w hw]; rfl
  · show OD.mk r.op (fval w fX) (fval w fY) (fval w fN) 0 0 = _
    rw [h1, fvn_X w hw, fvn_Y w hw, fvn_N w hw]; rfl
  · show OD.mk r.op (fval w fX) 0 0 0 0 = _
    rw [h1, fvn_X w hw]; rfl
theorem find_congr {α : Type} {p q : α → Bool} : ∀ {l : List α}, (∀ x ∈ l, p x = q x) → l.find? p = l.find? q
  | [], _ => rfl
  | a :: l, h => by
    rw [List.find?_cons, List.find?_cons, h a (by simp), find_congr (fun x hx => h x (by simp [hx]))]
def refD (w : Nat) : Option OD := (rowsU.reverse.find? (CB w)).map fun t => toOD t.1 (fieldsN t.2.2 w)
theorem decD_nat (w : Nat) (hw : w < 65536) : decD (w : Int) = refD w := by
  unfold refD
  rw [← find_same]
  unfold decD rowsT
  rw [List.find?_map, find_congr (hit_eq w hw), Option.map_map]
  cases h : rowsD.find? (fun r => CB w (gN r)) with
  | none =>
    have h' : rowsD.find? (CB w ∘ gN) = none := h
    rw [h']; rfl
  | some r =>
    have h' : rowsD.find? (CB w ∘ gN) = some r := h
    rw [h']
    simp only [Option.map_some, Function.comp]
    rw [exp_eq w hw r (List.mem_of_find?_eq_some h)]
end Go.Proofs.Ythkheffilabhlaa
