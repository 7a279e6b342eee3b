/-
  For InterBounds: plain law: the reference's word and order.
-/
import Derived.Test.YthkheffilabhlaaA7
set_option linter.unusedSimpArgs false
set_option linter.unusedVariables false
namespace Go.Proofs.Ythkheffilabhlaa
open Go.RowKit Go.Proofs.YthkheffilabhlaaW.PrintWords Go.Proofs.YthkheffilabhlaaW.PrintLast Go.Proofs.YthkheffilabhlaaW.PrintMore
open PInterBounds

/-! ### The reference's rows -/
def patS (s : ByteArray) : Nat := match s.data.toList with
  | [97] => 1
  | [120, 98] => 2
  | [120, 121] => 3
  | [120, 121, 110] => 4
  | [120] => 5
  | _ => 0
def gS (r : S36) : T3 := (r.f0.toNat, r.f1.toNat, patS r.f2)
def rowsR : List S36 := (vesperref16_Words.f).getD []
theorem words_eq : vesperref16_Words.f = some rowsR := rfl
theorem rowsR_map : rowsR.map gS = rowsU := rfl
theorem rowsR_int : ∀ r ∈ rowsR, r.f0 = (r.f0.toNat : Int) ∧ r.f1 = (r.f1.toNat : Int) := by decide +kernel
theorem rowsR_str : ∀ r ∈ rowsR, r.f2 = ⟨#[97]⟩ ∨ r.f2 = ⟨#[120, 98]⟩ ∨ r.f2 = ⟨#[120, 121]⟩ ∨ r.f2 = ⟨#[120, 121, 110]⟩ ∨ r.f2 = ⟨#[120]⟩ ∨ r.f2 = ⟨#[]⟩ := by
  intro r hr
  have hf : r.f2 ∈ rowsR.map (·.f2) := List.mem_map.2 ⟨r, hr, rfl⟩
  clear hr
  generalize r.f2 = l at hf ⊢
  simp only [rowsR, vesperref16_Words.f, Option.getD_some, List.map_cons, List.map_nil, List.mem_cons, List.not_mem_nil, or_false] at hf
  repeat (rcases hf with rfl | hf; · simp)

theorem has_a (k : Nat) (a b : Int) (d : ByteArray) : vesperref16_Word_has.f (k + 4) a b ⟨#[97]⟩ d 120 = some false ∧ vesperref16_Word_has.f (k + 4) a b ⟨#[97]⟩ d 121 = some false ∧ vesperref16_Word_has.f (k + 4) a b ⟨#[97]⟩ d 110 = some false ∧ vesperref16_Word_has.f (k + 4) a b ⟨#[97]⟩ d 98 = some false ∧ vesperref16_Word_has.f (k + 4) a b ⟨#[97]⟩ d 97 = some true := ⟨by kernel_rfl, by kernel_rfl, by kernel_rfl, by kernel_rfl, by kernel_rfl⟩
theorem has_xb (k : Nat) (a b : Int) (d : ByteArray) : vesperref16_Word_has.f (k + 4) a b ⟨#[120, 98]⟩ d 120 = some true ∧ vesperref16_Word_has.f (k + 4) a b ⟨#[120, 98]⟩ d 121 = some false ∧ vesperref16_Word_has.f (k + 4) a b ⟨#[120, 98]⟩ d 110 = some false ∧ vesperref16_Word_has.f (k + 4) a b ⟨#[120, 98]⟩ d 98 = some true ∧ vesperref16_Word_has.f (k + 4) a b ⟨#[120, 98]⟩ d 97 = some false := ⟨by kernel_rfl, by kernel_rfl, by kernel_rfl, by kernel_rfl, by kernel_rfl⟩
theorem has_xy (k : Nat) (a b : Int) (d : ByteArray) : vesperref16_Word_has.f (k + 4) a b ⟨#[120, 121]⟩ d 120 = some true ∧ vesperref16_Word_has.f (k + 4) a b ⟨#[120, 121]⟩ d 121 = some true ∧ vesperref16_Word_has.f (k + 4) a b ⟨#[120, 121]⟩ d 110 = some false ∧ vesperref16_Word_has.f (k + 4) a b ⟨#[120, 121]⟩ d 98 = some false ∧ vesperref16_Word_has.f (k + 4) a b ⟨#[120, 121]⟩ d 97 = some false := ⟨by kernel_rfl, by kernel_rfl, by kernel_rfl, by kernel_rfl, by kernel_rfl⟩
theorem has_xyn (k : Nat) (a b : Int) (d : ByteArray) : vesperref16_Word_has.f (k + 4) a b ⟨#[120, 121, 110]⟩ d 120 = some true ∧ vesperref16_Word_has.f (k + 4) a b ⟨#[120, 121, 110]⟩ d 121 = some true ∧ vesperref16_Word_has.f (k + 4) a b ⟨#[120, 121, 110]⟩ d 110 = some true ∧ vesperref16_Word_has.f (k + 4) a b ⟨#[120, 121, 110]⟩ d 98 = some false ∧ vesperref16_Word_has.f (k + 4) a b ⟨#[120, 121, 110]⟩ d 97 = some false := ⟨by kernel_rfl, by kernel_rfl, by kernel_rfl, by kernel_rfl, by kernel_rfl⟩
theorem has_x (k : Nat) (a b : Int) (d : ByteArray) : vesperref16_Word_has.f (k + 4) a b ⟨#[120]⟩ d 120 = some true ∧ vesperref16_Word_has.f (k + 4) a b ⟨#[120]⟩ d 121 = some false ∧ vesperref16_Word_has.f (k + 4) a b ⟨#[120]⟩ d 110 = some false ∧ vesperref16_Word_has.f (k + 4) a b ⟨#[120]⟩ d 98 = some false ∧ vesperref16_Word_has.f (k + 4) a b ⟨#[120]⟩ d 97 = some false := ⟨by kernel_rfl, by kernel_rfl, by kernel_rfl, by kernel_rfl, by kernel_rfl⟩
theorem has_0 (k : Nat) (a b : Int) (d : ByteArray) : vesperref16_Word_has.f (k + 4) a b ⟨#[]⟩ d 120 = some false ∧ vesperref16_Word_has.f (k + 4) a b ⟨#[]⟩ d 121 = some false ∧ vesperref16_Word_has.f (k + 4) a b ⟨#[]⟩ d 110 = some false ∧ vesperref16_Word_has.f (k + 4) a b ⟨#[]⟩ d 98 = some false ∧ vesperref16_Word_has.f (k + 4) a b ⟨#[]⟩ d 97 = some false := ⟨by kernel_rfl, by kernel_rfl, by kernel_rfl, by kernel_rfl, by kernel_rfl⟩

structure Loose (t : TN) : Prop where
  x : t.x ≤ 255
  y : t.y ≤ 255
  n : t.n ≤ 255
  b : t.b ≤ 255
  a : t.a ≤ 65535
theorem ref_word (k op : Nat) (t : TN) (ht : Loose t) : ∀ r ∈ rowsR, vesperref16_Word_word.f (k + 8) r.f0 r.f1 r.f2 r.f3 op t.x t.y t.n t.b t.a = some ((wordM (gS r) t % 65536 : Nat) : Int) := by
  intro r hr
  obtain ⟨_, h2⟩ := rowsR_int r hr
  obtain ⟨h5, h6, h7, h8, h9⟩ := ht
  have hw := rowsU_well (gS r) (by rw [← rowsR_map]; exact List.mem_map.2 ⟨r, hr, rfl⟩)
  simp only [wellB, gS, Bool.and_eq_true, Nat.blt_eq] at hw
  have hW := hw.1.1
  clear hw
  obtain ⟨f0, f1, f2, f3⟩ := r
  simp only at h2 hW
  unfold gS wordM
  simp only
  generalize f1.toNat = W at h2 hW ⊢
  subst h2
  rcases rowsR_str _ hr with h | h | h | h | h | h <;> simp only at h <;> subst h
  · simp only [vesperref16_Word_word.f, vesperref16_Word_word.j0, vesperref16_Word_word.j1, vesperref16_Word_word.j2, has_a, Option.bind_some, if_true, Bool.false_eq_true, if_false, wrap16, Option.some.injEq, patS]
    omega
  · simp only [vesperref16_Word_word.f, vesperref16_Word_word.j0, vesperref16_Word_word.j1, vesperref16_Word_word.j2, has_xb, Option.bind_some, if_true, Bool.false_eq_true, if_false, wrap16, Option.some.injEq, patS]
    omega
  · simp only [vesperref16_Word_word.f, vesperref16_Word_word.j0, vesperref16_Word_word.j1, vesperref16_Word_word.j2, has_xy, Option.bind_some, if_true, Bool.false_eq_true, if_false, wrap16, Option.some.injEq, patS]
    omega
  · simp only [vesperref16_Word_word.f, vesperref16_Word_word.j0, vesperref16_Word_word.j1, vesperref16_Word_word.j2, has_xyn, Option.bind_some, if_true, Bool.false_eq_true, if_false, wrap16, Option.some.injEq, patS]
    omega
  · simp only [vesperref16_Word_word.f, vesperref16_Word_word.j0, vesperref16_Word_word.j1, vesperref16_Word_word.j2, has_x, Option.bind_some, if_true, Bool.false_eq_true, if_false, wrap16, Option.some.injEq, patS]
    omega
  · simp only [vesperref16_Word_word.f, vesperref16_Word_word.j0, vesperref16_Word_word.j1, vesperref16_Word_word.j2, has_0, Option.bind_some, if_true, Bool.false_eq_true, if_false, wrap16, Option.some.injEq, patS]
    omega
def six (op : Nat) (t : TN) : Int × Int × Int × Int × Int × Int := ((op : Int), (t.x : Int), (t.y : Int), (t.n : Int), (t.b : Int), (t.a : Int))
theorem ref_order (k w : Nat) (hw : w < 65536) : ∀ r ∈ rowsR, vesperref16_Word_order.f (k + 8) r.f0 r.f1 r.f2 r.f3 w = some (six (gS r).1 (fieldsN (gS r).2.2 w)) := by
  intro r hr
  obtain ⟨h1, _⟩ := rowsR_int r hr
  obtain ⟨f0, f1, f2, f3⟩ := r
  simp only at h1
  unfold gS six fieldsN
  simp only
  generalize f0.toNat = W at h1 ⊢
  subst h1
  have d1 : Int.tdiv (w : Int) 256 = ((w / 256 : Nat) : Int) := by rw [Int.tdiv_eq_ediv_of_nonneg (by omega)]; omega
  have d2 : Int.tdiv (w : Int) 16 = ((w / 16 : Nat) : Int) := by rw [Int.tdiv_eq_ediv_of_nonneg (by omega)]; omega
  have tm : ∀ (v m : Nat), Int.tmod (v : Int) (m : Int) = ((v % m : Nat) : Int) := fun v m => by rw [Int.tmod_eq_emod_of_nonneg (by omega)]; exact (Int.natCast_emod v m).symm
  have m1 : Int.tmod (IntKind.u16.wrap (Int.tdiv (w : Int) 256)) 16 % 256 = ((w / 256 % 16 : Nat) : Int) := by rw [d1, ww _ (by omega)]; have := tm (w / 256) 16; rw [show ((16 : Nat) : Int) = 16 from rfl] at this; rw [this]; omega
  have m2 : Int.tmod (IntKind.u16.wrap (Int.tdiv (w : Int) 16)) 16 % 256 = ((w / 16 % 16 : Nat) : Int) := by rw [d2, ww _ (by omega)]; have := tm (w / 16) 16; rw [show ((16 : Nat) : Int) = 16 from rfl] at this; rw [this]; omega
  have m3 : Int.tmod (w : Int) 16 % 256 = ((w % 16 : Nat) : Int) := by have := tm w 16; rw [show ((16 : Nat) : Int) = 16 from rfl] at this; rw [this]; omega
  have m4 : Int.tmod (w : Int) 256 % 256 = ((w % 256 : Nat) : Int) := by have := tm w 256; rw [show ((256 : Nat) : Int) = 256 from rfl] at this; rw [this]; omega
  have m5 : Int.tmod (w : Int) 4096 = ((w % 4096 : Nat) : Int) := by have := tm w 4096; rw [show ((4096 : Nat) : Int) = 4096 from rfl] at this; rw [this]
  rcases rowsR_str _ hr with h | h | h | h | h | h <;> simp only at h <;> subst h
  · simp only [vesperref16_Word_order.f, vesperref16_Word_order.j0, vesperref16_Word_order.j1, vesperref16_Word_order.j2, has_a, Option.bind_some, if_true, Bool.false_eq_true, if_false, m1, m2, m3, m4, m5, patS]; rfl
  · simp only [vesperref16_Word_order.f, vesperref16_Word_order.j0, vesperref16_Word_order.j1, vesperref16_Word_order.j2, has_xb, Option.bind_some, if_true, Bool.false_eq_true, if_false, m1, m2, m3, m4, m5, patS]; rfl
  · simp only [vesperref16_Word_order.f, vesperref16_Word_order.j0, vesperref16_Word_order.j1, vesperref16_Word_order.j2, has_xy, Option.bind_some, if_true, Bool.false_eq_true, if_false, m1, m2, m3, m4, m5, patS]; rfl
  · simp only [vesperref16_Word_order.f, vesperref16_Word_order.j0, vesperref16_Word_order.j1, vesperref16_Word_order.j2, has_xyn, Option.bind_some, if_true, Bool.false_eq_true, if_false, m1, m2, m3, m4, m5, patS]; rfl
  · simp only [vesperref16_Word_order.f, vesperref16_Word_order.j0, vesperref16_Word_order.j1, vesperref16_Word_order.j2, has_x, Option.bind_some, if_true, Bool.false_eq_true, if_false, m1, m2, m3, m4, m5, patS]; rfl
  · simp only [vesperref16_Word_order.f, vesperref16_Word_order.j0, vesperref16_Word_order.j1, vesperref16_Word_order.j2, has_0, Option.bind_some, if_true, Bool.false_eq_true, if_false, m1, m2, m3, m4, m5, patS]; rfl
end Go.Proofs.Ythkheffilabhlaa
