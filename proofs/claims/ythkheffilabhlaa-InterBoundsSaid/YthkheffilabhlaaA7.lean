/-
  For InterBounds: plain law: the word that ops.Encode makes.
-/
import Derived.Test.YthkheffilabhlaaA6
set_option linter.unusedSimpArgs false
set_option linter.unusedVariables false
namespace Go.Proofs.Ythkheffilabhlaa
open Go.RowKit Go.Proofs.YthkheffilabhlaaW.PrintWords Go.Proofs.YthkheffilabhlaaW.PrintLast Go.Proofs.YthkheffilabhlaaW.PrintMore

/-! ### The program's word -/
theorem lor_low (i H b : Nat) (h : b < 2 ^ i) : Nat.lor (2 ^ i * H) b = 2 ^ i * H + b := (Nat.two_pow_add_eq_or_of_lt h H).symm
theorem lor_mid (H l x : Nat) (hl : l < 256) (hx : x < 16) : Nat.lor (4096 * H + l) (x * 256) = 4096 * H + x * 256 + l := by
  have e1 : 4096 * H + l = Nat.lor (4096 * H) l := (lor_low 12 H l (by omega)).symm
  have e2 : Nat.lor (4096 * H) (x * 256) = 4096 * H + x * 256 := lor_low 12 H (x * 256) (by omega)
  have e3 : Nat.lor (4096 * H + x * 256) l = 4096 * H + x * 256 + l := by
    have := lor_low 8 (16 * H + x) l (by omega)
    rw [show 2 ^ 8 * (16 * H + x) = 4096 * H + x * 256 by omega] at this
    exact this
  rw [e1]
  show (4096 * H ||| l) ||| (x * 256) = _
  rw [Nat.or_assoc, Nat.or_comm l, ← Nat.or_assoc]
  show Nat.lor (Nat.lor (4096 * H) (x * 256)) l = _
  rw [e2, e3]
theorem lor_mid2 (K l y : Nat) (hl : l < 16) (hy : y < 16) : Nat.lor (256 * K + l) (y * 16) = 256 * K + y * 16 + l := by
  have e1 : 256 * K + l = Nat.lor (256 * K) l := (lor_low 8 K l (by omega)).symm
  have e2 : Nat.lor (256 * K) (y * 16) = 256 * K + y * 16 := lor_low 8 K (y * 16) (by omega)
  have e3 : Nat.lor (256 * K + y * 16) l = 256 * K + y * 16 + l := by
    have := lor_low 4 (16 * K + y) l (by omega)
    rw [show 2 ^ 4 * (16 * K + y) = 256 * K + y * 16 by omega] at this
    exact this
  rw [e1]
  show (256 * K ||| l) ||| (y * 16) = _
  rw [Nat.or_assoc, Nat.or_comm l, ← Nat.or_assoc]
  show Nat.lor (Nat.lor (256 * K) (y * 16)) l = _
  rw [e2, e3]
theorem and15 (v : Nat) (h : v ≤ 65535) : bits .and .i64 (v : Int) 15 = ((v % 16 : Nat) : Int) := by
  have := and_mask (v : Int) 4 (by decide) (by omega) (by omega)
  rw [show (2 : Int) ^ 4 - 1 = 15 by decide] at this
  rw [this]; omega
theorem and255 (v : Nat) (h : v ≤ 65535) : bits .and .i64 (v : Int) 255 = ((v % 256 : Nat) : Int) := by
  have := and_mask (v : Int) 8 (by decide) (by omega) (by omega)
  rw [show (2 : Int) ^ 8 - 1 = 255 by decide] at this
  rw [this]; omega
theorem and4095 (v : Nat) (h : v ≤ 65535) : bits .and .i64 (v : Int) 4095 = ((v % 4096 : Nat) : Int) := by
  have := and_mask (v : Int) 12 (by decide) (by omega) (by omega)
  rw [show (2 : Int) ^ 12 - 1 = 4095 by decide] at this
  rw [this]; omega
theorem or16 (z v : Nat) (hz : z < 65536) (hv : v < 65536) : bits .or .u16 (z : Int) (v : Int) = ((Nat.lor z v : Nat) : Int) := (bits_nat .u16 16 (by decide) wraps16 z v hz hv).2
structure Tight (t : TN) : Prop where
  x : t.x ≤ 15
  y : t.y ≤ 15
  n : t.n ≤ 15
  b : t.b ≤ 255
  a : t.a ≤ 4095
theorem ww (v : Nat) (h : v < 65536) : IntKind.u16.wrap (v : Int) = (v : Int) := by rw [wrap16]; omega
theorem wsn_X (op z : Nat) (t : TN) (ht : Tight t) (hz : z < 65536) : wstep (toOD op t) (z : Int) fX = ((Nat.lor z (t.x * 256) : Nat) : Int) := by
  have := ht.x
  rw [ws_X, show (toOD op t).x = (t.x : Int) from rfl, and15 _ (by omega), Nat.mod_eq_of_lt (by omega), ww _ (by omega), show (t.x : Int) * 256 = ((t.x * 256 : Nat) : Int) by omega, ww _ (by omega), or16 _ _ hz (by omega)]
theorem wsn_Y (op z : Nat) (t : TN) (ht : Tight t) (hz : z < 65536) : wstep (toOD op t) (z : Int) fY = ((Nat.lor z (t.y * 16) : Nat) : Int) := by
  have := ht.y
  rw [ws_Y, show (toOD op t).y = (t.y : Int) from rfl, and15 _ (by omega), Nat.mod_eq_of_lt (by omega), ww _ (by omega), show (t.y : Int) * 16 = ((t.y * 16 : Nat) : Int) by omega, ww _ (by omega), or16 _ _ hz (by omega)]
theorem wsn_N (op z : Nat) (t : TN) (ht : Tight t) (hz : z < 65536) : wstep (toOD op t) (z : Int) fN = ((Nat.lor z t.n : Nat) : Int) := by
  have := ht.n
  rw [ws_N, show (toOD op t).n = (t.n : Int) from rfl, and15 _ (by omega), Nat.mod_eq_of_lt (by omega), ww _ (by omega), ww _ (by omega), or16 _ _ hz (by omega)]
theorem wsn_B (op z : Nat) (t : TN) (ht : Tight t) (hz : z < 65536) : wstep (toOD op t) (z : Int) fB = ((Nat.lor z t.b : Nat) : Int) := by
  have := ht.b
  rw [ws_B, show (toOD op t).b = (t.b : Int) from rfl, and255 _ (by omega), Nat.mod_eq_of_lt (by omega), ww _ (by omega), ww _ (by omega), or16 _ _ hz (by omega)]
theorem wsn_A (op z : Nat) (t : TN) (ht : Tight t) (hz : z < 65536) : wstep (toOD op t) (z : Int) fA = ((Nat.lor z t.a : Nat) : Int) := by
  have := ht.a
  rw [ws_A, show (toOD op t).a = (t.a : Int) from rfl, and4095 _ (by omega), Nat.mod_eq_of_lt (by omega), ww _ (by omega), ww _ (by omega), or16 _ _ hz (by omega)]
theorem wordOf_eq (op : Nat) (t : TN) (ht : Tight t) : ∀ r ∈ rowsD, wordOf r (toOD op t) = ((wordM (gN r) t : Nat) : Int) := by
  intro r hr
  obtain ⟨_, h2, _, h4, _⟩ := rowsD_mask r hr
  have hw := rowsU_well (gN r) ((rowsT_mem _).1 (List.mem_map.2 ⟨r, hr, rfl⟩))
  obtain ⟨tx, ty, tn, tb, ta⟩ := t
  have h5 := ht.x; have h6 := ht.y; have h7 := ht.n; have h8 := ht.b; have h9 := ht.a
  simp only at h5 h6 h7 h8 h9
  simp only [wellB, gN, Bool.and_eq_true, Nat.blt_eq] at hw
  unfold wordOf gN wordM
  rw [h2]
  generalize r.word.toNat = W at hw ⊢
  rcases rows_lists r hr with h | h | h | h | h | h <;> rw [h] at hw ⊢
  · rfl
  · have hW : W < 65536 ∧ W % 4096 = 0 := ⟨hw.1.1, by simpa [patOf, fA] using hw.1.2⟩
    show wstep _ (W : Int) fA = ((W + ta : Nat) : Int)
    rw [wsn_A op W _ ht hW.1]
    have := lor_low 12 (W / 4096) ta (by omega)
    rw [show 2 ^ 12 * (W / 4096) = W by omega] at this
    simp only [this]
  · have hW : W < 65536 ∧ W % 4096 = 0 := ⟨hw.1.1, by simpa [patOf, fX, fB] using hw.1.2⟩
    show wstep _ (wstep _ (W : Int) fX) fB = ((W + tx * 256 + tb : Nat) : Int)
    have e1 := lor_mid (W / 4096) 0 tx (by omega) (by omega)
    rw [show 4096 * (W / 4096) + 0 = W by omega, show 4096 * (W / 4096) + tx * 256 + 0 = W + tx * 256 by omega] at e1
    have e2 := lor_low 8 (W / 256 + tx) tb (by omega)
    rw [show 2 ^ 8 * (W / 256 + tx) = W + tx * 256 by omega] at e2
    rw [wsn_X op W _ ht hW.1]
    simp only [e1]
    rw [wsn_B op _ _ ht (by omega)]
    simp only [e2]
  · have hW : W < 65536 ∧ W % 4096 < 16 := ⟨hw.1.1, by simpa [patOf, fX, fY] using hw.1.2⟩
    show wstep _ (wstep _ (W : Int) fX) fY = ((W + tx * 256 + ty * 16 : Nat) : Int)
    have e1 := lor_mid (W / 4096) (W % 4096) tx (by omega) (by omega)
    rw [show 4096 * (W / 4096) + W % 4096 = W by omega, show 4096 * (W / 4096) + tx * 256 + W % 4096 = W + tx * 256 by omega] at e1
    have e2 := lor_mid2 (16 * (W / 4096) + tx) (W % 4096) ty (by omega) (by omega)
    rw [show 256 * (16 * (W / 4096) + tx) + W % 4096 = W + tx * 256 by omega, show 256 * (16 * (W / 4096) + tx) + ty * 16 + W % 4096 = W + tx * 256 + ty * 16 by omega] at e2
    rw [wsn_X op W _ ht hW.1]
    simp only [e1]
    rw [wsn_Y op _ _ ht (by omega)]
    simp only [e2]
  · have hW : W < 65536 ∧ W % 4096 = 0 := ⟨hw.1.1, by simpa [patOf, fX, fY, fN] using hw.1.2⟩
    show wstep _ (wstep _ (wstep _ (W : Int) fX) fY) fN = ((W + tx * 256 + ty * 16 + tn : Nat) : Int)
    have e1 := lor_mid (W / 4096) 0 tx (by omega) (by omega)
    rw [show 4096 * (W / 4096) + 0 = W by omega, show 4096 * (W / 4096) + tx * 256 + 0 = W + tx * 256 by omega] at e1
    have e2 := lor_mid2 (16 * (W / 4096) + tx) 0 ty (by omega) (by omega)
    rw [show 256 * (16 * (W / 4096) + tx) + 0 = W + tx * 256 by omega, show 256 * (16 * (W / 4096) + tx) + ty * 16 + 0 = W + tx * 256 + ty * 16 by omega] at e2
    have e3 := lor_low 4 (16 * (16 * (W / 4096) + tx) + ty) tn (by omega)
    rw [show 2 ^ 4 * (16 * (16 * (W / 4096) + tx) + ty) = W + tx * 256 + ty * 16 by omega] at e3
    rw [wsn_X op W _ ht hW.1]
    simp only [e1]
    rw [wsn_Y op _ _ ht (by omega)]
    simp only [e2]
    rw [wsn_N op _ _ ht (by omega)]
    simp only [e3]
  · have hW : W < 65536 ∧ W % 4096 < 256 := ⟨hw.1.1, by simpa [patOf, fX] using hw.1.2⟩
    show wstep _ (W : Int) fX = ((W + tx * 256 : Nat) : Int)
    have e1 := lor_mid (W / 4096) (W % 4096) tx (by omega) (by omega)
    rw [show 4096 * (W / 4096) + W % 4096 = W by omega, show 4096 * (W / 4096) + tx * 256 + W % 4096 = W + tx * 256 by omega] at e1
    rw [wsn_X op W _ ht hW.1]
    simp only [e1]
end Go.Proofs.Ythkheffilabhlaa
