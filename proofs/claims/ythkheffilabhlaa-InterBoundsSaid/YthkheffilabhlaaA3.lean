/-
  For InterBounds: the ten functions of the table's fields.
-/
import Derived.Test.YthkheffilabhlaaA2
import Derived.StillTailTactics
namespace Go.Proofs.Ythkheffilabhlaa
open Go.RowKit Go.Proofs.YthkheffilabhlaaW.PrintWords Go.Proofs.YthkheffilabhlaaW.PrintLast Go.Proofs.YthkheffilabhlaaW.PrintMore

theorem at15 (b : Nat) (v : Int) (w : World) (h0 : 0 ≤ v) (h1 : v ≤ 255) (hc : w.cell? ⟨b, 1, none⟩ = some (.int .u8 v)) : Calls Try.prog 15 #[.pointer (some ⟨b, 0, none⟩)] w fun e w' => e = .returned (.int .i64 v) ∧ w' = w := by
  go_enter Try.func15, Try.ntmps15
  go_wp2
  go_ret
  exact ⟨rfl, rfl⟩
theorem put16 (b : Nat) (n u : Int) (w : World) (h0 : 0 ≤ n) (h1 : n ≤ 255) (hc : w.cell? ⟨b, 1, none⟩ = some (.int .u8 u)) (hf : w.frozen? ⟨b, 1, none⟩ = false) : Calls Try.prog 16 #[.pointer (some ⟨b, 0, none⟩), .int .i64 n] w fun e w' => e = .returned (.tuple #[]) ∧ w.setCell ⟨b, 1, none⟩ (.int .u8 n) = w' := by
  go_enter Try.func16, Try.ntmps16
  go_wp2
  go_end0
  exact ⟨rfl, rfl⟩
theorem at17 (b : Nat) (v : Int) (w : World) (h0 : 0 ≤ v) (h1 : v ≤ 255) (hc : w.cell? ⟨b, 2, none⟩ = some (.int .u8 v)) : Calls Try.prog 17 #[.pointer (some ⟨b, 0, none⟩)] w fun e w' => e = .returned (.int .i64 v) ∧ w' = w := by
  go_enter Try.func17, Try.ntmps17
  go_wp2
  go_ret
  exact ⟨rfl, rfl⟩
theorem put18 (b : Nat) (n u : Int) (w : World) (h0 : 0 ≤ n) (h1 : n ≤ 255) (hc : w.cell? ⟨b, 2, none⟩ = some (.int .u8 u)) (hf : w.frozen? ⟨b, 2, none⟩ = false) : Calls Try.prog 18 #[.pointer (some ⟨b, 0, none⟩), .int .i64 n] w fun e w' => e = .returned (.tuple #[]) ∧ w.setCell ⟨b, 2, none⟩ (.int .u8 n) = w' := by
  go_enter Try.func18, Try.ntmps18
  go_wp2
  go_end0
  exact ⟨rfl, rfl⟩
theorem at19 (b : Nat) (v : Int) (w : World) (h0 : 0 ≤ v) (h1 : v ≤ 255) (hc : w.cell? ⟨b, 3, none⟩ = some (.int .u8 v)) : Calls Try.prog 19 #[.pointer (some ⟨b, 0, none⟩)] w fun e w' => e = .returned (.int .i64 v) ∧ w' = w := by
  go_enter Try.func19, Try.ntmps19
  go_wp2
  go_ret
  exact ⟨rfl, rfl⟩
theorem put20 (b : Nat) (n u : Int) (w : World) (h0 : 0 ≤ n) (h1 : n ≤ 255) (hc : w.cell? ⟨b, 3, none⟩ = some (.int .u8 u)) (hf : w.frozen? ⟨b, 3, none⟩ = false) : Calls Try.prog 20 #[.pointer (some ⟨b, 0, none⟩), .int .i64 n] w fun e w' => e = .returned (.tuple #[]) ∧ w.setCell ⟨b, 3, none⟩ (.int .u8 n) = w' := by
  go_enter Try.func20, Try.ntmps20
  go_wp2
  go_end0
  exact ⟨rfl, rfl⟩
theorem at21 (b : Nat) (v : Int) (w : World) (h0 : 0 ≤ v) (h1 : v ≤ 255) (hc : w.cell? ⟨b, 4, none⟩ = some (.int .u8 v)) : Calls Try.prog 21 #[.pointer (some ⟨b, 0, none⟩)] w fun e w' => e = .returned (.int .i64 v) ∧ w' = w := by
  go_enter Try.func21, Try.ntmps21
  go_wp2
  go_ret
  exact ⟨rfl, rfl⟩
theorem put22 (b : Nat) (n u : Int) (w : World) (h0 : 0 ≤ n) (h1 : n ≤ 255) (hc : w.cell? ⟨b, 4, none⟩ = some (.int .u8 u)) (hf : w.frozen? ⟨b, 4, none⟩ = false) : Calls Try.prog 22 #[.pointer (some ⟨b, 0, none⟩), .int .i64 n] w fun e w' => e = .returned (.tuple #[]) ∧ w.setCell ⟨b, 4, none⟩ (.int .u8 n) = w' := by
  go_enter Try.func22, Try.ntmps22
  go_wp2
  go_end0
  exact ⟨rfl, rfl⟩
theorem at23 (b : Nat) (v : Int) (w : World) (h0 : 0 ≤ v) (h1 : v ≤ 65535) (hc : w.cell? ⟨b, 5, none⟩ = some (.int .u16 v)) : Calls Try.prog 23 #[.pointer (some ⟨b, 0, none⟩)] w fun e w' => e = .returned (.int .i64 v) ∧ w' = w := by
  go_enter Try.func23, Try.ntmps23
  go_wp2
  go_ret
  exact ⟨rfl, rfl⟩
theorem put24 (b : Nat) (n u : Int) (w : World) (h0 : 0 ≤ n) (h1 : n ≤ 65535) (hc : w.cell? ⟨b, 5, none⟩ = some (.int .u16 u)) (hf : w.frozen? ⟨b, 5, none⟩ = false) : Calls Try.prog 24 #[.pointer (some ⟨b, 0, none⟩), .int .i64 n] w fun e w' => e = .returned (.tuple #[]) ∧ w.setCell ⟨b, 5, none⟩ (.int .u16 n) = w' := by
  go_enter Try.func24, Try.ntmps24
  go_wp2
  go_end0
  exact ⟨rfl, rfl⟩
structure OD where
  op : Int
  x : Int
  y : Int
  n : Int
  b : Int
  a : Int
def ocells (o : OD) : Array Value := #[.int .u8 o.op, .int .u8 o.x, .int .u8 o.y, .int .u8 o.n, .int .u8 o.b, .int .u16 o.a]
def fval (x : Int) (f : FD) : Int := bits BinOp.and .i64 (x / 2 ^ f.shift.toNat) (2 ^ (4 * f.digits).toNat - 1)
def putD (f : FD) (v : Int) (o : OD) : OD :=
  if f.put_ = 16 then { o with x := v } else if f.put_ = 18 then { o with y := v } else if f.put_ = 20 then { o with n := v } else if f.put_ = 22 then { o with b := v } else { o with a := v }
theorem wraps64 (n : Int) (h0 : 0 ≤ n) (h1 : n < 2 ^ 62) : IntKind.i64.wrap n = n := by rw [IntKind.wrap_i64]; omega
theorem and_mask (x : Int) (i : Nat) (hi : i ≤ 62) (h0 : 0 ≤ x) (h1 : x ≤ 65535) : bits .and .i64 x (2 ^ i - 1) = x % 2 ^ i := bits_mask .i64 62 (by decide) wraps64 i hi x h0 (by omega)
theorem fval_X (x : Int) (h0 : 0 ≤ x) (h1 : x ≤ 65535) : bits .and .i64 (x / 256) (16 - 1) = x / 256 % 16 := and_mask (x / 256) 4 (by decide) (by omega) (by omega)
theorem fval_Y (x : Int) (h0 : 0 ≤ x) (h1 : x ≤ 65535) : bits .and .i64 (x / 16) (16 - 1) = x / 16 % 16 := and_mask (x / 16) 4 (by decide) (by omega) (by omega)
theorem fval_N (x : Int) (h0 : 0 ≤ x) (h1 : x ≤ 65535) : bits .and .i64 x (16 - 1) = x % 16 := and_mask x 4 (by decide) (by omega) (by omega)
theorem fval_B (x : Int) (h0 : 0 ≤ x) (h1 : x ≤ 65535) : bits .and .i64 x (256 - 1) = x % 256 := and_mask x 8 (by decide) (by omega) (by omega)
theorem fval_A (x : Int) (h0 : 0 ≤ x) (h1 : x ≤ 65535) : bits .and .i64 x (4096 - 1) = x % 4096 := and_mask x 12 (by decide) (by omega) (by omega)
end Go.Proofs.Ythkheffilabhlaa
