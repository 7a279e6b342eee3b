/-
  SourceNumbers (vesperlaw13): the closed sentence holds: an example source is written and read as it should be, and the errors, kinds, parts and limits have their numbers. Conditions: none beyond the row's own; the listed tables are tied by the card. (part 4 of 6)
-/
import Derived.Test.YthnafgffanlnfaaDoorSN3
import Derived.Lib.FieldsP
import Derived.Lib.IndexMore
import Derived.Lib.DecodeN
import Derived.Lib.TrimU
import Derived.Laws.RangeString
import Derived.WalkKit
import Derived.Lib.OthersKept
import Derived.Deep.LoopGhost
import Derived.Laws.BitsLemmas
import Derived.IntWalk
import Derived.Outline
import Derived.Deep.DeepMust
import Derived.Deep.Draws
import Derived.Laws.BitsAllLaws
import Derived.Lib.SmallJoins
import Derived.Shelf.Strings.Builder1
import Derived.Laws.CopyOwn
import Derived.Scope
import Derived.ScopeJumps
import Derived.WalkLawsBesides
namespace Go.Proofs.YthnafgffanlnfaaDoor.PSrc
open Go.RowKit Go.Proofs.YthnafgffanlnfaaDoorW.PrintWords Go.Proofs.YthnafgffanlnfaaDoorW.PrintLast Go.Proofs.YthnafgffanlnfaaDoorW.PrintMore
attribute [local go_sem] max2_int min2_int max_two min_two max_three min_three max_four min_four   -- for this text's walks alone
set_option linter.unusedVariables false
set_option linter.unusedSimpArgs false
mutual
def bits_Hex.j0 : Nat → Int → Int → Bool → Option (ByteArray)
  | 0, _, _, _ => none
  | k + 1, x0, x1, x23 => if x23 = true then (some (⟨#[]⟩ : ByteArray)) else (if 0 ≤ x1 then (if (x1 : Int).toNat ≤ 281474976710656 then ((some (List.replicate (x1 : Int).toNat 0 : List Int)).bind fun y101 => (bits_Hex.l0 k x0 x1 y101 (y101.length : Int) 0)) else (none)) else (none))
def bits_Hex.l0 : Nat → Int → Int → List Int → Int → Int → Option (ByteArray)
  | 0, _, _, _, _, _ => none
  | k + 1, x0, x1, x5, x27, x28 => if x28 < x27 then (if 0 ≤ (Go.bits .and .i64 x0 15) then (if (Go.bits .and .i64 x0 15) < 16 then (if 0 ≤ (wrap64 ((wrap64 (x1 - 1)) - x28)) then (if (wrap64 ((wrap64 (x1 - 1)) - x28)) < (x5.length : Int) then (bits_Hex.l0 k (x0 / 16) x1 (x5.set ((wrap64 ((wrap64 (x1 - 1)) - x28)) : Int).toNat (bt (⟨#[48, 49, 50, 51, 52, 53, 54, 55, 56, 57, 97, 98, 99, 100, 101, 102]⟩ : ByteArray) (Go.bits .and .i64 x0 15))) x27 (wrap64 (x28 + 1))) else (none)) else (none)) else (none)) else (none)) else (some (strOfNums x5))
end
def bits_Hex.f (k : Nat) (a0 : Int) (a1 : Int) : Option (ByteArray) := if a1 < 1 then (bits_Hex.j0 k a0 a1 true) else (if a1 > 8 then (bits_Hex.j0 k a0 a1 true) else (if a0 < 0 then (bits_Hex.j0 k a0 a1 true) else (if 0 ≤ (wrap64 (4 * a1)) then (bits_Hex.j0 k a0 a1 (decide (a0 ≥ (shl .i64 1 (wrap64 (4 * a1)))))) else (none))))
theorem bits_Hex.mono_l : ∀ k, (∀ y0 y1 y2, LeO (bits_Hex.j0 k y0 y1 y2) (bits_Hex.j0 (k + 1) y0 y1 y2)) ∧ (∀ y0 y1 y2 y3 y4, LeO (bits_Hex.l0 k y0 y1 y2 y3 y4) (bits_Hex.l0 (k + 1) y0 y1 y2 y3 y4))
  | 0 => ⟨fun _ _ _ r h => by simp [bits_Hex.j0] at h, fun _ _ _ _ _ r h => by simp [bits_Hex.l0] at h⟩
  | k + 1 => by
    obtain ⟨ih0, ih1⟩ := bits_Hex.mono_l k
    refine ⟨?_, ?_⟩
    · intro y0 y1 y2
      unfold bits_Hex.j0
      repeat' first
      | (with_reducible exact ih0 _ _ _)
      | (with_reducible exact ih1 _ _ _ _ _)
      | (with_reducible exact LeO.refl _)
      | (with_reducible exact LeO.none _)
      | (with_reducible refine LeO.ite ?_ ?_)
      | (with_reducible refine LeO.bind ?_ (fun _ => ?_))
      | exact ih0 _ _ _
      | exact ih1 _ _ _ _ _
      | exact LeO.none _
      | refine LeO.ite ?_ ?_
      | refine LeO.bind ?_ (fun _ => ?_)
    · intro y0 y1 y2 y3 y4
      unfold bits_Hex.l0
      repeat' first
      | (with_reducible exact ih0 _ _ _)
      | (with_reducible exact ih1 _ _ _ _ _)
      | (with_reducible exact LeO.refl _)
      | (with_reducible exact LeO.none _)
      | (with_reducible refine LeO.ite ?_ ?_)
      | (with_reducible refine LeO.bind ?_ (fun _ => ?_))
      | exact ih0 _ _ _
      | exact ih1 _ _ _ _ _
      | exact LeO.none _
      | refine LeO.ite ?_ ?_
      | refine LeO.bind ?_ (fun _ => ?_)
theorem bits_Hex.mono : ∀ a0 a1 k, LeO (bits_Hex.f k a0 a1) (bits_Hex.f (k + 1) a0 a1) := by
  intro a0 a1 k
  obtain ⟨ih0, ih1⟩ := bits_Hex.mono_l k
  unfold bits_Hex.f
  repeat' first
      | (with_reducible exact ih0 _ _ _)
      | (with_reducible exact ih1 _ _ _ _ _)
      | (with_reducible exact LeO.refl _)
      | (with_reducible exact LeO.none _)
      | (with_reducible refine LeO.ite ?_ ?_)
      | (with_reducible refine LeO.bind ?_ (fun _ => ?_))
      | exact ih0 _ _ _
      | exact ih1 _ _ _ _ _
      | exact LeO.none _
      | refine LeO.ite ?_ ?_
      | refine LeO.bind ?_ (fun _ => ?_)
set_option maxHeartbeats 8000000 in
set_option maxRecDepth 100000 in
theorem bits_Hex.calls (k : Nat) (a0 : Int) (a1 : Int) (r : ByteArray) (w : World) (h : bits_Hex.f k a0 a1 = some r) :
    Calls Tryd.prog 86 #[.int .i64 a0, .int .i64 a1] w fun e w' => e = .returned (.string r) ∧ Below w.heap.size w w' := by
  have HB := Aside0.mk (Below.refl w.heap.size w)
  have H : (if a1 < 1 then (bits_Hex.j0 k a0 a1 true) else (if a1 > 8 then (bits_Hex.j0 k a0 a1 true) else (if a0 < 0 then (bits_Hex.j0 k a0 a1 true) else (if 0 ≤ (wrap64 (4 * a1)) then (bits_Hex.j0 k a0 a1 (decide (a0 ≥ (shl .i64 1 (wrap64 (4 * a1)))))) else (none))))) = some r := h
  clear h
  have HC3 := Aside0.mk H
  clear H
  go_enter Tryd.func86, Tryd.ntmps86
  go_upto_region 1 with (fail)
  go_cut [23] (fun v23 wc => ∃ (kq : Nat) (x23_2 : Bool), v23 = .bool x23_2 ∧ Aside0 (bits_Hex.j0 kq a0 a1 x23_2 = some r) ∧ Aside0 (kq ≤ k) ∧ Aside0 (Below w.heap.size w wc))
  case first =>
    have H := HC3.out
    clear HC3
    by_cases c4 : a1 < 1
    · rw [if_pos c4] at H
      have c4b0 : decide (a1 < 1) = true := decide_eq_true c4
      clear c4
      (first | rw [c4b0] | (simp only [i64_w, i32_w]; rw [c4b0]) | skip)
      have H' := Aside0.mk H
      clear H
      go_wp2
      go_meet
      case rel => exact ⟨_, (true), (by first | rfl | (simp; done) | (simp [*]; done)), H', ⟨by first | omega | exact Nat.le_refl _⟩, ⟨by repeat (first | (with_reducible first | exact HB.out | apply below_alloc | apply pw_below_drewN | apply below_drew1) | exact HB.out)⟩⟩
    · rw [if_neg c4] at H
      have c4b0 : decide (a1 < 1) = false := decide_eq_false c4
      clear c4
      (first | rw [c4b0] | (simp only [i64_w, i32_w]; rw [c4b0]) | skip)
      by_cases c5 : a1 > 8
      · rw [if_pos c5] at H
        have c5b0 : decide (8 < a1) = true := decide_eq_true c5
        clear c5
        have H' := Aside0.mk H
        clear H
        go_wp2
        go_meet
        case rel => exact ⟨_, (true), (by first | rfl | (simp; done) | (simp [*]; done)), H', ⟨by first | omega | exact Nat.le_refl _⟩, ⟨by repeat (first | (with_reducible first | exact HB.out | apply below_alloc | apply pw_below_drewN | apply below_drew1) | exact HB.out)⟩⟩
      · rw [if_neg c5] at H
        have c5b0 : decide (8 < a1) = false := decide_eq_false c5
        clear c5
        by_cases c6 : a0 < 0
        · rw [if_pos c6] at H
          have c6b0 : decide (a0 < 0) = true := decide_eq_true c6
          clear c6
          have H' := Aside0.mk H
          clear H
          go_wp2
          go_meet
          case rel => exact ⟨_, (true), (by first | rfl | (simp; done) | (simp [*]; done)), H', ⟨by first | omega | exact Nat.le_refl _⟩, ⟨by repeat (first | (with_reducible first | exact HB.out | apply below_alloc | apply pw_below_drewN | apply below_drew1) | exact HB.out)⟩⟩
        · rw [if_neg c6] at H
          have c6b0 : decide (a0 < 0) = false := decide_eq_false c6
          clear c6
          obtain ⟨ji7, hji7⟩ : ∃ j_ : Int, (wrap64 (4 * a1)) = j_ := ⟨_, rfl⟩
          replace H : (if 0 ≤ (ji7) then (bits_Hex.j0 k a0 a1 (decide (a0 ≥ (shl .i64 1 (ji7))))) else (none)) = some r := by first | (rw [hji7] at H; exact H) | (simp only [hji7] at H ⊢; exact H)
          have hji7w : (IntKind.i64.wrap (4 * a1)) = ji7 := (i64_w _).trans hji7
          by_cases c8 : 0 ≤ (ji7)
          · rw [if_pos c8] at H
            have c8b0 := eq_true c8
            have c8b1 : decide (0 ≤ (ji7)) = true := decide_eq_true c8
            clear c8
            obtain ⟨ji9, hji9⟩ : ∃ j_ : Int, (shl .i64 1 (ji7)) = j_ := ⟨_, rfl⟩
            replace H : (bits_Hex.j0 k a0 a1 (decide (a0 ≥ (ji9)))) = some r := by first | (rw [hji9] at H; exact H) | (simp only [hji9] at H ⊢; exact H)
            have hji9_ : (IntKind.i64.wrap (1 * 2 ^ min (ji7).toNat 64)) = ji9 := hji9
            have hji9z : (ji7) ≤ 64 → (IntKind.i64.wrap (1 * 2 ^ (ji7).toNat)) = ji9 := shl_small hji9
            have hji9u : (IntKind.i64.wrap (2 ^ min (ji7).toNat 64)) = ji9 := by have h_ := hji9_; rw [Int.one_mul] at h_; exact h_
            have hji9v : (ji7) ≤ 64 → (IntKind.i64.wrap (2 ^ (ji7).toNat)) = ji9 := fun hle_ => by have h_ := hji9z hle_; rw [Int.one_mul] at h_; exact h_
            have hji9y : (wrap64 (1 * 2 ^ min (ji7).toNat 64)) = ji9 := (i64_w _).symm.trans hji9_
            have hji9x : (ji7) ≤ 64 → (wrap64 (1 * 2 ^ (ji7).toNat)) = ji9 := fun h_ => (i64_w _).symm.trans (hji9z h_)
            have H' := Aside0.mk H
            clear H
            go_wp2
            go_meet
            case rel => exact ⟨_, (decide (a0 ≥ (ji9))), (by first | rfl | (simp; done) | (simp only [← hji9] <;> (first | rfl | simp)) | (simp [*]; done)), H', ⟨by first | omega | exact Nat.le_refl _⟩, ⟨by repeat (first | (with_reducible first | exact HB.out | apply below_alloc | apply pw_below_drewN | apply below_drew1) | exact HB.out)⟩⟩
          · rw [if_neg c8] at H
            exact absurd H (by simp)
  case rest =>
    clear HC3
    try clear p2
    try clear c4
    try clear c4b0
    try clear c5
    try clear c5b0
    try clear c6
    try clear c6b0
    try clear p6
    try clear c8
    try clear c8b0
    try clear c8b1
    obtain ⟨kq, x23_2, rfl, HA, HJ2, HB⟩ := hcut
    cases kq with
    | zero => exact absurd HA.out (by simp [bits_Hex.j0])
    | succ kj2 =>
      have H := HA.out
      clear HA
      simp only [bits_Hex.j0] at H
      by_cases c10 : x23_2 = true
      · subst c10
        have H1 : (some (⟨#[]⟩ : ByteArray)) = some r := by rw [if_pos rfl] at H; exact H
        clear H
        have H := H1
        clear H1
        obtain rfl := Option.some.inj H
        go_wp2
        go_ret
        exact ⟨by first | rfl | (simp [errW_none, errW_some] <;> rfl) | (simp [*, errW_none, errW_some] <;> rfl), by repeat (first | (with_reducible first | exact HB.out | apply below_alloc | apply pw_below_drewN | apply below_drew1) | exact HB.out)⟩
      · replace c10 := Bool.eq_false_iff.mpr c10
        subst c10
        have H1 : (if 0 ≤ a1 then (if (a1 : Int).toNat ≤ 281474976710656 then ((some (List.replicate (a1 : Int).toNat 0 : List Int)).bind fun y101 => (bits_Hex.l0 kj2 a0 a1 y101 (y101.length : Int) 0)) else (none)) else (none)) = some r := by rw [if_neg (show ¬ (false = true) by decide)] at H; exact H
        clear H
        have H := H1
        clear H1
        by_cases c11 : 0 ≤ a1
        · rw [if_pos c11] at H
          have c11b0 := eq_true c11
          have c11b1 : decide (0 ≤ a1) = true := decide_eq_true c11
          clear c11
          by_cases c12 : (a1 : Int).toNat ≤ 281474976710656
          · rw [if_pos c12] at H
            have c12b0 := eq_true c12
            have c12b1 : decide ((a1 : Int).toNat ≤ 281474976710656) = true := decide_eq_true c12
            clear c12
            obtain ⟨y101, hy101⟩ : ∃ y_ : List Int, y_ = (List.replicate (a1 : Int).toNat 0) := ⟨_, rfl⟩
            replace H : (bits_Hex.l0 kj2 a0 a1 y101 (y101.length : Int) 0) = some r := by first | (rw [hy101]; with_reducible exact H) | (have H2_ := (Option.bind_some _ _).symm.trans H; rw [hy101]; with_reducible exact H2_) | (have H2_ := (Option.bind_some _ _).symm.trans H; with_reducible exact H2_) | with_reducible exact H | (rw [hy101]; exact H) | exact H
            have Ny101 := Aside0.mk hy101
            clear hy101
            have H' := Aside0.mk H
            clear H
            go_wp2_with (first | ((with_reducible refine gate_dst (N := 25) rfl ?_); refine Kd.R_make (Kd.int .u8) _ 5 rfl (N := 25) rfl 33 _ _ rfl a1 rfl rfl Tryd.underlying33 (.int .u8 0) 1 info5 rfl (by decide) (by omega) 0 (ok := fun _ => True) (okp := fun _ => True) rfl (fun _ hk => hk) trivial (of_decide_eq_true (by first | (with_reducible assumption) | assumption)) (Nat.le_trans (Nat.mul_le_mul_right _ (of_decide_eq_true (by first | (with_reducible assumption) | assumption) : a1.toNat ≤ 281474976710656)) (by omega)) (Below.refl _ _) (Nat.le_refl _) ?_; intro v102 w13 ho14 hb hg_ hnew_; clear hg_ hnew_; (first | rw [← Ny101.out] at ho14 | (simp only [Int.reduceToNat] at ho14; rw [← Ny101.out] at ho14)); have n0_ := Aside0.mk (Kd.R_lower ho14 (below_size (by repeat (first | (with_reducible first | exact HB.out | apply below_alloc | apply pw_below_drewN | apply below_drew1) | exact HB.out)))); have n1_ := Aside0.mk (below_step (by repeat (first | (with_reducible first | exact HB.out | apply below_alloc | apply pw_below_drewN | apply below_drew1) | exact HB.out)) hb); clear HB; have HO103 := n0_; have HB := n1_; clear n0_ n1_; clear hb ho14; obtain ⟨Ao15, co15, eo15⟩ := Kd.R_slice HO103.out; subst eo15))
            go_loopg [0, 28] kj2 (fun kq v0 v28 w' => ∃ (x0_2 : Int) (x5_2 : List Int) (x28_2 : Int), v0 = .int .i64 x0_2 ∧ v28 = .int .i64 x28_2 ∧ Aside0 (bits_Hex.l0 kq x0_2 a1 x5_2 (y101.length : Int) x28_2 = some r) ∧ Aside0 (kq ≤ kj2) ∧ Aside0 (Kd.R (Kd.int .u8) 5 w' w.heap.size (fun _ => True) (.slice Ao15 y101.length co15) x5_2) ∧ Aside0 (Below w.heap.size w w'))
            case atStart => exact ⟨(a0), (y101), (0), (by first | rfl | (simp; done) | (simp [*]; done)), (by first | rfl | (simp; done) | (simp [*]; done)), H', ⟨Nat.le_refl _⟩, ⟨by (with_reducible repeat (first | apply Kd.R_alloc | apply Kd.R_drewN | apply Kd.R_drew)); exact HO103.out⟩, ⟨by repeat (first | (with_reducible first | exact HB.out | apply below_alloc | apply pw_below_drewN | apply below_drew1) | exact HB.out)⟩⟩
            case round =>
              clear H'
              try clear c1
              try clear p2
              try clear c4
              try clear c4b0
              try clear c5
              try clear c5b0
              try clear c6
              try clear c6b0
              try clear p6
              try clear c8
              try clear c8b0
              try clear c8b1
              try clear c10
              try clear c11
              try clear c11b0
              try clear c11b1
              try clear c12
              try clear c12b0
              try clear c12b1
              try clear p2
              try clear p6
              obtain ⟨x0_2, x5_2, x28_2, rfl, rfl, HA, HK2, HO_5, HB⟩ := hrel
              have hl5_2 := (Kd.R_reads' HO_5.out).1
              rw [hl5_2] at HO_5
              (try simp only [hl5_2])
              cases gk with
              | zero => exact absurd HA.out (by simp [bits_Hex.l0])
              | succ k2 =>
                have H := HA.out
                clear HA
                simp only [bits_Hex.l0] at H
                by_cases c16 : x28_2 < (y101.length : Int)
                · rw [if_pos c16] at H
                  have c16b0 : decide (x28_2 < (y101.length : Int)) = true := decide_eq_true c16
                  have c16q : decide (x28_2 < ((x5_2.length : Nat) : Int)) = true := by rw [← hl5_2]; exact c16b0
                  clear c16
                  by_cases c17 : 0 ≤ (Go.bits .and .i64 x0_2 15)
                  · rw [if_pos c17] at H
                    have c17b0 : decide (0 ≤ (Go.bits .and .i64 x0_2 15)) = true := decide_eq_true c17
                    clear c17
                    by_cases c18 : (Go.bits .and .i64 x0_2 15) < 16
                    · rw [if_pos c18] at H
                      have c18b0 : decide ((Go.bits .and .i64 x0_2 15) < 16) = true := decide_eq_true c18
                      clear c18
                      obtain ⟨ji20, hji20⟩ : ∃ j_ : Int, (wrap64 ((wrap64 (a1 - 1)) - x28_2)) = j_ := ⟨_, rfl⟩
                      replace H : (if 0 ≤ (ji20) then (if (ji20) < (x5_2.length : Int) then (bits_Hex.l0 k2 (x0_2 / 16) a1 (x5_2.set ((ji20) : Int).toNat (bt (⟨#[48, 49, 50, 51, 52, 53, 54, 55, 56, 57, 97, 98, 99, 100, 101, 102]⟩ : ByteArray) (Go.bits .and .i64 x0_2 15))) (y101.length : Int) (wrap64 (x28_2 + 1))) else (none)) else (none)) = some r := by first | (rw [hji20] at H; exact H) | (simp only [hji20] at H ⊢; exact H)
                      have hji20w : (IntKind.i64.wrap ((wrap64 (a1 - 1)) - x28_2)) = ji20 := (i64_w _).trans hji20
                      by_cases c21 : 0 ≤ (ji20)
                      · rw [if_pos c21] at H
                        have c21b0 : decide (0 ≤ (ji20)) = true := decide_eq_true c21
                        clear c21
                        by_cases c22 : (ji20) < (x5_2.length : Int)
                        · rw [if_pos c22] at H
                          have c22b0 : decide ((ji20) < (x5_2.length : Int)) = true := decide_eq_true c22
                          clear c22
                          obtain ⟨y104, hy104⟩ : ∃ y_ : List Int, y_ = (x5_2.set ((ji20) : Int).toNat (bt (⟨#[48, 49, 50, 51, 52, 53, 54, 55, 56, 57, 97, 98, 99, 100, 101, 102]⟩ : ByteArray) (Go.bits .and .i64 x0_2 15))) := ⟨_, rfl⟩
                          replace H : (bits_Hex.l0 k2 (x0_2 / 16) a1 y104 (y101.length : Int) (wrap64 (x28_2 + 1))) = some r := by first | (rw [hy104]; with_reducible exact H) | (have H2_ := (Option.bind_some _ _).symm.trans H; rw [hy104]; with_reducible exact H2_) | (have H2_ := (Option.bind_some _ _).symm.trans H; with_reducible exact H2_) | with_reducible exact H | (rw [hy104]; exact H) | exact H
                          have Ny104 := Aside0.mk hy104
                          clear hy104
                          have H' := Aside0.mk H
                          clear H
                          have p19 : 0 ≤ ((Go.bits .and .i64 x0_2 15) : Int) := of_decide_eq_true (by first | (with_reducible assumption) | assumption)
                          have q19 : (Go.bits .and .i64 x0_2 15) < (16 : Int) := of_decide_eq_true (by first | (with_reducible assumption) | assumption)
                          have hx19 := bt_at (⟨#[48, 49, 50, 51, 52, 53, 54, 55, 56, 57, 97, 98, 99, 100, 101, 102]⟩ : ByteArray) (Go.bits .and .i64 x0_2 15)
                          replace p19 := eq_true p19
                          replace q19 := eq_true q19
                          have p23 : 0 ≤ ((ji20) : Int) := of_decide_eq_true (by first | (with_reducible assumption) | assumption)
                          have q23 : ((ji20) : Int) < ((x5_2.length : Int) : Int) := of_decide_eq_true (by first | (with_reducible assumption) | assumption)
                          obtain ⟨go23, co23, eo23, gb23, gl23, cl23, HG23⟩ := Kd.R_form HO_5.out (by omega)
                          (first | cases eo23 | (injection eo23 with ea_ en_ ec_; (first | subst ea_ | (injection ea_ with ea_; subst ea_)); subst ec_; clear en_))
                          have GB23 := Aside0.mk gb23
                          have GG23 := Aside0.mk HG23
                          clear gb23 gl23 HG23
                          obtain ⟨hx23_0, hf23_0⟩ := Kd.R_celln 0 HO_5.out ((ji20) : Int) p23 q23
                          replace p23 := eq_true p23
                          replace q23 := eq_true q23
                          have HP24 := Kd.R_putg HO_5.out ((ji20) : Int) (bt (⟨#[48, 49, 50, 51, 52, 53, 54, 55, 56, 57, 97, 98, 99, 100, 101, 102]⟩ : ByteArray) (Go.bits .and .i64 x0_2 15))
                          go_wp2_with (first | ((with_reducible refine gate_store (t := 5) (p := 39) rfl ?_); refine store_event (t := 5) (p := 39) (v := ?vo_w25) (w1 := (wr.setCell ⟨go23, ((ji20) : Int).toNat, none⟩ (.int .u8 (bt (⟨#[48, 49, 50, 51, 52, 53, 54, 55, 56, 57, 97, 98, 99, 100, 101, 102]⟩ : ByteArray) (Go.bits .and .i64 x0_2 15))))) ?hg ?ho ?hn ?hr ?_; (case ho => rfl); (case hg => rfl); (case hn => rfl); (case hr => first | (go_simp; done) | (go_simp; rfl)); intro w25 hw; have hg : wr.grownBy w25 (some go23) := (by rw [hw]; exact HP24.2); have hp_ : Kd.R (Kd.int .u8) 5 w25 w.heap.size (fun _ => True) (.slice (some ⟨go23, 0, none⟩) x5_2.length co15) y104 := (by rw [hw, Ny104.out]; exact HP24.1); clear HP24; have n0_ := Aside0.mk (hp_); have n1_ := Aside0.mk ((by rw [hw]; exact below_set (HB.out) GB23.out : Below w.heap.size w w25)); clear HO_5; clear HB; have HO_5 := n0_; have HB := n1_; clear n0_ n1_; clear hg hw hp_))
                          (try simp only [← hl5_2])
                          go_roundg k2
                          case measure => have := HJ2.out; have := HK2.out; omega
                          case rel => exact ⟨(x0_2 / 16), (y104), (wrap64 (x28_2 + 1)), (by first | rfl | (simp; done) | (simp [*]; done)), (by first | rfl | (simp; done) | (simp [*]; done)), H', ⟨by have := HJ2.out; have := HK2.out; omega⟩, ⟨by (try simp only [hl5_2]); (with_reducible repeat (first | apply Kd.R_alloc | apply Kd.R_drewN | apply Kd.R_drew)); exact HO_5.out⟩, ⟨by repeat (first | (with_reducible first | exact HB.out | apply below_alloc | apply pw_below_drewN | apply below_drew1) | exact HB.out)⟩⟩
                        · rw [if_neg c22] at H
                          exact absurd H (by simp)
                      · rw [if_neg c21] at H
                        exact absurd H (by simp)
                    · rw [if_neg c18] at H
                      exact absurd H (by simp)
                  · rw [if_neg c17] at H
                    exact absurd H (by simp)
                · rw [if_neg c16] at H
                  have c16b0 : decide (x28_2 < (y101.length : Int)) = false := decide_eq_false c16
                  have c16q : decide (x28_2 < ((x5_2.length : Nat) : Int)) = false := by rw [← hl5_2]; exact c16b0
                  clear c16
                  obtain rfl := Option.some.inj H
                  have hcv26 := own_string (P := Tryd.prog) Tryd.underlying33 Tryd.underlying5 Tryd.underlying9 (Kd.own_of_R HO_5.out)
                  go_wp2
                  go_ret
                  exact ⟨by first | rfl | (simp [errW_none, errW_some] <;> rfl) | (simp [*, errW_none, errW_some] <;> rfl), by repeat (first | (with_reducible first | exact HB.out | apply below_alloc | apply pw_below_drewN | apply below_drew1) | exact HB.out)⟩
          · rw [if_neg c12] at H
            exact absurd H (by simp)
        · rw [if_neg c11] at H
          exact absurd H (by simp)
end Go.Proofs.YthnafgffanlnfaaDoor.PSrc
namespace Go.Proofs.YthnafgffanlnfaaDoor.PSrc
open Go.RowKit Go.Proofs.YthnafgffanlnfaaDoorW.PrintWords Go.Proofs.YthnafgffanlnfaaDoorW.PrintLast Go.Proofs.YthnafgffanlnfaaDoorW.PrintMore
attribute [local go_sem] max2_int min2_int max_two min_two max_three min_three max_four min_four   -- for this text's walks alone
set_option linter.unusedVariables false
set_option linter.unusedSimpArgs false
def code_Print.f (k : Nat) (a0_0 : ByteArray) (a0_1 : Int) : Option (ByteArray × Int) := (code_Encode.f k a0_0 a0_1).bind fun bt102 => (if bt102.2 = 0 then ((code_Find.f k a0_0).bind fun bt106 => (if bt106.2.1 = 1 then (some (a0_0, 0)) else (if a0_0.size + 1 ≤ 9223372036854775807 then (if 0 ≤ bt106.2.1 then (if bt106.2.1 < 7 then ((bits_Hex.f k a0_1 (rd digitsT bt106.2.1)).bind fun t113 => (if (a0_0 ++ (⟨#[32]⟩ : ByteArray)).size + t113.size ≤ 9223372036854775807 then (some ((a0_0 ++ (⟨#[32]⟩ : ByteArray)) ++ t113, 0)) else (none))) else (none)) else (none)) else (none)))) else (some ((⟨#[]⟩ : ByteArray), bt102.2)))
theorem code_Print.mono : ∀ a0 a1 k, LeO (code_Print.f k a0 a1) (code_Print.f (k + 1) a0 a1) := by
  intro a0 a1 k
  unfold code_Print.f
  repeat' first
      | (with_reducible exact bits_Hex.mono _ _ _)
      | (with_reducible exact code_Encode.mono _ _ _)
      | (with_reducible exact code_Find.mono _ _)
      | (with_reducible exact LeO.refl _)
      | (with_reducible exact LeO.none _)
      | (with_reducible refine LeO.ite ?_ ?_)
      | (with_reducible refine LeO.bind ?_ (fun _ => ?_))
      | exact bits_Hex.mono _ _ _
      | exact code_Encode.mono _ _ _
      | exact code_Find.mono _ _
      | exact LeO.none _
      | refine LeO.ite ?_ ?_
      | refine LeO.bind ?_ (fun _ => ?_)
def code_Print.T7 : Bool × List (List Nat × List Nat) := (true, [([], []), ([0], [0]), ([1], [1]), ([], []), ([3], [3]), ([], []), ([5], [5]), ([6], [6]), ([7], [7]), ([4, 8], [4, 8]), ([2, 9], [2, 9]), ([10, 9, 0, 1, 2, 3, 4, 5, 6, 7, 8, 9, 10], [10]), ([11, 0, 1, 2, 3, 4, 5, 6, 7, 8, 9, 10, 11], [])])
def code_Print.B7 : List Nat := [0, 1, 3, 0, 8, 0, 32, 96, 224, 504, 1023, 2047, 4095]
theorem code_Print.tab7 : rtab .any (opsOf Tryd.f88 7) = code_Print.T7 := by kernel_rfl
theorem code_Print.bits7 : waitsOk code_Print.T7.2 code_Print.B7 = true := by kernel_rfl
set_option maxHeartbeats 8000000 in
set_option maxRecDepth 100000 in
theorem code_Print.calls (k : Nat) (a0_0 : ByteArray) (a0_1 : Int) (r1 : ByteArray) (r2 : Int) (w : World) (HG0 : Gd w) (h : code_Print.f k a0_0 a0_1 = some (r1, r2)) :
    Calls Tryd.prog 88 #[.agg #[.string a0_0, .int .i64 a0_1]] w fun e w' => e = .returned (.tuple #[.string r1, .int .i64 r2]) ∧ Below w.heap.size w w' := by
  have hu132 := Tryd.underlying132
  have hu114 := Tryd.underlying114
  have HG := Aside0.mk HG0
  clear HG0
  have HRt0 := Aside0.mk (kd_digits HG.out)
  have HCt0 := Aside0.mk (Nat.le_refl 7)
  have HB := Aside0.mk (Below.refl w.heap.size w)
  have H : ((code_Encode.f k a0_0 a0_1).bind fun bt102 => (if bt102.2 = 0 then ((code_Find.f k a0_0).bind fun bt106 => (if bt106.2.1 = 1 then (some (a0_0, 0)) else (if a0_0.size + 1 ≤ 9223372036854775807 then (if 0 ≤ bt106.2.1 then (if bt106.2.1 < 7 then ((bits_Hex.f k a0_1 (rd digitsT bt106.2.1)).bind fun t113 => (if (a0_0 ++ (⟨#[32]⟩ : ByteArray)).size + t113.size ≤ 9223372036854775807 then (some ((a0_0 ++ (⟨#[32]⟩ : ByteArray)) ++ t113, 0)) else (none))) else (none)) else (none)) else (none)))) else (some ((⟨#[]⟩ : ByteArray), bt102.2)))) = some (r1, r2) := h
  clear h
  obtain ⟨tTab0, hTab0⟩ : ∃ l_, l_ = digitsT := ⟨_, rfl⟩
  (try simp only [← hTab0] at H)
  rw [← hTab0] at HRt0
  have HTab0 := Aside0.mk hTab0
  clear hTab0
  replace H := Option.bind_eq_some_iff.mp H
  obtain ⟨⟨t102, t105⟩, A20, H⟩ := H
  replace H : (if t105 = 0 then ((code_Find.f k a0_0).bind fun bt106 => (if bt106.2.1 = 1 then (some (a0_0, 0)) else (if a0_0.size + 1 ≤ 9223372036854775807 then (if 0 ≤ bt106.2.1 then (if bt106.2.1 < 7 then ((bits_Hex.f k a0_1 (rd tTab0 bt106.2.1)).bind fun t113 => (if (a0_0 ++ (⟨#[32]⟩ : ByteArray)).size + t113.size ≤ 9223372036854775807 then (some ((a0_0 ++ (⟨#[32]⟩ : ByteArray)) ++ t113, 0)) else (none))) else (none)) else (none)) else (none)))) else (some ((⟨#[]⟩ : ByteArray), t105))) = some (r1, r2) := H
  have A2 := Aside0.mk A20
  clear A20
  by_cases c3 : t105 = 0
  · rw [if_pos c3] at H
    have c3b0 : (t105 == 0) = true := beq_iff_eq.mpr c3
    have c3b1 : (t105 != 0) = false := bne_eq_false_iff_eq.mpr c3
    clear c3
    replace H := Option.bind_eq_some_iff.mp H
    obtain ⟨⟨t106, t107, t108, t109, t110⟩, A40, H⟩ := H
    replace H : (if t107 = 1 then (some (a0_0, 0)) else (if a0_0.size + 1 ≤ 9223372036854775807 then (if 0 ≤ t107 then (if t107 < 7 then ((bits_Hex.f k a0_1 (rd tTab0 t107)).bind fun t113 => (if (a0_0 ++ (⟨#[32]⟩ : ByteArray)).size + t113.size ≤ 9223372036854775807 then (some ((a0_0 ++ (⟨#[32]⟩ : ByteArray)) ++ t113, 0)) else (none))) else (none)) else (none)) else (none))) = some (r1, r2) := H
    have A4 := Aside0.mk A40
    clear A40
    by_cases c5 : t107 = 1
    · rw [if_pos c5] at H
      have c5b0 : (t107 == 1) = true := beq_iff_eq.mpr c5
      have c5b1 : (t107 != 1) = false := bne_eq_false_iff_eq.mpr c5
      clear c5
      simp only [Option.some.injEq, Prod.mk.injEq] at H
      obtain ⟨rfl, rfl⟩ := H
      go_enter Tryd.func88, Tryd.ntmps88
      go_wp2_with (first | ((with_reducible refine gate_dst (N := 1) rfl ?_); refine box_event ?hg (N := 1) ?hd (cs := #[.string a0_0, .int .i64 a0_1]) (t := 132) ?hr ?_; (case hd => rfl); (case hg => rfl); (case hr => first | (go_simp; done) | (go_simp; rfl)); intro gb101 hg w6 hbox hb; have n0_ := Aside0.mk (below_step (by repeat (first | (with_reducible first | exact HB.out | apply below_alloc | apply pw_below_drewN | apply below_drew1) | exact HB.out)) hb); have n1_ := Aside0.mk (hbox); have n2_ := Aside0.mk ((by rw [hg]; exact (below_size (by repeat (first | (with_reducible first | exact HB.out | apply below_alloc | apply pw_below_drewN | apply below_drew1) | exact HB.out))) : w.heap.size ≤ gb101)); have n3_ := Aside0.mk ((by rw [hg]; exact (below_size (by repeat (first | (with_reducible first | exact HB.out | apply below_alloc | apply pw_below_drewN | apply below_drew1) | exact HB.out))) : w.heap.size ≤ gb101)); clear HB; have HB := n0_; have BK101 := n1_; have GW101 := n2_; have GE101 := n3_; clear n0_ n1_ n2_ n3_; clear hb hbox hg; have hcz7_0 : w6.cell? ⟨gb101, 0, none⟩ = some (.string a0_0) := (blk_cell BK101.out 0).trans rfl; have hcz7_1 : w6.cell? ⟨gb101, 1, none⟩ = some (.int .i64 a0_1) := (blk_cell BK101.out 1).trans rfl; have hfz7_0 := blk_frozen BK101.out 0; have hfz7_1 := blk_frozen BK101.out 1) | ((with_reducible refine gate_callee (f := 110) rfl ?_); refine goesL_ (some 10) rfl rfl Tryd.func110 (by kernel_rfl) rfl #[.agg #[.string a0_0, .int .i64 a0_1]] rfl (by (try simp only [List.map_toArray, List.map_cons, List.map_nil]); first | done | rfl | (simp only [List.length_drop, List.length_take]; rfl)) ?_; (with_reducible refine (code_Encode.calls k a0_0 a0_1 t102 t105 _ ?side1 A2.out).mono ?_); (case side1 => first | (with_reducible exact HG.out.gl) | (with_reducible exact (HG.out.gl).below HB.out) | (with_reducible exact (HG.out.gl).same World.heap_drewN) | (refine (HG.out.gl).below ?_; (repeat (first | (with_reducible first | exact HB.out | apply below_alloc | apply pw_below_drewN | apply below_drew1 | refine below_set ?_ GE101.out) | exact HB.out)); done) | exact (HG.out.gl).same rfl); rintro e w8 ⟨v103, rfl, ho0, hb⟩; refine ⟨_, rfl, ?_⟩; have n0_ := Aside0.mk (Kd.R_lower ho0 (below_size (by repeat (first | (with_reducible first | exact HB.out | apply below_alloc | apply pw_below_drewN | apply below_drew1 | refine below_set ?_ GE101.out) | exact HB.out)))); have n1_ := Aside0.mk (blk_below (g := gb101) (o := .cells #[.string a0_0, .int .i64 a0_1] 132 (0, 0)) (by (with_reducible repeat (first | refine blk_drewN ?_ _ | refine blk_drew ?_ | refine blk_alloc ?_ _)); exact BK101.out) hb); have n2_ := Aside0.mk (below_step (by repeat (first | (with_reducible first | exact HB.out | apply below_alloc | apply pw_below_drewN | apply below_drew1 | refine below_set ?_ GE101.out) | exact HB.out)) hb); clear BK101; clear HB; have HO104 := n0_; have BK101 := n1_; have HB := n2_; clear n0_ n1_ n2_; (try clear hb); (try clear hb2); (try clear hk); (try clear hi); (try clear ho0); have hcz9_0 : w8.cell? ⟨gb101, 0, none⟩ = some (.string a0_0) := (blk_cell BK101.out 0).trans rfl; have hcz9_1 : w8.cell? ⟨gb101, 1, none⟩ = some (.int .i64 a0_1) := (blk_cell BK101.out 1).trans rfl; have hfz9_0 := blk_frozen BK101.out 0; have hfz9_1 := blk_frozen BK101.out 1) | ((with_reducible refine gate_callee (f := 62) rfl ?_); refine goesL_ (some 19) rfl rfl Tryd.func62 (by kernel_rfl) rfl #[.string a0_0] rfl (by (try simp only [List.map_toArray, List.map_cons, List.map_nil]); first | done | rfl | (simp only [List.length_drop, List.length_take]; rfl)) ?_; (with_reducible refine (code_Find.calls k a0_0 t106 t107 t108 t109 t110 _ ?side1 A4.out).mono ?_); (case side1 => first | (with_reducible exact HG.out.gl) | (with_reducible exact (HG.out.gl).below HB.out) | (with_reducible exact (HG.out.gl).same World.heap_drewN) | (refine (HG.out.gl).below ?_; (repeat (first | (with_reducible first | exact HB.out | apply below_alloc | apply pw_below_drewN | apply below_drew1 | refine below_set ?_ GE101.out) | exact HB.out)); done) | exact (HG.out.gl).same rfl); rintro e w10 ⟨rfl, hb⟩; refine ⟨_, rfl, ?_⟩; have n0_ := Aside0.mk (Kd.R_below (by (with_reducible repeat (first | apply Kd.R_alloc | apply Kd.R_drewN | apply Kd.R_drew)); exact HO104.out) hb); have n1_ := Aside0.mk (blk_below (g := gb101) (o := .cells #[.string a0_0, .int .i64 a0_1] 132 (0, 0)) (by (with_reducible repeat (first | refine blk_drewN ?_ _ | refine blk_drew ?_ | refine blk_alloc ?_ _)); exact BK101.out) hb); have n2_ := Aside0.mk (below_step (by repeat (first | (with_reducible first | exact HB.out | apply below_alloc | apply pw_below_drewN | apply below_drew1 | refine below_set ?_ GE101.out) | exact HB.out)) hb); clear HO104; clear BK101; clear HB; have HO104 := n0_; have BK101 := n1_; have HB := n2_; clear n0_ n1_ n2_; (try clear hb); (try clear hb2); (try clear hk); (try clear hi)) | ((with_reducible refine gate_dst (N := 6) rfl ?_); refine box_event ?hg (N := 6) ?hd (cs := #[.string (⟨#[]⟩ : ByteArray), .int .u8 0, .int .i64 0, .int .i64 0]) (t := 114) ?hr ?_; (case hd => rfl); (case hg => rfl); (case hr => first | (go_simp; done) | (go_simp; rfl)); intro gb111 hg w11 hbox hb; have n0_ := Aside0.mk (Kd.R_below (by (with_reducible repeat (first | apply Kd.R_alloc | apply Kd.R_drewN | apply Kd.R_drew)); exact HO104.out) hb); have n1_ := Aside0.mk (blk_below (g := gb101) (o := .cells #[.string a0_0, .int .i64 a0_1] 132 (0, 0)) (by (with_reducible repeat (first | refine blk_drewN ?_ _ | refine blk_drew ?_ | refine blk_alloc ?_ _)); exact BK101.out) hb); have n2_ := Aside0.mk (below_step (by repeat (first | (with_reducible first | exact HB.out | apply below_alloc | apply pw_below_drewN | apply below_drew1 | refine below_set ?_ GE101.out) | exact HB.out)) hb); have n3_ := Aside0.mk (hbox); have n4_ := Aside0.mk ((by rw [hg]; exact (below_size (by repeat (first | (with_reducible first | exact HB.out | apply below_alloc | apply pw_below_drewN | apply below_drew1 | refine below_set ?_ GE101.out) | exact HB.out))) : w.heap.size ≤ gb111)); have n5_ := Aside0.mk ((by rw [hg]; exact (below_size (by repeat (first | (with_reducible first | exact HB.out | apply below_alloc | apply pw_below_drewN | apply below_drew1 | refine below_set ?_ GE101.out) | exact HB.out))) : w.heap.size ≤ gb111)); have n6_ := Aside0.mk ((by rw [hg]; exact Nat.ne_of_lt (blk_lt (g := gb101) (o := .cells #[.string a0_0, .int .i64 a0_1] 132 (0, 0)) (by (with_reducible repeat (first | refine blk_drewN ?_ _ | refine blk_drew ?_ | refine blk_alloc ?_ _)); exact BK101.out)) : gb101 ≠ gb111)); have n7_ := Aside0.mk ((by rw [hg]; exact Nat.ne_of_gt (blk_lt (g := gb101) (o := .cells #[.string a0_0, .int .i64 a0_1] 132 (0, 0)) (by (with_reducible repeat (first | refine blk_drewN ?_ _ | refine blk_drew ?_ | refine blk_alloc ?_ _)); exact BK101.out)) : gb111 ≠ gb101)); clear HO104; clear BK101; clear HB; have HO104 := n0_; have BK101 := n1_; have HB := n2_; have BK111 := n3_; have GW111 := n4_; have GE111 := n5_; have NB101_111 := n6_; have NB111_101 := n7_; clear n0_ n1_ n2_ n3_ n4_ n5_ n6_ n7_; clear hb hbox hg; have hnb12 := NB111_101.out; have hnc12 := NB101_111.out; have hcz13_0 : w11.cell? ⟨gb111, 0, none⟩ = some (.string (⟨#[]⟩ : ByteArray)) := (blk_cell BK111.out 0).trans rfl; have hcz13_1 : w11.cell? ⟨gb111, 1, none⟩ = some (.int .u8 0) := (blk_cell BK111.out 1).trans rfl; have hcz13_2 : w11.cell? ⟨gb111, 2, none⟩ = some (.int .i64 0) := (blk_cell BK111.out 2).trans rfl; have hcz13_3 : w11.cell? ⟨gb111, 3, none⟩ = some (.int .i64 0) := (blk_cell BK111.out 3).trans rfl; have hfz13_0 := blk_frozen BK111.out 0; have hfz13_1 := blk_frozen BK111.out 1; have hfz13_2 := blk_frozen BK111.out 2; have hfz13_3 := blk_frozen BK111.out 3; have hcz14_0 : w11.cell? ⟨gb101, 0, none⟩ = some (.string a0_0) := (blk_cell BK101.out 0).trans rfl; have hcz14_1 : w11.cell? ⟨gb101, 1, none⟩ = some (.int .i64 a0_1) := (blk_cell BK101.out 1).trans rfl; have hfz14_0 := blk_frozen BK101.out 0; have hfz14_1 := blk_frozen BK101.out 1))
      go_ret2
      exact ⟨by first | rfl | (simp [errW_none, errW_some] <;> rfl) | (simp [*, errW_none, errW_some] <;> rfl), by repeat (first | (with_reducible first | exact HB.out | apply below_alloc | apply pw_below_drewN | apply below_drew1 | refine below_set ?_ GE101.out | refine below_set ?_ GE111.out) | exact HB.out)⟩
    · rw [if_neg c5] at H
      have c5b0 : (t107 == 1) = false := beq_eq_false_iff_ne.mpr c5
      have c5b1 : (t107 != 1) = true := bne_iff_ne.mpr c5
      by_cases c15 : a0_0.size + 1 ≤ 9223372036854775807
      · rw [if_pos c15] at H
        have c15b0 := eq_true c15
        have c15b1 : decide (a0_0.size + 1 ≤ 9223372036854775807) = true := decide_eq_true c15
        try have c15b2 : (9223372036854775807 < a0_0.size + 1) = False := eq_false (Nat.not_lt.2 c15)
        by_cases c16 : 0 ≤ t107
        · rw [if_pos c16] at H
          have c16b0 : decide (0 ≤ t107) = true := decide_eq_true c16
          clear c16
          by_cases c17 : t107 < 7
          · rw [if_pos c17] at H
            have c17b0 : decide (t107 < 7) = true := decide_eq_true c17
            clear c17
            replace H := Option.bind_eq_some_iff.mp H
            obtain ⟨t113, A180, H⟩ := H
            replace H : (if (a0_0 ++ (⟨#[32]⟩ : ByteArray)).size + t113.size ≤ 9223372036854775807 then (some ((a0_0 ++ (⟨#[32]⟩ : ByteArray)) ++ t113, 0)) else (none)) = some (r1, r2) := H
            have A18 := Aside0.mk A180
            clear A180
            by_cases c19 : (a0_0 ++ (⟨#[32]⟩ : ByteArray)).size + t113.size ≤ 9223372036854775807
            · rw [if_pos c19] at H
              have c19b0 := eq_true c19
              have c19b1 : decide ((a0_0 ++ (⟨#[32]⟩ : ByteArray)).size + t113.size ≤ 9223372036854775807) = true := decide_eq_true c19
              try have c19b2 : (9223372036854775807 < (a0_0 ++ (⟨#[32]⟩ : ByteArray)).size + t113.size) = False := eq_false (Nat.not_lt.2 c19)
              have c19b3 : (9223372036854775807 < a0_0.size + 1 + t113.size) = False := eq_false (Nat.not_lt.2 (Nat.le_trans (Nat.le_of_eq (by simp only [ByteArray.size_append]; rfl)) c19))
              simp only [Option.some.injEq, Prod.mk.injEq] at H
              obtain ⟨rfl, rfl⟩ := H
              go_enter Tryd.func88, Tryd.ntmps88
              try go_wp2_with (first | ((with_reducible refine gate_dst (N := 1) rfl ?_); refine box_event ?hg (N := 1) ?hd (cs := #[.string a0_0, .int .i64 a0_1]) (t := 132) ?hr ?_; (case hd => rfl); (case hg => rfl); (case hr => first | (go_simp; done) | (go_simp; rfl)); intro gb101 hg w20 hbox hb; have n0_ := Aside0.mk (below_step (by repeat (first | (with_reducible first | exact HB.out | apply below_alloc | apply pw_below_drewN | apply below_drew1) | exact HB.out)) hb); have n1_ := Aside0.mk (hbox); have n2_ := Aside0.mk ((by rw [hg]; exact (below_size (by repeat (first | (with_reducible first | exact HB.out | apply below_alloc | apply pw_below_drewN | apply below_drew1) | exact HB.out))) : w.heap.size ≤ gb101)); have n3_ := Aside0.mk ((by rw [hg]; exact (below_size (by repeat (first | (with_reducible first | exact HB.out | apply below_alloc | apply pw_below_drewN | apply below_drew1) | exact HB.out))) : w.heap.size ≤ gb101)); clear HB; have HB := n0_; have BK101 := n1_; have GW101 := n2_; have GE101 := n3_; clear n0_ n1_ n2_ n3_; clear hb hbox hg; have hcz21_0 : w20.cell? ⟨gb101, 0, none⟩ = some (.string a0_0) := (blk_cell BK101.out 0).trans rfl; have hcz21_1 : w20.cell? ⟨gb101, 1, none⟩ = some (.int .i64 a0_1) := (blk_cell BK101.out 1).trans rfl; have hfz21_0 := blk_frozen BK101.out 0; have hfz21_1 := blk_frozen BK101.out 1) | ((with_reducible refine gate_callee (f := 110) rfl ?_); refine goesL_ (some 10) rfl rfl Tryd.func110 (by kernel_rfl) rfl #[.agg #[.string a0_0, .int .i64 a0_1]] rfl (by (try simp only [List.map_toArray, List.map_cons, List.map_nil]); first | done | rfl | (simp only [List.length_drop, List.length_take]; rfl)) ?_; (with_reducible refine (code_Encode.calls k a0_0 a0_1 t102 t105 _ ?side1 A2.out).mono ?_); (case side1 => first | (with_reducible exact HG.out.gl) | (with_reducible exact (HG.out.gl).below HB.out) | (with_reducible exact (HG.out.gl).same World.heap_drewN) | (refine (HG.out.gl).below ?_; (repeat (first | (with_reducible first | exact HB.out | apply below_alloc | apply pw_below_drewN | apply below_drew1 | refine below_set ?_ GE101.out) | exact HB.out)); done) | exact (HG.out.gl).same rfl); rintro e w22 ⟨v103, rfl, ho0, hb⟩; refine ⟨_, rfl, ?_⟩; have n0_ := Aside0.mk (Kd.R_lower ho0 (below_size (by repeat (first | (with_reducible first | exact HB.out | apply below_alloc | apply pw_below_drewN | apply below_drew1 | refine below_set ?_ GE101.out) | exact HB.out)))); have n1_ := Aside0.mk (blk_below (g := gb101) (o := .cells #[.string a0_0, .int .i64 a0_1] 132 (0, 0)) (by (with_reducible repeat (first | refine blk_drewN ?_ _ | refine blk_drew ?_ | refine blk_alloc ?_ _)); exact BK101.out) hb); have n2_ := Aside0.mk (below_step (by repeat (first | (with_reducible first | exact HB.out | apply below_alloc | apply pw_below_drewN | apply below_drew1 | refine below_set ?_ GE101.out) | exact HB.out)) hb); clear BK101; clear HB; have HO104 := n0_; have BK101 := n1_; have HB := n2_; clear n0_ n1_ n2_; (try clear hb); (try clear hb2); (try clear hk); (try clear hi); (try clear ho0); have hcz23_0 : w22.cell? ⟨gb101, 0, none⟩ = some (.string a0_0) := (blk_cell BK101.out 0).trans rfl; have hcz23_1 : w22.cell? ⟨gb101, 1, none⟩ = some (.int .i64 a0_1) := (blk_cell BK101.out 1).trans rfl; have hfz23_0 := blk_frozen BK101.out 0; have hfz23_1 := blk_frozen BK101.out 1) | ((with_reducible refine gate_callee (f := 62) rfl ?_); refine goesL_ (some 19) rfl rfl Tryd.func62 (by kernel_rfl) rfl #[.string a0_0] rfl (by (try simp only [List.map_toArray, List.map_cons, List.map_nil]); first | done | rfl | (simp only [List.length_drop, List.length_take]; rfl)) ?_; (with_reducible refine (code_Find.calls k a0_0 t106 t107 t108 t109 t110 _ ?side1 A4.out).mono ?_); (case side1 => first | (with_reducible exact HG.out.gl) | (with_reducible exact (HG.out.gl).below HB.out) | (with_reducible exact (HG.out.gl).same World.heap_drewN) | (refine (HG.out.gl).below ?_; (repeat (first | (with_reducible first | exact HB.out | apply below_alloc | apply pw_below_drewN | apply below_drew1 | refine below_set ?_ GE101.out) | exact HB.out)); done) | exact (HG.out.gl).same rfl); rintro e w24 ⟨rfl, hb⟩; refine ⟨_, rfl, ?_⟩; have n0_ := Aside0.mk (Kd.R_below (by (with_reducible repeat (first | apply Kd.R_alloc | apply Kd.R_drewN | apply Kd.R_drew)); exact HO104.out) hb); have n1_ := Aside0.mk (blk_below (g := gb101) (o := .cells #[.string a0_0, .int .i64 a0_1] 132 (0, 0)) (by (with_reducible repeat (first | refine blk_drewN ?_ _ | refine blk_drew ?_ | refine blk_alloc ?_ _)); exact BK101.out) hb); have n2_ := Aside0.mk (below_step (by repeat (first | (with_reducible first | exact HB.out | apply below_alloc | apply pw_below_drewN | apply below_drew1 | refine below_set ?_ GE101.out) | exact HB.out)) hb); clear HO104; clear BK101; clear HB; have HO104 := n0_; have BK101 := n1_; have HB := n2_; clear n0_ n1_ n2_; (try clear hb); (try clear hb2); (try clear hk); (try clear hi)) | ((with_reducible refine gate_dst (N := 6) rfl ?_); refine box_event ?hg (N := 6) ?hd (cs := #[.string (⟨#[]⟩ : ByteArray), .int .u8 0, .int .i64 0, .int .i64 0]) (t := 114) ?hr ?_; (case hd => rfl); (case hg => rfl); (case hr => first | (go_simp; done) | (go_simp; rfl)); intro gb111 hg w25 hbox hb; have n0_ := Aside0.mk (Kd.R_below (by (with_reducible repeat (first | apply Kd.R_alloc | apply Kd.R_drewN | apply Kd.R_drew)); exact HO104.out) hb); have n1_ := Aside0.mk (blk_below (g := gb101) (o := .cells #[.string a0_0, .int .i64 a0_1] 132 (0, 0)) (by (with_reducible repeat (first | refine blk_drewN ?_ _ | refine blk_drew ?_ | refine blk_alloc ?_ _)); exact BK101.out) hb); have n2_ := Aside0.mk (below_step (by repeat (first | (with_reducible first | exact HB.out | apply below_alloc | apply pw_below_drewN | apply below_drew1 | refine below_set ?_ GE101.out) | exact HB.out)) hb); have n3_ := Aside0.mk (hbox); have n4_ := Aside0.mk ((by rw [hg]; exact (below_size (by repeat (first | (with_reducible first | exact HB.out | apply below_alloc | apply pw_below_drewN | apply below_drew1 | refine below_set ?_ GE101.out) | exact HB.out))) : w.heap.size ≤ gb111)); have n5_ := Aside0.mk ((by rw [hg]; exact (below_size (by repeat (first | (with_reducible first | exact HB.out | apply below_alloc | apply pw_below_drewN | apply below_drew1 | refine below_set ?_ GE101.out) | exact HB.out))) : w.heap.size ≤ gb111)); have n6_ := Aside0.mk ((by rw [hg]; exact Nat.ne_of_lt (blk_lt (g := gb101) (o := .cells #[.string a0_0, .int .i64 a0_1] 132 (0, 0)) (by (with_reducible repeat (first | refine blk_drewN ?_ _ | refine blk_drew ?_ | refine blk_alloc ?_ _)); exact BK101.out)) : gb101 ≠ gb111)); have n7_ := Aside0.mk ((by rw [hg]; exact Nat.ne_of_gt (blk_lt (g := gb101) (o := .cells #[.string a0_0, .int .i64 a0_1] 132 (0, 0)) (by (with_reducible repeat (first | refine blk_drewN ?_ _ | refine blk_drew ?_ | refine blk_alloc ?_ _)); exact BK101.out)) : gb111 ≠ gb101)); clear HO104; clear BK101; clear HB; have HO104 := n0_; have BK101 := n1_; have HB := n2_; have BK111 := n3_; have GW111 := n4_; have GE111 := n5_; have NB101_111 := n6_; have NB111_101 := n7_; clear n0_ n1_ n2_ n3_ n4_ n5_ n6_ n7_; clear hb hbox hg; have hnb26 := NB111_101.out; have hnc26 := NB101_111.out; have hcz27_0 : w25.cell? ⟨gb111, 0, none⟩ = some (.string (⟨#[]⟩ : ByteArray)) := (blk_cell BK111.out 0).trans rfl; have hcz27_1 : w25.cell? ⟨gb111, 1, none⟩ = some (.int .u8 0) := (blk_cell BK111.out 1).trans rfl; have hcz27_2 : w25.cell? ⟨gb111, 2, none⟩ = some (.int .i64 0) := (blk_cell BK111.out 2).trans rfl; have hcz27_3 : w25.cell? ⟨gb111, 3, none⟩ = some (.int .i64 0) := (blk_cell BK111.out 3).trans rfl; have hfz27_0 := blk_frozen BK111.out 0; have hfz27_1 := blk_frozen BK111.out 1; have hfz27_2 := blk_frozen BK111.out 2; have hfz27_3 := blk_frozen BK111.out 3))
              have n0_ : Aside0 (Kd.R (Kd.int .u8) 5 ((((w25.setCell ⟨gb111, 0, none⟩ (.string t106)).setCell ⟨gb111, 1, none⟩ (.int .u8 t107)).setCell ⟨gb111, 2, none⟩ (.int .i64 t108)).setCell ⟨gb111, 3, none⟩ (.int .i64 t109)) w.heap.size (fun _ => True) v103 t102) := ⟨by (with_reducible repeat (first | apply Kd.R_alloc | apply Kd.R_drewN | apply Kd.R_drew)); exact Kd.R_mono (Kd.R_far (p := ⟨gb111, 3, none⟩) (Kd.R_far (p := ⟨gb111, 2, none⟩) (Kd.R_far (p := ⟨gb111, 1, none⟩) (Kd.R_far (p := ⟨gb111, 0, none⟩) (Kd.R_types HO104.out BK111.out (by decide)) (fun _ hk => hk.2) (.string t106)) (fun _ hk => hk.2) (.int .u8 t107)) (fun _ hk => hk.2) (.int .i64 t108)) (fun _ hk => hk.2) (.int .i64 t109)) (fun _ hk => trivial)⟩
              have n1_ : Aside0 (((((w25.setCell ⟨gb111, 0, none⟩ (.string t106)).setCell ⟨gb111, 1, none⟩ (.int .u8 t107)).setCell ⟨gb111, 2, none⟩ (.int .i64 t108)).setCell ⟨gb111, 3, none⟩ (.int .i64 t109)).heap[gb101]? = some (.cells #[.string a0_0, .int .i64 a0_1] 132 (0, 0))) := ⟨by (with_reducible repeat (first | refine blk_drewN ?_ _ | refine blk_drew ?_ | refine blk_alloc ?_ _)); refine blk_far ?_ NB101_111.out _; (with_reducible repeat (first | refine blk_drewN ?_ _ | refine blk_drew ?_ | refine blk_alloc ?_ _)); refine blk_far ?_ NB101_111.out _; (with_reducible repeat (first | refine blk_drewN ?_ _ | refine blk_drew ?_ | refine blk_alloc ?_ _)); refine blk_far ?_ NB101_111.out _; (with_reducible repeat (first | refine blk_drewN ?_ _ | refine blk_drew ?_ | refine blk_alloc ?_ _)); refine blk_far ?_ NB101_111.out _; (with_reducible repeat (first | refine blk_drewN ?_ _ | refine blk_drew ?_ | refine blk_alloc ?_ _)); exact BK101.out⟩
              have n2_ : Aside0 (((((w25.setCell ⟨gb111, 0, none⟩ (.string t106)).setCell ⟨gb111, 1, none⟩ (.int .u8 t107)).setCell ⟨gb111, 2, none⟩ (.int .i64 t108)).setCell ⟨gb111, 3, none⟩ (.int .i64 t109)).heap[gb111]? = some (.cells #[.string t106, .int .u8 t107, .int .i64 t108, .int .i64 t109] 114 (0, 0))) := ⟨by (with_reducible repeat (first | refine blk_drewN ?_ _ | refine blk_drew ?_ | refine blk_alloc ?_ _)); refine blk_put (cs := #[.string t106, .int .u8 t107, .int .i64 t108, .int .i64 0]) ?_ 3 _ rfl; (with_reducible repeat (first | refine blk_drewN ?_ _ | refine blk_drew ?_ | refine blk_alloc ?_ _)); refine blk_put (cs := #[.string t106, .int .u8 t107, .int .i64 0, .int .i64 0]) ?_ 2 _ rfl; (with_reducible repeat (first | refine blk_drewN ?_ _ | refine blk_drew ?_ | refine blk_alloc ?_ _)); refine blk_put (cs := #[.string t106, .int .u8 0, .int .i64 0, .int .i64 0]) ?_ 1 _ rfl; (with_reducible repeat (first | refine blk_drewN ?_ _ | refine blk_drew ?_ | refine blk_alloc ?_ _)); refine blk_put (cs := #[.string (⟨#[]⟩ : ByteArray), .int .u8 0, .int .i64 0, .int .i64 0]) ?_ 0 _ rfl; (with_reducible repeat (first | refine blk_drewN ?_ _ | refine blk_drew ?_ | refine blk_alloc ?_ _)); exact BK111.out⟩
              have n3_ : Aside0 (Below w.heap.size w ((((w25.setCell ⟨gb111, 0, none⟩ (.string t106)).setCell ⟨gb111, 1, none⟩ (.int .u8 t107)).setCell ⟨gb111, 2, none⟩ (.int .i64 t108)).setCell ⟨gb111, 3, none⟩ (.int .i64 t109))) := ⟨by repeat (first | (with_reducible first | exact HB.out | apply below_alloc | apply pw_below_drewN | apply below_drew1 | refine below_set ?_ GE101.out | refine below_set ?_ GE111.out) | exact HB.out)⟩
              (try clear HO104)
              (try clear BK101)
              (try clear BK111)
              (try clear HB)
              generalize ((((w25.setCell ⟨gb111, 0, none⟩ (.string t106)).setCell ⟨gb111, 1, none⟩ (.int .u8 t107)).setCell ⟨gb111, 2, none⟩ (.int .i64 t108)).setCell ⟨gb111, 3, none⟩ (.int .i64 t109)) = w28 at n0_ n1_ n2_ n3_ ⊢
              have HO104 := n0_
              have BK101 := n1_
              have BK111 := n2_
              have HB := n3_
              clear n0_ n1_ n2_ n3_
              have n0_ := Aside0.mk (Kd.R_drew HO104.out)
              have n1_ := Aside0.mk (blk_drew BK101.out)
              have n2_ := Aside0.mk (blk_drew BK111.out)
              have n3_ := Aside0.mk (below_drew1 HB.out)
              clear HO104
              clear BK101
              clear BK111
              clear HB
              have HO104 := n0_
              have BK101 := n1_
              have BK111 := n2_
              have HB := n3_
              clear n0_ n1_ n2_ n3_
              have p112 : 0 ≤ (t107 : Int) := of_decide_eq_true (by first | (with_reducible assumption) | assumption)
              have q112 : (t107 : Int) < 7 := of_decide_eq_true (by first | (with_reducible assumption) | assumption)
              obtain ⟨ad112, e112, hx112_0⟩ := Kd.at_int HRt0.out t107 p112 q112
              obtain rfl : (⟨0, 0, none⟩ : Addr) = ad112 := (by injection e112)
              (first | simp only [add_plain] at hx112_0 | simp only [add_at] at hx112_0 | simp only [Addr.add, Nat.zero_add] at hx112_0 | skip)
              have hw112_0 := hx112_0
              replace hx112_0 := (HB.out.cell (World.block_lt_of_cell? w _ hx112_0)).trans hx112_0
              replace p112 := eq_true p112
              replace q112 := eq_true q112
              refine start_ (n := 13) (S := fun w' => w'.cell? ⟨gb101, 0, none⟩ = some (.string a0_0) ∧ w'.cell? ⟨gb101, 1, none⟩ = some (.int .i64 a0_1) ∧ w'.cell? ⟨gb111, 0, none⟩ = some (.string t106) ∧ w'.cell? ⟨gb111, 1, none⟩ = some (.int .u8 t107) ∧ w'.cell? ⟨gb111, 2, none⟩ = some (.int .i64 t108) ∧ w'.cell? ⟨gb111, 3, none⟩ = some (.int .i64 t109) ∧ w'.cell? ⟨0, (t107).toNat, none⟩ = some (.int .i64 (rd tTab0 t107))) (ds := []) #[false, false, false, false, false, false, false, false, false, false, false, false, false] (by kernel_rfl) rfl rfl ⟨(blk_cell BK101.out 0).trans rfl, (blk_cell BK101.out 1).trans rfl, (blk_cell BK111.out 0).trans rfl, (blk_cell BK111.out 1).trans rfl, (blk_cell BK111.out 2).trans rfl, (blk_cell BK111.out 3).trans rfl, ((HB.out.cell (World.block_lt_of_cell? w _ hw112_0)).trans hw112_0)⟩ (fun hHeld => ?_); refine with_tabW code_Print.tab7 code_Print.bits7 (fun HT_ HW_ => ?_)
              generalize w28.drew = w29 at HO104 BK101 BK111 HB hx112_0 hHeld ⊢
              refine pure_ (i := 0) (N := some 27) (v := ?_) (a' := ?_) #[true, false, false, false, false, false, false, false, false, false, false, false, false] rfl rfl (any_of HT_.out (by kernel_rfl)) (fun _ _ _ h => h) (Or.inl ⟨by rfl, ?_⟩) ?_ ?_
              rotate_left
              · intro w'
                go_simp
                with_reducible rfl
              rotate_left
              · simp only [Act.put, List.setIfInBounds_toArray, List.set_cons_zero, List.set_cons_succ, i64_w, i32_w]
                rfl
              refine pure_ (i := 3) (N := some 30) (v := ?_) (a' := ?_) #[true, false, false, true, false, false, false, false, false, false, false, false, false] rfl rfl (any_of HT_.out (by kernel_rfl)) (fun _ _ _ h => h) (Or.inl ⟨by rfl, ?_⟩) ?_ ?_
              rotate_left
              · intro w'
                go_simp
                with_reducible rfl
              rotate_left
              · simp only [Act.put, List.setIfInBounds_toArray, List.set_cons_zero, List.set_cons_succ, i64_w, i32_w]
                rfl
              refine pure_ (i := 5) (N := some 32) (v := ?_) (a' := ?_) #[true, false, false, true, false, true, false, false, false, false, false, false, false] rfl rfl (any_of HT_.out (by kernel_rfl)) (fun _ _ _ h => h) (Or.inl ⟨by rfl, ?_⟩) ?_ ?_
              rotate_left
              · intro w'
                go_simp
                with_reducible rfl
              rotate_left
              · simp only [Act.put, List.setIfInBounds_toArray, List.set_cons_zero, List.set_cons_succ, i64_w, i32_w]
                rfl
              refine take_ (i := 1) (N := some 28) (v := ?_) (a' := ?_) #[true, true, false, true, false, true, false, false, false, false, false, false, false] rfl rfl (take_ofW HT_.out HW_.out (by kernel_rfl)) (fun _ _ _ h => h) (Or.inl ⟨by rfl, ?_⟩) hHeld ?_ ?_
              rotate_left
              · rintro w' ⟨s0, s1, s2, s3, s4, s5, s6⟩
                go_simp
                with_reducible rfl
              rotate_left
              · simp only [Act.put, List.setIfInBounds_toArray, List.set_cons_zero, List.set_cons_succ, i64_w, i32_w]
                rfl
              refine pure_ (i := 2) (N := some 29) (v := ?_) (a' := ?_) #[true, true, true, true, false, true, false, false, false, false, false, false, false] rfl rfl (any_of HT_.out (by kernel_rfl)) (fun _ _ _ h => h) (Or.inl ⟨by rfl, ?_⟩) ?_ ?_
              rotate_left
              · intro w'
                go_simp
                with_reducible rfl
              rotate_left
              · simp only [Act.put, List.setIfInBounds_toArray, List.set_cons_zero, List.set_cons_succ, i64_w, i32_w]
                rfl
              refine take_ (i := 4) (N := some 31) (v := ?_) (a' := ?_) #[true, true, true, true, true, true, false, false, false, false, false, false, false] rfl rfl (take_ofW HT_.out HW_.out (by kernel_rfl)) (fun _ _ _ h => h) (Or.inl ⟨by rfl, ?_⟩) hHeld ?_ ?_
              rotate_left
              · rintro w' ⟨s0, s1, s2, s3, s4, s5, s6⟩
                go_simp
                with_reducible rfl
              rotate_left
              · simp only [Act.put, List.setIfInBounds_toArray, List.set_cons_zero, List.set_cons_succ, i64_w, i32_w]
                rfl
              refine take_ (i := 6) (N := some 33) (v := ?_) (a' := ?_) #[true, true, true, true, true, true, true, false, false, false, false, false, false] rfl rfl (take_ofW HT_.out HW_.out (by kernel_rfl)) (fun _ _ _ h => h) (Or.inl ⟨by rfl, ?_⟩) hHeld ?_ ?_
              rotate_left
              · rintro w' ⟨s0, s1, s2, s3, s4, s5, s6⟩
                go_simp
                with_reducible rfl
              rotate_left
              · simp only [Act.put, List.setIfInBounds_toArray, List.set_cons_zero, List.set_cons_succ, i64_w, i32_w]
                rfl
              refine pure_ (i := 7) (N := some 34) (v := ?_) (a' := ?_) #[true, true, true, true, true, true, true, true, false, false, false, false, false] rfl rfl (any_of HT_.out (by kernel_rfl)) (fun _ _ _ h => h) (Or.inl ⟨by rfl, ?_⟩) ?_ ?_
              rotate_left
              · intro w'
                go_simp
                with_reducible rfl
              rotate_left
              · simp only [Act.put, List.setIfInBounds_toArray, List.set_cons_zero, List.set_cons_succ, i64_w, i32_w]
                rfl
              refine take_ (i := 8) (N := some 35) (v := ?_) (a' := ?_) #[true, true, true, true, true, true, true, true, true, false, false, false, false] rfl rfl (take_ofW HT_.out HW_.out (by kernel_rfl)) (fun _ _ _ h => h) (Or.inl ⟨by rfl, ?_⟩) hHeld ?_ ?_
              rotate_left
              · rintro w' ⟨s0, s1, s2, s3, s4, s5, s6⟩
                go_simp
                with_reducible rfl
              rotate_left
              · simp only [Act.put, List.setIfInBounds_toArray, List.set_cons_zero, List.set_cons_succ, i64_w, i32_w]
                rfl
              refine one_ (i := 9) (N := some 36) #[true, true, true, true, true, true, true, true, true, true, false, false, false] rfl rfl (one_of HT_.out (by kernel_rfl)) (by decide) (fun K hK => ?_)
              refine goes_ Tryd.func86 (by kernel_rfl) rfl #[.int .i64 a0_1, .int .i64 (rd tTab0 t107)] (by rfl) rfl rfl (by (try simp only [List.map_toArray, List.map_cons, List.map_nil]); first | done | rfl | (simp only [List.length_drop, List.length_take]; rfl)) ?_
              with_reducible refine (bits_Hex.calls k a0_1 (rd tTab0 t107) t113 _ A18.out).mono ?_
              rintro e w30 ⟨rfl, hb⟩
              refine ⟨_, rfl, ?_⟩
              have n0_ := Aside0.mk (Kd.R_below (by (with_reducible repeat (first | apply Kd.R_alloc | apply Kd.R_drewN | apply Kd.R_drew)); exact HO104.out) hb)
              have n1_ := Aside0.mk (blk_below (g := gb101) (o := .cells #[.string a0_0, .int .i64 a0_1] 132 (0, 0)) (by (with_reducible repeat (first | refine blk_drewN ?_ _ | refine blk_drew ?_ | refine blk_alloc ?_ _)); exact BK101.out) hb)
              have n2_ := Aside0.mk (blk_below (g := gb111) (o := .cells #[.string t106, .int .u8 t107, .int .i64 t108, .int .i64 t109] 114 (0, 0)) (by (with_reducible repeat (first | refine blk_drewN ?_ _ | refine blk_drew ?_ | refine blk_alloc ?_ _)); exact BK111.out) hb)
              have n3_ := Aside0.mk (below_step (by repeat (first | (with_reducible first | exact HB.out | apply below_alloc | apply pw_below_drewN | apply below_drew1 | refine below_set ?_ GE101.out | refine below_set ?_ GE111.out) | exact HB.out)) hb)
              clear HO104
              clear BK101
              clear BK111
              clear HB
              have HO104 := n0_
              have BK101 := n1_
              have BK111 := n2_
              have HB := n3_
              clear n0_ n1_ n2_ n3_
              (try clear hb)
              (try clear hb2)
              (try clear hk)
              (try clear hi)
              refine hK.out _ _ ⟨(blk_cell BK101.out 0).trans rfl, (blk_cell BK101.out 1).trans rfl, (blk_cell BK111.out 0).trans rfl, (blk_cell BK111.out 1).trans rfl, (blk_cell BK111.out 2).trans rfl, (blk_cell BK111.out 3).trans rfl, ((HB.out.cell (World.block_lt_of_cell? w _ hw112_0)).trans hw112_0)⟩ (fun hHeld => ?_)
              clear hK K
              refine norm_ (a' := ?_) ?_ ?_
              rotate_left
              · show Act.put _ (some 36) _ = _
                simp only [Act.put, List.setIfInBounds_toArray, List.set_cons_zero, List.set_cons_succ, i64_w, i32_w]
                rfl
              refine pure_ (i := 10) (N := some 37) (v := ?_) (a' := ?_) #[true, true, true, true, true, true, true, true, true, true, true, false, false] rfl rfl (any_of HT_.out (by kernel_rfl)) (fun _ _ _ h => h) (Or.inl ⟨by rfl, ?_⟩) ?_ ?_
              rotate_left
              · intro w'
                go_simp
                with_reducible rfl
              rotate_left
              · simp only [Act.put, List.setIfInBounds_toArray, List.set_cons_zero, List.set_cons_succ, i64_w, i32_w]
                rfl
              refine pure_ (i := 11) (N := some 2) (v := ?_) (a' := ?_) #[true, true, true, true, true, true, true, true, true, true, true, true, false] rfl rfl (any_of HT_.out (by kernel_rfl)) (fun _ _ _ h => h) (Or.inl ⟨by rfl, ?_⟩) ?_ ?_
              rotate_left
              · intro w'
                go_simp
                with_reducible rfl
              rotate_left
              · simp only [Act.put, List.setIfInBounds_toArray, List.set_cons_zero, List.set_cons_succ, i64_w, i32_w]
                rfl
              refine pure_ (i := 12) (N := some 3) (v := ?_) (a' := ?_) #[true, true, true, true, true, true, true, true, true, true, true, true, true] rfl rfl (any_of HT_.out (by kernel_rfl)) (fun _ _ _ h => h) (Or.inl ⟨by rfl, ?_⟩) ?_ ?_
              rotate_left
              · intro w'
                go_simp
                with_reducible rfl
              rotate_left
              · simp only [Act.put, List.setIfInBounds_toArray, List.set_cons_zero, List.set_cons_succ, i64_w, i32_w]
                rfl
              refine done_ (done_of HT_.out (by kernel_rfl)) ?_
              try go_wp2
              go_ret2
              exact ⟨by first | rfl | (simp [errW_none, errW_some] <;> rfl) | (simp [*, errW_none, errW_some] <;> rfl), by repeat (first | (with_reducible first | exact HB.out | apply below_alloc | apply pw_below_drewN | apply below_drew1 | refine below_set ?_ GE101.out | refine below_set ?_ GE111.out) | exact HB.out)⟩
            · rw [if_neg c19] at H
              exact absurd H (by simp)
          · rw [if_neg c17] at H
            exact absurd H (by simp)
        · rw [if_neg c16] at H
          exact absurd H (by simp)
      · rw [if_neg c15] at H
        exact absurd H (by simp)
  · rw [if_neg c3] at H
    have c3b0 : (t105 == 0) = false := beq_eq_false_iff_ne.mpr c3
    have c3b1 : (t105 != 0) = true := bne_iff_ne.mpr c3
    simp only [Option.some.injEq, Prod.mk.injEq] at H
    obtain ⟨rfl, rfl⟩ := H
    go_enter Tryd.func88, Tryd.ntmps88
    go_wp2_with (first | ((with_reducible refine gate_dst (N := 1) rfl ?_); refine box_event ?hg (N := 1) ?hd (cs := #[.string a0_0, .int .i64 a0_1]) (t := 132) ?hr ?_; (case hd => rfl); (case hg => rfl); (case hr => first | (go_simp; done) | (go_simp; rfl)); intro gb101 hg w31 hbox hb; have n0_ := Aside0.mk (below_step (by repeat (first | (with_reducible first | exact HB.out | apply below_alloc | apply pw_below_drewN | apply below_drew1) | exact HB.out)) hb); have n1_ := Aside0.mk (hbox); have n2_ := Aside0.mk ((by rw [hg]; exact (below_size (by repeat (first | (with_reducible first | exact HB.out | apply below_alloc | apply pw_below_drewN | apply below_drew1) | exact HB.out))) : w.heap.size ≤ gb101)); have n3_ := Aside0.mk ((by rw [hg]; exact (below_size (by repeat (first | (with_reducible first | exact HB.out | apply below_alloc | apply pw_below_drewN | apply below_drew1) | exact HB.out))) : w.heap.size ≤ gb101)); clear HB; have HB := n0_; have BK101 := n1_; have GW101 := n2_; have GE101 := n3_; clear n0_ n1_ n2_ n3_; clear hb hbox hg; have hcz32_0 : w31.cell? ⟨gb101, 0, none⟩ = some (.string a0_0) := (blk_cell BK101.out 0).trans rfl; have hcz32_1 : w31.cell? ⟨gb101, 1, none⟩ = some (.int .i64 a0_1) := (blk_cell BK101.out 1).trans rfl; have hfz32_0 := blk_frozen BK101.out 0; have hfz32_1 := blk_frozen BK101.out 1) | ((with_reducible refine gate_callee (f := 110) rfl ?_); refine goesL_ (some 10) rfl rfl Tryd.func110 (by kernel_rfl) rfl #[.agg #[.string a0_0, .int .i64 a0_1]] rfl (by (try simp only [List.map_toArray, List.map_cons, List.map_nil]); first | done | rfl | (simp only [List.length_drop, List.length_take]; rfl)) ?_; (with_reducible refine (code_Encode.calls k a0_0 a0_1 t102 t105 _ ?side1 A2.out).mono ?_); (case side1 => first | (with_reducible exact HG.out.gl) | (with_reducible exact (HG.out.gl).below HB.out) | (with_reducible exact (HG.out.gl).same World.heap_drewN) | (refine (HG.out.gl).below ?_; (repeat (first | (with_reducible first | exact HB.out | apply below_alloc | apply pw_below_drewN | apply below_drew1 | refine below_set ?_ GE101.out) | exact HB.out)); done) | exact (HG.out.gl).same rfl); rintro e w33 ⟨v103, rfl, ho0, hb⟩; refine ⟨_, rfl, ?_⟩; have n0_ := Aside0.mk (Kd.R_lower ho0 (below_size (by repeat (first | (with_reducible first | exact HB.out | apply below_alloc | apply pw_below_drewN | apply below_drew1 | refine below_set ?_ GE101.out) | exact HB.out)))); have n1_ := Aside0.mk (blk_below (g := gb101) (o := .cells #[.string a0_0, .int .i64 a0_1] 132 (0, 0)) (by (with_reducible repeat (first | refine blk_drewN ?_ _ | refine blk_drew ?_ | refine blk_alloc ?_ _)); exact BK101.out) hb); have n2_ := Aside0.mk (below_step (by repeat (first | (with_reducible first | exact HB.out | apply below_alloc | apply pw_below_drewN | apply below_drew1 | refine below_set ?_ GE101.out) | exact HB.out)) hb); clear BK101; clear HB; have HO104 := n0_; have BK101 := n1_; have HB := n2_; clear n0_ n1_ n2_; (try clear hb); (try clear hb2); (try clear hk); (try clear hi); (try clear ho0)))
    go_ret2
    exact ⟨by first | rfl | (simp [errW_none, errW_some] <;> rfl) | (simp [*, errW_none, errW_some] <;> rfl), by repeat (first | (with_reducible first | exact HB.out | apply below_alloc | apply pw_below_drewN | apply below_drew1 | refine below_set ?_ GE101.out) | exact HB.out)⟩
end Go.Proofs.YthnafgffanlnfaaDoor.PSrc
namespace Go.Proofs.YthnafgffanlnfaaDoor.PSrc
set_option linter.unusedVariables false
set_option linter.unusedSimpArgs false
theorem index_one (c : UInt8) : ∀ l : List UInt8, Lib.index l [c] = if c ∈ l then ((l.takeWhile (· != c)).length : Int) else -1
  | [] => rfl
  | b :: l => by
    have ih := index_one c l
    unfold Lib.index
    by_cases h : c = b
    · subst h
      simp
    · have h1 : ([c].isPrefixOf (b :: l)) = false := by simp [List.isPrefixOf, h]
      have h2 : (b != c) = true := by simp; exact fun e => h e.symm
      rw [h1, ih]
      by_cases hm : c ∈ l
      · have : c ∈ b :: l := List.mem_cons_of_mem _ hm
        simp only [hm, this, if_true, List.takeWhile_cons, h2, List.length_cons]
        have e : ((((l.takeWhile (· != c)).length : Int)) == -1) = false := by rw [beq_eq_false_iff_ne]; omega
        simp [e]
      · have : ¬ c ∈ b :: l := by simp [h, hm]
        simp [hm, this]
theorem takeWhile_all {c : UInt8} : ∀ {l : List UInt8}, c ∉ l → l.takeWhile (· != c) = l
  | [], _ => rfl
  | b :: l, h => by
    have h1 : (b != c) = true := by simp; exact fun e => h (by simp [e])
    rw [List.takeWhile_cons, h1, if_pos rfl, takeWhile_all (fun hm => h (List.mem_cons_of_mem _ hm))]
def before (c : UInt8) (l : List UInt8) : List UInt8 := l.takeWhile (· != c)
def behind (c : UInt8) (l : List UInt8) : List UInt8 := (l.dropWhile (· != c)).drop 1
theorem take_takeWhile (p : UInt8 → Bool) : ∀ (l : List UInt8), l.take (l.takeWhile p).length = l.takeWhile p
  | [] => rfl
  | b :: l => by
    rw [List.takeWhile_cons]
    split
    · rw [List.length_cons, List.take_succ_cons, take_takeWhile p l]
    · rfl
theorem drop_takeWhile (p : UInt8 → Bool) : ∀ (l : List UInt8), l.drop (l.takeWhile p).length = l.dropWhile p
  | [] => rfl
  | b :: l => by
    rw [List.takeWhile_cons, List.dropWhile_cons]
    split
    · rw [List.length_cons, List.drop_succ_cons, drop_takeWhile p l]
    · rfl
theorem dropWhile_all {c : UInt8} {l : List UInt8} (h : c ∉ l) : l.dropWhile (· != c) = [] := by
  rw [← drop_takeWhile, takeWhile_all h]; simp
theorem cut_one (c : UInt8) (l : List UInt8) : Lib.cut l [c] = (before c l, behind c l, decide (c ∈ l)) := by
  unfold Lib.cut before behind
  rw [index_one]
  by_cases h : c ∈ l
  · simp only [h, if_true, decide_true]
    rw [if_pos (by omega)]
    simp only [Int.toNat_natCast, List.length_cons, List.length_nil, Prod.mk.injEq, and_true]
    exact ⟨take_takeWhile _ _, by rw [← List.drop_drop, drop_takeWhile]⟩
  · simp only [h, if_false, decide_false]
    rw [if_neg (by omega), takeWhile_all h, dropWhile_all h]
    simp
theorem behind_lt {c : UInt8} {l : List UInt8} (h : l ≠ []) : (behind c l).length < l.length := by
  unfold behind
  have h2 : (l.takeWhile (· != c)).length + (l.dropWhile (· != c)).length = l.length := by
    rw [← List.length_append, List.takeWhile_append_dropWhile]
  cases l with
  | nil => exact absurd rfl h
  | cons b t => rw [List.length_drop]; simp only [List.length_cons] at h2 ⊢; omega
def blank (c : UInt8) : Bool := c == 32 || c == 9
def blankR (c : Nat) : Bool := c == 32 || c == 9
def wordsGo : List UInt8 → List UInt8 → List (List UInt8)
  | [], cur => if cur = [] then [] else [cur]
  | c :: r, cur => if blank c then (if cur = [] then wordsGo r [] else cur :: wordsGo r []) else wordsGo r (cur ++ [c])
def wordsL (l : List UInt8) : List (List UInt8) := wordsGo l []
theorem decodeN_wide (n b0 b1 b2 b3 : Nat) (h0 : b0 < 256) (h1 : b1 < 256) (h2 : b2 < 256) (h3 : b3 < 256) :
    (b0 < 128 → Lib.decodeN n b0 b1 b2 b3 = (b0, 1)) ∧ (128 ≤ b0 → 128 ≤ (Lib.decodeN n b0 b1 b2 b3).1) ∧
    (2 ≤ (Lib.decodeN n b0 b1 b2 b3).2 → 128 ≤ b1 ∧ 1 < n) ∧ (3 ≤ (Lib.decodeN n b0 b1 b2 b3).2 → 128 ≤ b2 ∧ 2 < n) ∧ (4 ≤ (Lib.decodeN n b0 b1 b2 b3).2 → 128 ≤ b3 ∧ 3 < n) ∧
    1 ≤ (Lib.decodeN n b0 b1 b2 b3).2 ∧ (Lib.decodeN n b0 b1 b2 b3).2 ≤ 4 := by
  unfold Lib.decodeN
  repeat' split
  all_goals (refine ⟨?_, ?_, ?_, ?_, ?_, ?_, ?_⟩ <;> first | (intros; first | rfl | (exfalso; omega) | (simp only at *; omega)) | (simp only; omega) | omega)
theorem get!_nat (s : ByteArray) (k : Nat) (h : k < s.size) : s.data.toList[k]? = some (s.get! k) := by
  have h' : k < s.data.size := h
  rw [Array.getElem?_toList, Array.getElem?_eq_getElem h']
  show some s.data[k] = some s.data[k]!
  rw [getElem!_pos s.data k h']
theorem drop_get (s : ByteArray) (k : Nat) (h : k < s.size) : s.data.toList.drop k = s.get! k :: s.data.toList.drop (k + 1) := by
  have h1 := get!_nat s k h
  have h2 : k < s.data.toList.length := (List.getElem?_eq_some_iff.1 h1).1
  rw [List.drop_eq_getElem_cons h2]
  congr 1
  rw [List.getElem?_eq_getElem h2] at h1
  exact Option.some.inj h1
def seg (s : ByteArray) (a b : Nat) : List UInt8 := (s.data.toList.take b).drop a
theorem seg_data (s : ByteArray) (a b : Nat) : (s.extract a b).data.toList = seg s a b := by
  simp [seg, List.drop_take, ByteArray.data_extract, Array.toList_extract]
theorem seg_succ (s : ByteArray) (a b : Nat) (hab : a ≤ b) (hb : b < s.size) : seg s a (b + 1) = seg s a b ++ [s.get! b] := by
  have h1 := get!_nat s b hb
  have h2 : b < s.data.toList.length := (List.getElem?_eq_some_iff.1 h1).1
  rw [List.getElem?_eq_getElem h2] at h1
  unfold seg
  rw [List.take_succ_eq_append_getElem h2, List.drop_append_of_le_length (by rw [List.length_take]; omega), Option.some.inj h1]
theorem seg_len (s : ByteArray) (a b : Nat) (hb : b ≤ s.size) : (seg s a b).length = b - a := by
  have : s.data.toList.length = s.size := Array.length_toList
  simp [seg]
  have e : s.data.size = s.size := rfl
  omega
theorem wordsGo_run (s : ByteArray) (a : Nat) : ∀ (k pos : Nat), a ≤ pos → pos + k ≤ s.size → (∀ j, j < k → blank (s.get! (pos + j)) = false) →
    wordsGo (s.data.toList.drop pos) (seg s a pos) = wordsGo (s.data.toList.drop (pos + k)) (seg s a (pos + k))
  | 0, pos, _, _, _ => rfl
  | k + 1, pos, ha, hk, hb => by
    have h0 := hb 0 (by omega)
    rw [Nat.add_zero] at h0
    rw [drop_get s pos (by omega), wordsGo, h0]
    simp only [Bool.false_eq_true, if_false]
    rw [← seg_succ s a pos ha (by omega)]
    have := wordsGo_run s a k (pos + 1) (by omega) (by omega) (fun j hj => by rw [show pos + 1 + j = pos + (j + 1) by omega]; exact hb (j + 1) (by omega))
    rw [this, show pos + 1 + k = pos + (k + 1) by omega]
theorem blank_of (c : UInt8) : blank c = blankR c.toNat := by
  unfold blank blankR
  have h1 : (c == 32) = (c.toNat == 32) := by
    rw [Bool.eq_iff_iff]; simp [← UInt8.toNat_inj]
  have h2 : (c == 9) = (c.toNat == 9) := by
    rw [Bool.eq_iff_iff]; simp [← UInt8.toNat_inj]
  rw [h1, h2]
theorem blank_big {c : UInt8} (h : 128 ≤ c.toNat) : blank c = false := by
  rw [blank_of]; unfold blankR; simp; omega
theorem rune_step (s : ByteArray) (pos : Nat) (h : pos < s.size) :
    pos + (Utf8.decode s pos).2 ≤ s.size ∧ 1 ≤ (Utf8.decode s pos).2 ∧ blankR (Utf8.decode s pos).1 = blank (s.get! pos) ∧
    (blank (s.get! pos) = true → (Utf8.decode s pos).2 = 1) ∧ (blank (s.get! pos) = false → ∀ j, j < (Utf8.decode s pos).2 → blank (s.get! (pos + j)) = false) := by
  obtain ⟨c1, c2, c3, c4, c5, c6, c7⟩ := decodeN_wide (s.size - pos) (s.get! pos).toNat (s.get! (pos + 1)).toNat (s.get! (pos + 2)).toNat (s.get! (pos + 3)).toNat (UInt8.toNat_lt _) (UInt8.toNat_lt _) (UInt8.toNat_lt _) (UInt8.toNat_lt _)
  rw [← Lib.decode_at] at c1 c2 c3 c4 c5 c6 c7
  have hbl : blankR (Utf8.decode s pos).1 = blank (s.get! pos) := by
    by_cases hlt : (s.get! pos).toNat < 128
    · rw [c1 hlt, blank_of]
    · rw [blank_big (by omega)]
      have := c2 (by omega)
      unfold blankR; simp; omega
  refine ⟨?_, c6, hbl, ?_, ?_⟩
  · generalize (Utf8.decode s pos).2 = K at *
    by_cases k4 : 4 ≤ K
    · have := (c5 k4).2; omega
    · by_cases k3 : 3 ≤ K
      · have := (c4 k3).2; omega
      · by_cases k2 : 2 ≤ K
        · have := (c3 k2).2; omega
        · omega
  · intro hb
    have : (s.get! pos).toNat < 128 := by
      apply Classical.byContradiction
      intro hn
      rw [blank_big (by omega)] at hb
      cases hb
    rw [c1 this]
  · intro hb j hj
    generalize (Utf8.decode s pos).2 = K at *
    have : j = 0 ∨ j = 1 ∨ j = 2 ∨ j = 3 := by omega
    rcases this with rfl | rfl | rfl | rfl
    · exact hb
    · exact blank_big (c3 (by omega)).1
    · exact blank_big (c4 (by omega)).1
    · exact blank_big (c5 (by omega)).1
def segs (s : ByteArray) (acc : List (Nat × Nat)) : List (List UInt8) := acc.map fun x => seg s x.1 x.2
def curOf (s : ByteArray) (st : Option Nat) (pos : Nat) : List UInt8 := match st with | some a => seg s a pos | none => []
theorem seg_self (s : ByteArray) (a : Nat) : seg s a a = [] := by
  unfold seg; rw [List.drop_eq_nil_iff]; simp; omega
theorem spans_words (s : ByteArray) : ∀ (f pos : Nat) (st : Option Nat) (acc : List (Nat × Nat)), pos ≤ s.size → s.size ≤ pos + f → (∀ a, st = some a → a < pos) →
    segs s (Lib.closeSpans s (Lib.spansFromP blankR s f pos st acc)) = segs s acc ++ wordsGo (s.data.toList.drop pos) (curOf s st pos)
  | 0, pos, st, acc, hp, hf, hst => by
    obtain rfl : pos = s.size := by omega
    have hd : s.data.toList.drop s.size = [] := List.drop_of_length_le (Nat.le_of_eq Array.length_toList)
    rw [hd]
    cases st with
    | none => simp [Lib.spansFromP, Lib.closeSpans, wordsGo, curOf]
    | some a =>
      have ha := hst a rfl
      have hne : seg s a s.size ≠ [] := by
        intro h
        have := seg_len s a s.size (Nat.le_refl _)
        rw [h] at this; simp at this; omega
      simp [Lib.spansFromP, Lib.closeSpans, wordsGo, curOf, hne, segs]
  | f + 1, pos, st, acc, hp, hf, hst => by
    by_cases hlt : pos < s.size
    · obtain ⟨r1, r2, r3, r4, r5⟩ := rune_step s pos hlt
      unfold Lib.spansFromP
      rw [if_pos hlt, r3]
      cases hb : blank (s.get! pos) with
      | true =>
        rw [r4 hb]
        simp only [if_true]
        cases st with
        | none =>
          simp only
          rw [spans_words s f (pos + 1) none acc (by omega) (by omega) (fun a h => by cases h), drop_get s pos hlt, wordsGo, hb]
          simp [curOf]
        | some a =>
          simp only
          rw [spans_words s f (pos + 1) none (acc ++ [(a, pos)]) (by omega) (by omega) (fun a h => by cases h), drop_get s pos hlt, wordsGo, hb]
          have ha := hst a rfl
          have hne : seg s a pos ≠ [] := by
            intro h
            have := seg_len s a pos (by omega)
            rw [h] at this; simp at this; omega
          simp [curOf, segs, hne]
      | false =>
        simp only [Bool.false_eq_true, if_false]
        have h5 := r5 hb
        generalize (Utf8.decode s pos).2 = K at *
        cases st with
        | none =>
          simp only
          rw [spans_words s f (pos + K) (some pos) acc (by omega) (by omega) (fun a h => by cases h; omega)]
          have := wordsGo_run s pos K pos (Nat.le_refl _) r1 h5
          rw [seg_self] at this
          simp only [curOf]
          rw [this]
        | some a =>
          have ha := hst a rfl
          simp only
          rw [spans_words s f (pos + K) (some a) acc (by omega) (by omega) (fun a' h => by cases h; omega)]
          have := wordsGo_run s a K pos (by omega) r1 h5
          simp only [curOf]
          rw [this]
    · obtain rfl : pos = s.size := by omega
      have e := spans_words s 0 s.size st acc hp (by omega) hst
      rw [Lib.spansFromP_end _ _ _ _ _ _ (by omega)] at e ⊢
      exact e
theorem goFields_words (s : ByteArray) : (Lib.goFieldsP blankR s).map (fun x => x.data.toList) = wordsL s.data.toList := by
  unfold Lib.goFieldsP Lib.spansOfP wordsL
  rw [List.map_map]
  have := spans_words s s.size 0 none [] (Nat.zero_le _) (by omega) (fun a h => by cases h)
  simp only [segs, List.map_nil, List.nil_append, List.drop_zero, curOf] at this
  rw [← this]
  apply List.map_congr_left
  intro x _
  exact seg_data s x.1 x.2
def mkB (l : List UInt8) : ByteArray := ⟨l.toArray⟩
theorem mkB_data (s : ByteArray) : mkB s.data.toList = s := by cases s; rfl
theorem data_mkB (l : List UInt8) : (mkB l).data.toList = l := rfl
theorem goFields_eq (s : ByteArray) : Lib.goFieldsP blankR s = (wordsL s.data.toList).map mkB := by
  rw [← goFields_words, List.map_map]
  conv => lhs; rw [← List.map_id (Lib.goFieldsP blankR s)]
  apply List.map_congr_left
  intro x _
  exact (mkB_data x).symm
end Go.Proofs.YthnafgffanlnfaaDoor.PSrc
namespace Go.Proofs.YthnafgffanlnfaaDoor.PSrc
open Go.RowKit Go.Proofs.YthnafgffanlnfaaDoorW.PrintWords
set_option linter.unusedVariables false
set_option linter.unusedSimpArgs false
def source_parts.f (p : Int) : Option ByteArray := if p = 0 then some ⟨#[]⟩ else if p = 1 then some ⟨#[116, 111]⟩ else if p = 2 then some ⟨#[104, 105, 103, 104]⟩ else if p = 3 then some ⟨#[108, 111, 119]⟩ else none
set_option maxRecDepth 100000 in
theorem parts_same (p : Int) (r : ByteArray) (w : World) (h : source_parts.f p = some r) :
    Calls Tryd.prog 87 #[.int .u8 p] w fun e w' => e = .returned (.string r) ∧ w' = w := by
  have hp : p = 0 ∨ p = 1 ∨ p = 2 ∨ p = 3 := by
    unfold source_parts.f at h
    split at h
    · omega
    · split at h
      · omega
      · split at h
        · omega
        · split at h
          · omega
          · cases h
  rcases hp with rfl | rfl | rfl | rfl
  all_goals
    have hr := Option.some.inj h
    subst hr
    clear h
  · have ix : ∀ w, (Instr.index 166 (.agg #[.string ⟨#[]⟩, .string ⟨#[116, 111]⟩, .string ⟨#[104, 105, 103, 104]⟩, .string ⟨#[108, 111, 119]⟩]) (.int .u8 (bits .and .u8 0 3))).run Tryd.prog w = .ok (.string ⟨#[]⟩) w := fun _ => by kernel_rfl
    go_enter Tryd.func87, Tryd.ntmps87
    go_wp2
    go_ret
    exact ⟨rfl, rfl⟩
  · have ix : ∀ w, (Instr.index 166 (.agg #[.string ⟨#[]⟩, .string ⟨#[116, 111]⟩, .string ⟨#[104, 105, 103, 104]⟩, .string ⟨#[108, 111, 119]⟩]) (.int .u8 (bits .and .u8 1 3))).run Tryd.prog w = .ok (.string ⟨#[116, 111]⟩) w := fun _ => by kernel_rfl
    go_enter Tryd.func87, Tryd.ntmps87
    go_wp2
    go_ret
    exact ⟨rfl, rfl⟩
  · have ix : ∀ w, (Instr.index 166 (.agg #[.string ⟨#[]⟩, .string ⟨#[116, 111]⟩, .string ⟨#[104, 105, 103, 104]⟩, .string ⟨#[108, 111, 119]⟩]) (.int .u8 (bits .and .u8 2 3))).run Tryd.prog w = .ok (.string ⟨#[104, 105, 103, 104]⟩) w := fun _ => by kernel_rfl
    go_enter Tryd.func87, Tryd.ntmps87
    go_wp2
    go_ret
    exact ⟨rfl, rfl⟩
  · have ix : ∀ w, (Instr.index 166 (.agg #[.string ⟨#[]⟩, .string ⟨#[116, 111]⟩, .string ⟨#[104, 105, 103, 104]⟩, .string ⟨#[108, 111, 119]⟩]) (.int .u8 (bits .and .u8 3 3))).run Tryd.prog w = .ok (.string ⟨#[108, 111, 119]⟩) w := fun _ => by kernel_rfl
    go_enter Tryd.func87, Tryd.ntmps87
    go_wp2
    go_ret
    exact ⟨rfl, rfl⟩
theorem source_parts.calls (p : Int) (r : ByteArray) (w : World) (h : source_parts.f p = some r) :
    Calls Tryd.prog 87 #[.int .u8 p] w fun e w' => e = .returned (.string r) ∧ Drawn0 w w' := by
  refine (parts_same p r w h).mono ?_
  rintro e w' ⟨rfl, rfl⟩
  exact ⟨rfl, Drawn0.refl _⟩
def hexv (c : Nat) : Option Nat := if 48 ≤ c ∧ c ≤ 57 then some (c - 48) else if 97 ≤ c ∧ c ≤ 102 then some (c - 87) else none
def numL : List UInt8 → Nat → Option Nat
  | [], n => some n
  | c :: r, n => match hexv c.toNat with
    | some d => numL r (16 * n + d)
    | none => none
def numN (l : List UInt8) : Option Nat := if l.length < 1 then none else if 8 < l.length then none else numL l 0
def bits_Number.f (s : ByteArray) : Option (Int × Int) := some (match numN s.data.toList with | some n => ((n : Int), 0) | none => (0, 1))
theorem hexv_lt {c d : Nat} (h : hexv c = some d) : d < 16 := by
  unfold hexv at h
  split at h
  · have := Option.some.inj h; omega
  · split at h
    · have := Option.some.inj h; omega
    · cases h
theorem or_digit (n d : Nat) (hn : n < 268435456) (hd : d < 16) : bits .or .i64 ((n : Int) * 16) (d : Int) = ((16 * n + d : Nat) : Int) := by
  have e : ((n : Int) * 16) = ((16 * n : Nat) : Int) := by omega
  rw [e]
  have hx : 16 * n ||| d < 2 ^ 63 := Nat.or_lt_two_pow (by omega) (by omega)
  have h : bits .or .i64 ((16 * n : Nat) : Int) (d : Int) = ((16 * n ||| d : Nat) : Int) := by
    show IntKind.i64.wrap ((BitVec.ofInt 64 ((16 * n : Nat) : Int) ||| BitVec.ofInt 64 (d : Int)).toNat : Int) = _
    rw [BitVec.toNat_or, BitVec.ofInt_natCast, BitVec.ofInt_natCast, BitVec.toNat_ofNat, BitVec.toNat_ofNat, Nat.mod_eq_of_lt (show 16 * n < 2 ^ 64 by omega), Nat.mod_eq_of_lt (show d < 2 ^ 64 by omega)]
    exact IntWalk.i64_in _ (by omega)
  rw [h]
  have h2 := Nat.two_pow_add_eq_or_of_lt (i := 4) (b := d) (by omega) n
  rw [show 16 * n = 2 ^ 4 * n by omega, ← h2]
theorem rune_big (s : ByteArray) (pos : Nat) (h : 128 ≤ (s.get! pos).toNat) : 128 ≤ (Utf8.decode s pos).1 := by
  rw [Lib.decode_at]
  unfold Lib.decodeN
  repeat' split
  all_goals first | (simp only; omega) | (exfalso; omega)
theorem get!_eq (s : ByteArray) (k : Nat) (h : k < s.size) : s.get! k = s[k]'h := by
  have h' : k < s.data.size := h
  show s.data[k]! = s.data[k]
  rw [getElem!_pos s.data k h']
theorem drop_cons_ba (s : ByteArray) (k : Nat) (h : k < s.size) : s.data.toList.drop k = s[k]'h :: s.data.toList.drop (k + 1) := by
  have : k < s.data.toList.length := by simpa using h
  rw [List.drop_eq_getElem_cons this]
  rfl
def numRes : Option Nat → Array Value
  | some n => #[.int .i64 (n : Int), .int .i64 0]
  | none => #[.int .i64 0, .int .i64 1]
def NumPost (s : ByteArray) (w : World) (e : Ending) (w' : World) : Prop :=
  e = .returned (.tuple (numRes (numN s.data.toList))) ∧ Below w.heap.size w w'
theorem numPost_of {s : ByteArray} {w : World} {e : Ending} {w' : World} (hb : Below w.heap.size w w') (r : Option Nat) (hr : numN s.data.toList = r) (he : e = .returned (.tuple (numRes r))) : NumPost s w e w' := by
  subst hr; exact ⟨he, hb⟩
theorem numN_short {s : ByteArray} (h : s.size < 1) : numN s.data.toList = none := by
  have : s.data.toList.length = s.size := Array.length_toList
  unfold numN; rw [if_pos (by omega)]
theorem numN_long {s : ByteArray} (h : 8 < s.size) : numN s.data.toList = none := by
  have : s.data.toList.length = s.size := Array.length_toList
  unfold numN; rw [if_neg (by omega), if_pos (by omega)]
theorem numN_mid {s : ByteArray} (h : ¬ s.size < 1) (h8 : ¬ 8 < s.size) : numN s.data.toList = numL s.data.toList 0 := by
  have : s.data.toList.length = s.size := Array.length_toList
  unfold numN; rw [if_neg (by omega), if_neg (by omega)]
theorem numL_none {c : UInt8} {l : List UInt8} {n : Nat} (h : hexv c.toNat = none) : numL (c :: l) n = none := by
  unfold numL; rw [h]
theorem numL_some {c : UInt8} {l : List UInt8} {n d : Nat} (h : hexv c.toNat = some d) : numL (c :: l) n = numL l (16 * n + d) := by
  rw [numL, h]
set_option maxRecDepth 100000 in
set_option maxHeartbeats 1000000 in
theorem number_calls (s : ByteArray) (w : World) :
    Calls Tryd.prog 139 #[.string s] w (NumPost s w) := by
  by_cases h0 : s.size < 1
  · have H := Aside0.mk (numN_short h0)
    go_enter Tryd.func139, Tryd.ntmps139
    go_wp2
    go_ret2
    exact numPost_of (Below.refl _ _) _ H.out rfl
  by_cases h8 : 8 < s.size
  · have H := Aside0.mk (numN_long h8)
    go_enter Tryd.func139, Tryd.ntmps139
    go_wp2
    go_ret2
    exact numPost_of (Below.refl _ _) _ H.out rfl
  have H := Aside0.mk (numN_mid h0 h8)
  go_enter Tryd.func139, Tryd.ntmps139
  go_wp2
  go_loopg [4] s.size (fun gf s4 wx => ∃ pos n : Nat, pos ≤ s.size ∧ s.size ≤ pos + gf ∧ s4 = .int .i64 (n : Int) ∧ n < 16 ^ pos ∧ Aside0 (numL (s.data.toList.drop pos) n = numL s.data.toList 0) ∧ wx.heap[w.heap.size]? = some (.stringIter s pos) ∧ Aside0 (Below w.heap.size w wx))
  case atStart => exact ⟨0, 0, Nat.zero_le _, by omega, rfl, by decide, ⟨rfl⟩, World.iter_heap w s 0, ⟨(Below.refl _ w).alloc (Nat.le_refl _) _⟩⟩
  case round =>
    obtain ⟨pos, n, hp, hg, rfl, hn, HN, hit, HB⟩ := hrel
    by_cases hlt : pos < s.size
    · obtain ⟨g', rfl⟩ : ∃ g', gk = g' + 1 := ⟨gk - 1, by omega⟩
      have hn7 : n < 268435456 := Nat.lt_of_lt_of_le hn (Nat.pow_le_pow_right (n := 16) (j := 7) (by omega) (by omega))
      have hD := drop_cons_ba s pos hlt
      generalize hc : s[pos]'hlt = c at hD
      cases hv : hexv c.toNat with
      | some d =>
        have hd := hexv_lt hv
        have hc128 : (s[pos]'hlt).toNat < 128 := by
          rw [hc]; unfold hexv at hv; split at hv
          · omega
          · split at hv
            · omega
            · cases hv
        have hnx : ∀ ty, (Instr.next (.pointer (some ⟨w.heap.size, 0, none⟩)) true ty).run Tryd.prog wr = _ := fun ty => Lib.run_next_ascii_at wr w.heap.size s pos ty hit hlt hc128
        rw [hc] at hnx
        have hit2 := Lib.iterAt_heap wr w.heap.size s pos (pos + 1) hit
        have HB2 := Aside0.mk (Lib.below_iterAt HB.out (k := w.heap.size) (Nat.le_refl _) s (pos + 1))
        have HN2 : Aside0 (numL (s.data.toList.drop (pos + 1)) (16 * n + d) = numL s.data.toList 0) := ⟨by rw [← HN.out, hD]; exact (numL_some hv).symm⟩
        have hpow : 16 * n + d < 16 ^ (pos + 1) := by rw [Nat.pow_succ]; omega
        have HO := Aside0.mk (or_digit n d hn7 hd)
        have HV := Aside0.mk hv
        obtain ⟨W, hWd⟩ : ∃ W, wr.iterAt w.heap.size s (pos + 1) = W := ⟨_, rfl⟩
        rw [hWd] at hnx hit2 HB2
        clear hD hv hn hWd HN HB hit hc128 hc
        have hcl : c.toNat < 256 := c.toNat_lt
        by_cases hdig : 48 ≤ c.toNat ∧ c.toNat ≤ 57
        · have he : (c.toNat : Int) - 48 = (d : Int) := by
            have := HV.out; unfold hexv at this; rw [if_pos hdig] at this; have := Option.some.inj this; omega
          have HE := Aside0.mk he
          obtain ⟨hd1, hd2⟩ := hdig
          clear he
          go_wp2
          rw [HE.out, HO.out]
          go_roundg g'
          case measure => omega
          case rel => exact ⟨pos + 1, 16 * n + d, by omega, by omega, rfl, hpow, HN2, hit2, HB2⟩
        · have hal : 97 ≤ c.toNat ∧ c.toNat ≤ 102 ∧ d = c.toNat - 87 := by
            have := HV.out; unfold hexv at this; rw [if_neg hdig] at this; split at this
            · have := Option.some.inj this; omega
            · cases this
          obtain ⟨ha1, ha2, ha3⟩ := hal
          have hnd : ¬ (c.toNat : Int) ≤ 57 := by omega
          have HE := Aside0.mk (show (c.toNat : Int) - 97 + 10 = (d : Int) by omega)
          clear ha3 hdig
          go_wp2
          rw [HE.out, HO.out]
          go_roundg g'
          case measure => omega
          case rel => exact ⟨pos + 1, 16 * n + d, by omega, by omega, rfl, hpow, HN2, hit2, HB2⟩
      | none =>
        have hnx : ∀ ty, (Instr.next (.pointer (some ⟨w.heap.size, 0, none⟩)) true ty).run Tryd.prog wr = _ := fun ty => Lib.run_next_any_at wr w.heap.size s pos ty hit hlt
        have HX : Aside0 (numN s.data.toList = none) := ⟨by rw [H.out, ← HN.out, hD]; exact numL_none hv⟩
        have hR : ¬ (48 ≤ (Utf8.decode s pos).1 ∧ (Utf8.decode s pos).1 ≤ 57) ∧ ¬ (97 ≤ (Utf8.decode s pos).1 ∧ (Utf8.decode s pos).1 ≤ 102) := by
          by_cases h1 : c.toNat < 128
          · have h1' : (s[pos]'hlt).toNat < 128 := by rw [hc]; exact h1
            rw [decode_ascii s pos hlt h1', hc]
            unfold hexv at hv
            split at hv
            · cases hv
            · split at hv
              · cases hv
              · simp only; omega
          · have := rune_big s pos (by rw [get!_eq s pos hlt, hc]; omega)
            omega
        have HB2 := Aside0.mk (Lib.below_iterAt HB.out (k := w.heap.size) (Nat.le_refl _) s (pos + (Utf8.decode s pos).2))
        have hR2 := Lib.rune_le s pos
        generalize (Utf8.decode s pos).1 = R at hnx hR hR2
        generalize (Utf8.decode s pos).2 = K at hnx HB2
        obtain ⟨W, hWd⟩ : ∃ W, wr.iterAt w.heap.size s (pos + K) = W := ⟨_, rfl⟩
        rw [hWd] at hnx HB2
        clear hD hv hn hWd HN HB hit hc hn7
        obtain ⟨hRa, hRb⟩ := hR
        by_cases hq : R < 48
        · clear hRa hRb
          have q1 : ¬ (48 : Int) ≤ (R : Int) := by omega
          have q2 : ¬ (97 : Int) ≤ (R : Int) := by omega
          clear hq
          go_wp2
          go_ret2
          exact numPost_of HB2.out _ HX.out rfl
        · by_cases hq2 : R < 97
          · have q0 : (48 : Int) ≤ (R : Int) := by omega
            have q1 : ¬ (R : Int) ≤ 57 := by omega
            have q2 : ¬ (97 : Int) ≤ (R : Int) := by omega
            clear hRa hRb hq hq2
            go_wp2
            go_ret2
            exact numPost_of HB2.out _ HX.out rfl
          · have q0 : (48 : Int) ≤ (R : Int) := by omega
            have q1 : ¬ (R : Int) ≤ 57 := by omega
            have q2 : (97 : Int) ≤ (R : Int) := by omega
            have q3 : ¬ (R : Int) ≤ 102 := by omega
            clear hRa hRb hq hq2
            go_wp2
            go_ret2
            exact numPost_of HB2.out _ HX.out rfl
    · obtain rfl : pos = s.size := by omega
      have hnx : ∀ ty, (Instr.next (.pointer (some ⟨w.heap.size, 0, none⟩)) true ty).run Tryd.prog wr = _ := fun ty => Lib.run_next_end_at wr w.heap.size s s.size ty hit hlt
      have HX : Aside0 (numN s.data.toList = some n) := ⟨by rw [H.out, ← HN.out, List.drop_of_length_le (show s.data.toList.length ≤ s.size from Nat.le_of_eq Array.length_toList)]; rfl⟩
      clear HN hn
      go_wp2
      go_ret2
      exact numPost_of HB.out _ HX.out rfl
theorem bits_Number.calls (s : ByteArray) (r1 r2 : Int) (w : World) (h : bits_Number.f s = some (r1, r2)) :
    Calls Tryd.prog 139 #[.string s] w fun e w' => e = .returned (.tuple #[.int .i64 r1, .int .i64 r2]) ∧ Below w.heap.size w w' := by
  refine (number_calls s w).mono ?_
  rintro e w' ⟨rfl, hb⟩
  refine ⟨?_, hb⟩
  have h := Option.some.inj h
  cases hn : numN s.data.toList with
  | some n =>
    rw [hn] at h
    simp only [Prod.mk.injEq] at h
    obtain ⟨rfl, rfl⟩ := h
    rfl
  | none =>
    rw [hn] at h
    simp only [Prod.mk.injEq] at h
    obtain ⟨rfl, rfl⟩ := h
    rfl
end Go.Proofs.YthnafgffanlnfaaDoor.PSrc
namespace Go.Proofs.YthnafgffanlnfaaDoor.PSrc
open Go.RowKit Go.Proofs.YthnafgffanlnfaaDoorW.PrintWords Go.Proofs.YthnafgffanlnfaaDoorW.PrintLast Go.Proofs.YthnafgffanlnfaaDoorW.PrintMore
set_option linter.unusedVariables false
set_option linter.unusedSimpArgs false
def opName (i : Nat) : List UInt8 := ((code_name.f (i : Int)).getD ⟨#[]⟩).data.toList
theorem name_all : ((List.range 256).all fun i => (code_name.f (i : Int)).isSome) = true := by decide +kernel
theorem name_some {i : Nat} (h : i < 256) : code_name.f (i : Int) = some (mkB (opName i)) := by
  have := List.all_eq_true.1 name_all i (List.mem_range.2 h)
  unfold opName
  cases hx : code_name.f (i : Int) with
  | none => rw [hx] at this; cases this
  | some b => rw [Option.getD_some, mkB_data]
def firstFrom (s : List UInt8) : Nat → Nat → Option Nat
  | 0, _ => none
  | d + 1, i => if opName i = s then some i else firstFrom s d (i + 1)
def firstN (s : List UInt8) : Option Nat := firstFrom s 256 0
def firstI : Option Nat → Int
  | some i => i
  | none => -1
theorem firstFrom_lt {s : List UInt8} : ∀ {d i op : Nat}, firstFrom s d i = some op → i ≤ op ∧ op < i + d ∧ opName op = s
  | 0, _, _, h => by cases h
  | d + 1, i, op, h => by
    unfold firstFrom at h
    split at h
    · rename_i he
      have := Option.some.inj h
      subst this
      exact ⟨Nat.le_refl _, by omega, he⟩
    · have := firstFrom_lt h
      exact ⟨by omega, by omega, this.2.2⟩
theorem firstN_lt {s : List UInt8} {op : Nat} (h : firstN s = some op) : op < 256 ∧ opName op = s := by
  have := firstFrom_lt h
  exact ⟨by omega, this.2.2⟩
theorem toList_iff (a b : ByteArray) : (a.toList = b.toList) ↔ a.data.toList = b.data.toList := by
  rw [ByteArray.toList_eq, ByteArray.toList_eq]
theorem first_l0 (s : ByteArray) : ∀ (d i : Nat), i + d = 256 → code_first.l0 (d + 1) s (i : Int) = some (firstI (firstFrom s.data.toList d i))
  | 0, i, h => by
    obtain rfl : i = 256 := by omega
    simp only [code_first.l0]
    rw [if_neg (by omega)]
    rfl
  | d + 1, i, h => by
    simp only [code_first.l0]
    rw [if_pos (by omega), show ((i : Int) % 256) = (i : Int) by omega, name_some (by omega)]
    simp only [Option.bind_some]
    unfold firstFrom
    by_cases he : opName i = s.data.toList
    · rw [if_pos he, if_pos ((toList_iff (mkB (opName i)) s).2 he)]; rfl
    · rw [if_neg he, if_neg (fun h => he ((toList_iff (mkB (opName i)) s).1 h)), show wrap64 ((i : Int) + 1) = ((i + 1 : Nat) : Int) by unfold wrap64; omega]
      exact first_l0 s d (i + 1) (by omega)
theorem first_ev (s : ByteArray) : Ev (fun k => code_first.f k s) (firstI (firstN s.data.toList)) :=
  Ev.of (fun k => code_first.mono s k) (k := 257) (first_l0 s 256 0 rfl)
def opForm (i : Nat) : Int := (code_form.f 8 (i : Int)).getD 0
theorem form_all : ((List.range 256).all fun i => (code_form.f 8 (i : Int)).isSome && decide (1 ≤ opForm i) && decide (opForm i ≤ 6)) = true := by decide +kernel
theorem form_some {i : Nat} (h : i < 256) : code_form.f 8 (i : Int) = some (opForm i) ∧ 1 ≤ opForm i ∧ opForm i ≤ 6 := by
  have := List.all_eq_true.1 form_all i (List.mem_range.2 h)
  simp only [Bool.and_eq_true, decide_eq_true_eq] at this
  refine ⟨?_, this.1.2, this.2⟩
  have h1 := this.1.1
  unfold opForm
  cases hx : code_form.f 8 (i : Int) with
  | none => rw [hx] at h1; cases h1
  | some b => rfl
theorem form_ev {i : Nat} (h : i < 256) : Ev (fun k => code_form.f k (i : Int)) (opForm i) := Ev.of (fun k => code_form.mono _ k) (form_some h).1
def opBytes (i : Nat) : Int := rd lengthsT (opForm i)
def opCycles (i : Nat) : Int := if i / 16 = 12 then 3 else 2
theorem info_ev {i : Nat} (h : i < 256) : Ev (fun k => code_Info.f k (i : Int)) (mkB (opName i), opForm i, opBytes i, opCycles i) := by
  obtain ⟨K, hK⟩ := form_ev h
  refine ⟨K, fun k hk => ?_⟩
  simp only [code_Info.f, hK k hk, name_some h, Option.bind_some]
  obtain ⟨_, f1, f2⟩ := form_some h
  rw [if_pos (by omega), if_pos (by omega)]
  simp only [code_long.f, Option.bind_some]
  unfold opCycles
  by_cases hc : i / 16 = 12
  · rw [if_pos hc, if_pos (by simp; omega)]; rfl
  · rw [if_neg hc, if_neg (by simp; omega)]; rfl
def findR : Option Nat → ByteArray × Int × Int × Int × Bool
  | some i => (mkB (opName i), opForm i, opBytes i, opCycles i, true)
  | none => (⟨#[]⟩, 0, 0, 0, false)
theorem find_ev (s : ByteArray) : Ev (fun k => code_Find.f k s) (findR (firstN s.data.toList)) := by
  have h1 := first_ev s
  cases hf : firstN s.data.toList with
  | none =>
    rw [hf] at h1
    replace h1 : Ev (fun k => code_first.f k s) (-1) := h1
    obtain ⟨K, hK⟩ := h1
    refine ⟨K, fun k hk => ?_⟩
    simp only [code_Find.f, hK k hk, Option.bind_some]
    rfl
  | some i =>
    rw [hf] at h1
    replace h1 : Ev (fun k => code_first.f k s) (i : Int) := h1
    obtain ⟨hi, _⟩ := firstN_lt hf
    obtain ⟨K, hK⟩ := h1
    obtain ⟨K', hK'⟩ := info_ev hi
    dsimp only at hK hK'
    refine ⟨K + K', fun k hk => ?_⟩
    simp only [code_Find.f, hK k (by omega), Option.bind_some]
    rw [if_neg (by omega), show ((i : Int) % 256) = (i : Int) by omega, hK' k (by omega)]
    rfl
def argOk (i : Nat) (a : Int) : Bool :=
  if opForm i = 2 then (if i < 16 then decide (1 ≤ a) && decide (a ≤ 15) else decide (0 ≤ a) && decide (a ≤ 15))
  else if opForm i = 3 then decide (1 ≤ a) && decide (a ≤ 7)
  else if opForm i = 4 ∨ opForm i = 5 then decide (0 ≤ a) && decide (a ≤ 255)
  else if opForm i = 6 then decide (0 ≤ a) && decide (a ≤ 65535)
  else decide (a = 0)
def encE : Option Nat → Int → Int
  | some i, a => if argOk i a then 0 else 21
  | none, _ => 20
theorem enc_j2 (op f : Int) (b : Bool) (s : ByteArray) (a : Int) (h1 : 1 ≤ f) (h6 : f ≤ 6) (k : Nat) : ∃ bs, code_Encode.j2 (k + 4) op f b s a = some (bs, if b = true then 21 else 0) := by
  cases b with
  | true => exact ⟨[], by simp [code_Encode.j2]⟩
  | false =>
    have : f = 1 ∨ f = 2 ∨ f = 3 ∨ f = 4 ∨ f = 5 ∨ f = 6 := by omega
    rcases this with rfl | rfl | rfl | rfl | rfl | rfl <;> simp [code_Encode.j2, code_Encode.j3, code_Encode.j4, bits_High.f, bits_Low.f]
theorem enc_j1 (op f lo hi : Int) (s : ByteArray) (a : Int) (h1 : 1 ≤ f) (h6 : f ≤ 6) (k : Nat) : ∃ bs, code_Encode.j1 (k + 5) op f lo hi s a = some (bs, if lo ≤ a ∧ a ≤ hi then 0 else 21) := by
  rw [show k + 5 = (k + 4) + 1 from rfl]
  simp only [code_Encode.j1]
  by_cases hl : a < lo
  · rw [if_pos hl]
    obtain ⟨bs, e⟩ := enc_j2 op f true s a h1 h6 k
    exact ⟨bs, by rw [e, if_pos rfl, if_neg (fun h => by have := h.1; omega)]⟩
  · rw [if_neg hl]
    obtain ⟨bs, e⟩ := enc_j2 op f (decide (a > hi)) s a h1 h6 k
    refine ⟨bs, ?_⟩
    rw [e]
    by_cases hh : a > hi
    · rw [if_pos (by simpa using hh), if_neg (fun h => by have := h.2; omega)]
    · rw [if_neg (by simpa using hh), if_pos ⟨by omega, by omega⟩]
theorem encE_eq {i : Nat} {a lo hi : Int} (h : argOk i a = (decide (lo ≤ a) && decide (a ≤ hi))) : encE (some i) a = if lo ≤ a ∧ a ≤ hi then 0 else 21 := by
  show (if argOk i a then (0 : Int) else 21) = _
  rw [h]; simp only [Bool.and_eq_true, decide_eq_true_eq]
theorem enc_ev (s : ByteArray) (a : Int) : ∃ bs, Ev (fun k => code_Encode.f k s a) (bs, encE (firstN s.data.toList) a) := by
  have h1 := first_ev s
  cases hf : firstN s.data.toList with
  | none =>
    rw [hf] at h1
    replace h1 : Ev (fun k => code_first.f k s) (-1) := h1
    obtain ⟨K, hK⟩ := h1
    refine ⟨[], K, fun k hk => ?_⟩
    simp only [code_Encode.f, hK k hk, Option.bind_some]
    rfl
  | some i =>
    rw [hf] at h1
    replace h1 : Ev (fun k => code_first.f k s) (i : Int) := h1
    obtain ⟨hi, _⟩ := firstN_lt hf
    obtain ⟨K, hK⟩ := h1
    obtain ⟨K', hK'⟩ := form_ev hi
    dsimp only at hK hK'
    obtain ⟨_, f1, f6⟩ := form_some hi
    have main : ∃ bs, code_Encode.f (K + K' + 10) s a = some (bs, encE (some i) a) := by
      simp only [code_Encode.f, hK (K + K' + 10) (by omega), Option.bind_some]
      rw [if_neg (by omega), show ((i : Int) % 256) = (i : Int) by omega, hK' (K + K' + 10) (by omega)]
      simp only [Option.bind_some]
      have e10 : K + K' + 10 = (K + K' + 5) + 5 := rfl
      have e9 : K + K' + 10 = (K + K' + 9) + 1 := rfl
      have : opForm i = 1 ∨ opForm i = 2 ∨ opForm i = 3 ∨ opForm i = 4 ∨ opForm i = 5 ∨ opForm i = 6 := by omega
      rcases this with hv | hv | hv | hv | hv | hv
      · rw [hv, encE_eq (lo := 0) (hi := 0) (by unfold argOk; rw [hv, Bool.eq_iff_iff]; simp; omega)]
        rw [if_neg (by omega), if_neg (by omega), if_neg (by omega), e9]
        simp only [code_Encode.j0]
        rw [if_neg (by decide), if_neg (by omega)]
        exact enc_j1 i 1 0 0 s a (by omega) (by omega) (K + K' + 4)
      · rw [hv, if_pos rfl]
        by_cases h16 : i < 16
        · rw [encE_eq (lo := 1) (hi := 15) (by unfold argOk; rw [hv, if_pos rfl, if_pos h16]), if_pos (by omega), e10]
          exact enc_j1 0 2 1 15 s a (by omega) (by omega) (K + K' + 5)
        · rw [encE_eq (lo := 0) (hi := 15) (by unfold argOk; rw [hv, if_pos rfl, if_neg h16]), if_neg (by omega), e10]
          exact enc_j1 i 2 0 15 s a (by omega) (by omega) (K + K' + 5)
      · rw [hv, if_neg (by omega), if_pos rfl, encE_eq (lo := 1) (hi := 7) (by unfold argOk; rw [hv, if_neg (by omega), if_pos rfl]), e10]
        exact enc_j1 (wrap64 (i - 1)) 3 1 7 s a (by omega) (by omega) (K + K' + 5)
      · rw [hv, if_neg (by omega), if_neg (by omega), if_pos rfl, encE_eq (lo := 0) (hi := 255) (by unfold argOk; rw [hv, if_neg (by omega), if_neg (by omega), if_pos (Or.inl rfl)]), e9]
        simp only [code_Encode.j0]
        rw [if_pos (by decide)]
        exact enc_j1 i 4 0 255 s a (by omega) (by omega) (K + K' + 4)
      · rw [hv, if_neg (by omega), if_neg (by omega), if_neg (by omega), encE_eq (lo := 0) (hi := 255) (by unfold argOk; rw [hv, if_neg (by omega), if_neg (by omega), if_pos (Or.inr rfl)]), e9]
        simp only [code_Encode.j0]
        rw [if_pos (by decide)]
        exact enc_j1 i 5 0 255 s a (by omega) (by omega) (K + K' + 4)
      · rw [hv, if_neg (by omega), if_neg (by omega), if_neg (by omega), encE_eq (lo := 0) (hi := 65535) (by unfold argOk; rw [hv, if_neg (by omega), if_neg (by omega), if_neg (by omega), if_pos rfl]), e9]
        simp only [code_Encode.j0]
        rw [if_neg (by decide), if_pos trivial]
        exact enc_j1 i 6 0 65535 s a (by omega) (by omega) (K + K' + 4)
    obtain ⟨bs, e⟩ := main
    exact ⟨bs, Ev.of (fun k => code_Encode.mono s a k) e⟩
def hexd (d : Nat) : UInt8 := UInt8.ofNat (if d < 10 then 48 + d else 87 + d)
def hexL : Nat → Nat → List UInt8
  | 0, _ => []
  | m + 1, n => hexL m (n / 16) ++ [hexd (n % 16)]
def hexT : ByteArray := ⟨#[48, 49, 50, 51, 52, 53, 54, 55, 56, 57, 97, 98, 99, 100, 101, 102]⟩
theorem hexT_at : ((List.range 16).all fun d => decide (bt hexT (d : Int) = ((hexd d).toNat : Int))) = true := by decide +kernel
theorem bt_hex {d : Nat} (h : d < 16) : bt hexT (d : Int) = ((hexd d).toNat : Int) := of_decide_eq_true (List.all_eq_true.1 hexT_at d (List.mem_range.2 h))
theorem and15 (n : Nat) (h : n < 4294967296) : bits .and .i64 (n : Int) 15 = ((n % 16 : Nat) : Int) := by
  show IntKind.i64.wrap ((BitVec.ofInt 64 (n : Int) &&& BitVec.ofInt 64 ((15 : Nat) : Int)).toNat : Int) = _
  rw [BitVec.toNat_and, BitVec.ofInt_natCast, BitVec.ofInt_natCast, BitVec.toNat_ofNat, BitVec.toNat_ofNat, Nat.mod_eq_of_lt (show n < 2 ^ 64 by omega), Nat.mod_eq_of_lt (show 15 < 2 ^ 64 by omega), show (15 : Nat) = 2 ^ 4 - 1 by decide, Nat.and_two_pow_sub_one_eq_mod]
  exact IntWalk.i64_in _ (by omega)
theorem hex_step (k : Nat) (n : Nat) (m : Int) (x5 : List Int) (x27 : Int) (i : Nat) (hn : n < 4294967296) (hm : 1 ≤ m ∧ m ≤ 8) (hi : (i : Int) < m) (h27 : x27 = m) (hl : (x5.length : Int) = m) :
    bits_Hex.l0 (k + 1) (n : Int) m x5 x27 (i : Int) = bits_Hex.l0 k ((n / 16 : Nat) : Int) m (x5.set (m.toNat - 1 - i) ((hexd (n % 16)).toNat : Int)) x27 ((i + 1 : Nat) : Int) := by
  simp only [bits_Hex.l0]
  have e1 : wrap64 (wrap64 (m - 1) - (i : Int)) = ((m.toNat - 1 - i : Nat) : Int) := by unfold wrap64; omega
  have e2 : wrap64 ((i : Int) + 1) = ((i + 1 : Nat) : Int) := by unfold wrap64; omega
  have e3 : ((n : Int) / 16) = ((n / 16 : Nat) : Int) := by omega
  rw [and15 n hn, e1, e2, e3]
  rw [if_pos (by omega), if_pos (by omega), if_pos (by omega), if_pos (by omega), if_pos (by omega), Int.toNat_natCast]
  congr 2
  exact bt_hex (by omega)
theorem hex_end (k : Nat) (n m : Int) (x5 : List Int) (x27 i : Int) (h : ¬ i < x27) : bits_Hex.l0 (k + 1) n m x5 x27 i = some (strOfNums x5) := by
  simp only [bits_Hex.l0]
  rw [if_neg h]
theorem strOf_map (l : List UInt8) : strOfNums (l.map fun b => (b.toNat : Int)) = mkB l := by
  unfold strOfNums mkB
  rw [List.map_map]
  congr 2
  conv => rhs; rw [← List.map_id l]
  apply List.map_congr_left
  intro b _
  simp
theorem hex_pow {n m : Nat} (h : n < 16 ^ m) (hm : m = 1 ∨ m = 2 ∨ m = 4) : ¬ ((n : Int) ≥ shl .i64 1 (wrap64 (4 * (m : Int)))) ∧ 0 ≤ wrap64 (4 * (m : Int)) := by
  rcases hm with rfl | rfl | rfl
  · rw [show shl .i64 1 (wrap64 (4 * ((1 : Nat) : Int))) = 16 by decide +kernel, show wrap64 (4 * ((1 : Nat) : Int)) = 4 by decide +kernel]; omega
  · rw [show shl .i64 1 (wrap64 (4 * ((2 : Nat) : Int))) = 256 by decide +kernel, show wrap64 (4 * ((2 : Nat) : Int)) = 8 by decide +kernel]; omega
  · rw [show shl .i64 1 (wrap64 (4 * ((4 : Nat) : Int))) = 65536 by decide +kernel, show wrap64 (4 * ((4 : Nat) : Int)) = 16 by decide +kernel]; omega
theorem hex_ev (n m : Nat) (h : n < 16 ^ m) (hm : m = 1 ∨ m = 2 ∨ m = 4) : Ev (fun k => bits_Hex.f k (n : Int) (m : Int)) (mkB (hexL m n)) := by
  obtain ⟨h1, h0⟩ := hex_pow h hm
  refine Ev.of (fun k => bits_Hex.mono _ _ k) (k := 10) ?_
  simp only [bits_Hex.f]
  rw [if_neg (by omega), if_neg (by omega), if_neg (by omega), if_pos h0]
  rw [show (10 : Nat) = 9 + 1 from rfl]
  simp only [bits_Hex.j0]
  rw [if_neg (by rw [decide_eq_true_eq]; exact h1), if_pos (by omega), if_pos (by omega)]
  simp only [Option.bind_some]
  rcases hm with rfl | rfl | rfl
  · have e := hex_step 8 n 1 [0] 1 0 (by omega) (by omega) (by omega) rfl rfl
    rw [show (Int.toNat ((1 : Nat) : Int)) = 1 from rfl]
    refine e.trans ?_
    rw [show (8 : Nat) = 7 + 1 from rfl, hex_end _ _ _ _ _ _ (by omega)]
    exact congrArg some (strOf_map (hexL 1 n))
  · have e := hex_step 8 n 2 [0, 0] 2 0 (by omega) (by omega) (by omega) rfl rfl
    rw [show (Int.toNat ((2 : Nat) : Int)) = 2 from rfl]
    refine e.trans ?_
    refine (hex_step 7 (n / 16) 2 _ 2 1 (by omega) (by omega) (by omega) rfl rfl).trans ?_
    rw [show (7 : Nat) = 6 + 1 from rfl, hex_end _ _ _ _ _ _ (by omega)]
    exact congrArg some (strOf_map (hexL 2 n))
  · have e := hex_step 8 n 4 [0, 0, 0, 0] 4 0 (by omega) (by omega) (by omega) rfl rfl
    rw [show (Int.toNat ((4 : Nat) : Int)) = 4 from rfl]
    refine e.trans ?_
    refine (hex_step 7 (n / 16) 4 _ 4 1 (by omega) (by omega) (by omega) rfl rfl).trans ?_
    refine (hex_step 6 (n / 16 / 16) 4 _ 4 2 (by omega) (by omega) (by omega) rfl rfl).trans ?_
    refine (hex_step 5 (n / 16 / 16 / 16) 4 _ 4 3 (by omega) (by omega) (by omega) rfl rfl).trans ?_
    rw [show (5 : Nat) = 4 + 1 from rfl, hex_end _ _ _ _ _ _ (by omega)]
    exact congrArg some (strOf_map (hexL 4 n))
def opDigits (i : Nat) : Nat := (rd digitsT (opForm i)).toNat
def opLine (i : Nat) (s : List UInt8) (a : Nat) : List UInt8 := if opForm i = 1 then s else s ++ [32] ++ hexL (opDigits i) a
def printR (s : List UInt8) (a : Int) : ByteArray × Int :=
  match firstN s with
  | some i => if argOk i a then (mkB (opLine i s a.toNat), 0) else (⟨#[]⟩, 21)
  | none => (⟨#[]⟩, 20)
theorem argOk_nat {i : Nat} {a : Int} (hi : i < 256) (h : argOk i a = true) : 0 ≤ a ∧ (opForm i ≠ 1 → a.toNat < 16 ^ opDigits i ∧ (opDigits i = 1 ∨ opDigits i = 2 ∨ opDigits i = 4)) := by
  unfold argOk at h
  unfold opDigits
  by_cases h2 : opForm i = 2
  · rw [if_pos h2] at h
    rw [h2, show (rd digitsT 2).toNat = 1 from rfl]
    split at h <;> simp only [Bool.and_eq_true, decide_eq_true_eq] at h <;> exact ⟨by omega, fun _ => ⟨by omega, by omega⟩⟩
  by_cases h3 : opForm i = 3
  · rw [if_neg h2, if_pos h3] at h
    rw [h3, show (rd digitsT 3).toNat = 1 from rfl]
    simp only [Bool.and_eq_true, decide_eq_true_eq] at h
    exact ⟨by omega, fun _ => ⟨by omega, by omega⟩⟩
  by_cases h4 : opForm i = 4
  · rw [if_neg h2, if_neg h3, if_pos (Or.inl h4)] at h
    rw [h4, show (rd digitsT 4).toNat = 2 from rfl]
    simp only [Bool.and_eq_true, decide_eq_true_eq] at h
    exact ⟨by omega, fun _ => ⟨by omega, by omega⟩⟩
  by_cases h5 : opForm i = 5
  · rw [if_neg h2, if_neg h3, if_pos (Or.inr h5)] at h
    rw [h5, show (rd digitsT 5).toNat = 2 from rfl]
    simp only [Bool.and_eq_true, decide_eq_true_eq] at h
    exact ⟨by omega, fun _ => ⟨by omega, by omega⟩⟩
  by_cases h6 : opForm i = 6
  · rw [if_neg h2, if_neg h3, if_neg (by omega), if_pos h6] at h
    rw [h6, show (rd digitsT 6).toNat = 4 from rfl]
    simp only [Bool.and_eq_true, decide_eq_true_eq] at h
    exact ⟨by omega, fun _ => ⟨by omega, by omega⟩⟩
  rw [if_neg h2, if_neg h3, if_neg (by omega), if_neg h6] at h
  simp only [decide_eq_true_eq] at h
  obtain ⟨_, f1, f6⟩ := form_some hi
  exact ⟨by omega, fun h1 => by omega⟩
theorem name_len : ((List.range 256).all fun i => decide ((opName i).length ≤ 4)) = true := by decide +kernel
theorem opName_len {i : Nat} (h : i < 256) : (opName i).length ≤ 4 := of_decide_eq_true (List.all_eq_true.1 name_len i (List.mem_range.2 h))
theorem size_list (s : ByteArray) : s.size = s.data.toList.length := Array.length_toList.symm
theorem first_size {s : ByteArray} {i : Nat} (h : firstN s.data.toList = some i) : s.size ≤ 4 := by
  obtain ⟨hi, he⟩ := firstN_lt h
  rw [size_list, ← he]
  exact opName_len hi
theorem mkB_append (a b : List UInt8) : mkB a ++ mkB b = mkB (a ++ b) := by
  rw [← mkB_data (mkB a ++ mkB b)]
  congr 1
theorem hexL_len : ∀ (m n : Nat), (hexL m n).length = m
  | 0, _ => rfl
  | m + 1, n => by rw [hexL, List.length_append, hexL_len m]; rfl
theorem print_ev (s : ByteArray) (a : Int) : Ev (fun k => code_Print.f k s a) (printR s.data.toList a) := by
  obtain ⟨bs, K1, h1⟩ := enc_ev s a
  obtain ⟨K2, h2⟩ := find_ev s
  dsimp only at h1 h2
  unfold printR
  cases hf : firstN s.data.toList with
  | none =>
    rw [hf] at h1 h2
    refine ⟨K1 + K2, fun k hk => ?_⟩
    simp only [code_Print.f, h1 k (by omega), Option.bind_some]
    rfl
  | some i =>
    rw [hf] at h1 h2
    obtain ⟨hi, hn⟩ := firstN_lt hf
    have hsz := first_size hf
    by_cases ha : argOk i a = true
    · have he : encE (some i) a = 0 := if_pos ha
      rw [he] at h1
      obtain ⟨a0, hd⟩ := argOk_nat hi ha
      obtain ⟨_, f1, f6⟩ := form_some hi
      simp only [ha, if_true]
      by_cases hq : opForm i = 1
      · refine ⟨K1 + K2, fun k hk => ?_⟩
        simp only [code_Print.f, h1 k (by omega), h2 k (by omega), Option.bind_some]
        rw [if_pos trivial]
        show (if opForm i = 1 then some (s, 0) else _) = _
        rw [if_pos hq]
        unfold opLine
        rw [if_pos hq, mkB_data]
      · obtain ⟨p1, p2⟩ := hd hq
        obtain ⟨K3, h3⟩ := hex_ev a.toNat (opDigits i) p1 p2
        dsimp only at h3
        have hdig : rd digitsT (opForm i) = (opDigits i : Int) := by unfold opDigits at p2 ⊢; omega
        refine ⟨K1 + K2 + K3, fun k hk => ?_⟩
        simp only [code_Print.f, h1 k (by omega), h2 k (by omega), Option.bind_some]
        rw [if_pos trivial]
        show (if opForm i = 1 then some (s, 0) else (if s.size + 1 ≤ 9223372036854775807 then (if 0 ≤ opForm i then (if opForm i < 7 then ((bits_Hex.f k a (rd digitsT (opForm i))).bind fun t113 => (if (s ++ (⟨#[32]⟩ : ByteArray)).size + t113.size ≤ 9223372036854775807 then (some ((s ++ (⟨#[32]⟩ : ByteArray)) ++ t113, 0)) else (none))) else (none)) else (none)) else (none))) = _
        rw [if_neg hq, if_pos (by omega), if_pos (by omega), if_pos (by omega), hdig, show a = ((a.toNat : Nat) : Int) by omega, h3 k (by omega)]
        simp only [Option.bind_some]
        rw [if_pos (by rw [ByteArray.size_append, size_list (mkB _), data_mkB, hexL_len, show (ByteArray.size ⟨#[32]⟩) = 1 from rfl]; omega)]
        unfold opLine
        rw [if_neg hq, ← mkB_append, ← mkB_append, mkB_data]
        rfl
    · have he : encE (some i) a = 21 := if_neg ha
      rw [he] at h1
      simp only [ha, if_false]
      refine ⟨K1 + K2, fun k hk => ?_⟩
      simp only [code_Print.f, h1 k (by omega), Option.bind_some]
      rfl
end Go.Proofs.YthnafgffanlnfaaDoor.PSrc
namespace Go.Proofs.YthnafgffanlnfaaDoor.PSrc
open Go.RowKit Go.Proofs.YthnafgffanlnfaaDoorW.PrintWords Go.Proofs.YthnafgffanlnfaaDoorW.PrintLast Go.Proofs.YthnafgffanlnfaaDoorW.PrintMore
set_option linter.unusedVariables false
set_option linter.unusedSimpArgs false
def lowerB (c : UInt8) : Bool := decide (97 ≤ c.toNat) && decide (c.toNat ≤ 122)
def wordB (c : UInt8) : Bool := lowerB c || (decide (48 ≤ c.toNat) && decide (c.toNat ≤ 57)) || c.toNat == 45
def nameB : List UInt8 → Bool
  | [] => false
  | c :: r => decide (r.length ≤ 15) && lowerB c && (c :: r).all wordB
def smallT : List UInt8 := [97, 98, 99, 100, 101, 102, 103, 104, 105, 106, 107, 108, 109, 110, 111, 112, 113, 114, 115, 116, 117, 118, 119, 120, 121, 122]
def othersT : List UInt8 := [97, 98, 99, 100, 101, 102, 103, 104, 105, 106, 107, 108, 109, 110, 111, 112, 113, 114, 115, 116, 117, 118, 119, 120, 121, 122, 48, 49, 50, 51, 52, 53, 54, 55, 56, 57, 45]
theorem small_all : ((List.range 256).all fun c => smallT.contains (UInt8.ofNat c) == lowerB (UInt8.ofNat c) && (othersT.contains (UInt8.ofNat c) == wordB (UInt8.ofNat c))) = true := by decide +kernel
theorem small_is (c : UInt8) : smallT.contains c = lowerB c ∧ othersT.contains c = wordB c := by
  have := List.all_eq_true.1 small_all c.toNat (List.mem_range.2 c.toNat_lt)
  simp only [UInt8.ofNat_toNat, Bool.and_eq_true, beq_iff_eq] at this
  exact this
theorem contains_one (c : UInt8) (l : List UInt8) : Lib.contains l [c] = l.contains c := by
  unfold Lib.contains
  rw [index_one, Bool.eq_iff_iff, decide_eq_true_eq, List.contains_iff_mem]
  by_cases h : c ∈ l
  · simp [h]
  · simp [h]
theorem dropWhile_nil_iff {α : Type} (p : α → Bool) : ∀ l : List α, l.dropWhile p = [] ↔ l.all p = true
  | [] => by simp
  | c :: r => by
    rw [List.dropWhile_cons, List.all_cons]
    cases hp : p c with
    | true => simp only [if_true, Bool.true_and]; exact dropWhile_nil_iff p r
    | false => simp
theorem dropWhile_not_all {α : Type} (p : α → Bool) (l : List α) (h : ¬ l.all p = true) : ¬ (l.dropWhile p).all p = true := by
  intro h2
  apply h
  conv => lhs; arg 1; rw [← List.takeWhile_append_dropWhile (p := p) (l := l)]
  rw [List.all_append, h2, Bool.and_true]
  exact List.all_takeWhile
theorem trim_nil (l cs : List UInt8) : Lib.trimS l cs = [] ↔ l.all (cs.contains ·) = true := by
  unfold Lib.trimS Lib.trimLeftS Lib.trimRightS
  rw [dropWhile_nil_iff, List.all_reverse]
  by_cases h : l.all (cs.contains ·) = true
  · have hr : l.reverse.all (cs.contains ·) = true := by rw [List.all_reverse]; exact h
    rw [(dropWhile_nil_iff _ _).2 hr]
    exact ⟨fun _ => h, fun _ => rfl⟩
  · have hr : ¬ l.reverse.all (cs.contains ·) = true := by rw [List.all_reverse]; exact h
    have := dropWhile_not_all _ _ hr
    exact ⟨fun h2 => absurd h2 this, fun h2 => absurd h2 h⟩
theorem nameB_cons (c : UInt8) (r : List UInt8) : nameB (c :: r) = (decide (r.length ≤ 15) && lowerB c && (c :: r).all wordB) := rfl
theorem name_eq (s : ByteArray) : source_name.f s = some (nameB s.data.toList) := by
  unfold source_name.f
  cases hl : s.data.toList with
  | nil => rw [if_pos (by rw [ByteArray.toList_eq, hl])]; rfl
  | cons c r =>
    have hz : s.size = r.length + 1 := by rw [size_list, hl]; rfl
    rw [if_neg (by rw [ByteArray.toList_eq, hl]; simp)]
    by_cases h16 : (s.size : Int) ≤ 16
    · rw [if_pos h16, if_pos (by decide), if_pos (by omega)]
      have he : (s.extract 0 1).data.toList = [c] := by rw [seg_data]; unfold seg; rw [hl]; rfl
      have e1 : strings_Contains.f (⟨#[97, 98, 99, 100, 101, 102, 103, 104, 105, 106, 107, 108, 109, 110, 111, 112, 113, 114, 115, 116, 117, 118, 119, 120, 121, 122]⟩ : ByteArray) (s.extract 0 1) = some (lowerB c) := by
        unfold strings_Contains.f
        rw [if_pos (by decide), he, contains_one]
        congr 1
        exact (small_is c).1
      rw [e1]
      simp only [Option.bind_some]
      rw [nameB_cons, show decide (r.length ≤ 15) = true from decide_eq_true (by omega), Bool.true_and]
      cases hc : lowerB c with
      | false => simp
      | true =>
        rw [if_pos rfl]
        have e2 : strings_Trim.f s (⟨#[97, 98, 99, 100, 101, 102, 103, 104, 105, 106, 107, 108, 109, 110, 111, 112, 113, 114, 115, 116, 117, 118, 119, 120, 121, 122, 48, 49, 50, 51, 52, 53, 54, 55, 56, 57, 45]⟩ : ByteArray) = some (mkB (Lib.trimS (c :: r) othersT)) := by
          unfold strings_Trim.f
          rw [if_pos (by omega), if_pos (by decide), if_pos (by decide), hl]
          rfl
        rw [e2]
        simp only [Option.bind_some, Bool.true_and]
        congr 1
        rw [ByteArray.toList_eq, data_mkB, Bool.eq_iff_iff, beq_iff_eq, trim_nil, List.all_eq_true, List.all_eq_true]
        constructor
        · intro h x hx; rw [← (small_is x).2]; exact h x hx
        · intro h x hx; rw [(small_is x).2]; exact h x hx
    · rw [if_neg h16]
      rw [nameB_cons, show decide (r.length ≤ 15) = false from decide_eq_false (by omega)]
      rfl
def instrB (name : List UInt8) (arg : Int) (label : List UInt8) (part : Int) (nb : Nat) : Bool :=
  match firstN name with
  | none => false
  | some i =>
    if 0 < nb then false
    else if part = 0 then argOk i arg && decide (label = [])
    else if arg ≠ 0 then false
    else if nameB label = false then false
    else if opForm i = 4 then (part == 2 || part == 3)
    else if opForm i = 5 ∨ opForm i = 6 then part == 1
    else false
def mayB (kind : Int) (name : List UInt8) (arg : Int) (label : List UInt8) (part : Int) (nb : Nat) : Bool :=
  if kind = 2 then instrB name arg label part nb
  else if part = 0 then (
  if kind = 1 then decide (arg = 0) && decide (label = []) && decide (nb = 0) && nameB name
  else if kind = 3 then decide (name = []) && decide (arg = 0) && decide (label = []) && decide (1 ≤ nb) && decide (nb ≤ 256)
  else if kind = 4 then decide (name = []) && decide (label = []) && decide (nb = 0) && decide (0 ≤ arg) && decide (arg ≤ 65535)
  else if kind = 5 then decide (name = []) && decide (arg = 0) && decide (nb = 0) && nameB label
  else false) else false
theorem instr_ev (kind : Int) (name : ByteArray) (arg : Int) (label : ByteArray) (part : Int) (bs : List Int) :
    Ev (fun k => source_instruction.f k kind name arg label part bs) (instrB name.data.toList arg label.data.toList part bs.length) := by
  obtain ⟨K1, h1⟩ := find_ev name
  obtain ⟨eb, K2, h2⟩ := enc_ev name arg
  dsimp only at h1 h2
  refine ⟨K1 + K2 + 3, fun k hk => ?_⟩
  obtain ⟨m, rfl⟩ : ∃ m, k = m + 2 := ⟨k - 2, by omega⟩
  simp only [source_instruction.f, h1 (m + 2) (by omega), Option.bind_some]
  unfold instrB
  cases hf : firstN name.data.toList with
  | none =>
    simp only [findR, Bool.false_eq_true, if_false]
    simp [source_instruction.j0]
  | some i =>
    rw [hf] at h2
    simp only [findR, if_true]
    by_cases hb : 0 < bs.length
    · have : decide ((bs.length : Int) > 0) = true := decide_eq_true (by omega)
      rw [this, if_pos hb]
      simp [source_instruction.j0]
    · have : decide ((bs.length : Int) > 0) = false := decide_eq_false (by omega)
      rw [this, if_neg hb]
      rw [show m + 2 = (m + 1) + 1 from rfl]
      simp only [source_instruction.j0, Bool.false_eq_true, if_false]
      by_cases hp : part = 0
      · rw [if_pos hp, if_pos hp, h2 (m + 1) (by omega)]
        simp only [Option.bind_some]
        show (if encE (some i) arg = 0 then some (label.toList == []) else some false) = _
        by_cases ha : argOk i arg = true
        · rw [show encE (some i) arg = 0 from if_pos ha, if_pos rfl, ha, Bool.true_and, ByteArray.toList_eq]
          congr 1
          rw [Bool.eq_iff_iff]; simp
        · rw [show encE (some i) arg = 21 from if_neg ha, if_neg (by decide)]
          rw [Bool.not_eq_true] at ha
          rw [ha]; rfl
      · rw [if_neg hp, if_neg hp]
        by_cases ha : arg = 0
        · rw [if_pos ha, if_neg (fun h => h ha), name_eq]
          simp only [Option.bind_some]
          cases hn : nameB label.data.toList with
          | false => simp [source_instruction.j1]
          | true =>
            simp only [Bool.not_true, source_instruction.j1, Bool.false_eq_true, Bool.true_eq_false, if_false]
            by_cases h4 : opForm i = 4
            · rw [if_pos h4]
              simp only [h4, if_true]
              by_cases h2' : part = 2
              · rw [if_pos h2']; subst h2'; rfl
              · rw [if_neg h2']
                congr 1
                rw [show (part == 2) = false from beq_eq_false_iff_ne.2 h2', Bool.false_or]
            · rw [if_neg h4]
              simp only [h4, if_false]
              by_cases h5 : opForm i = 5
              · rw [if_pos h5, if_pos (Or.inl h5)]
              · rw [if_neg h5]
                by_cases h6 : opForm i = 6
                · rw [if_pos h6, if_pos (Or.inr h6)]
                · rw [if_neg h6, if_neg (by simp [h5, h6])]
        · rw [if_neg ha, if_pos ha]
          simp [source_instruction.j1]
theorem may_ev (kind : Int) (name : ByteArray) (arg : Int) (label : ByteArray) (part : Int) (bs : List Int) :
    Ev (fun k => source_may.f k kind name arg label part bs) (mayB kind name.data.toList arg label.data.toList part bs.length) := by
  obtain ⟨K1, h1⟩ := instr_ev kind name arg label part bs
  dsimp only at h1
  refine ⟨K1 + 3, fun k hk => ?_⟩
  obtain ⟨m, rfl⟩ : ∃ m, k = m + 1 := ⟨k - 1, by omega⟩
  have el : (label.toList = ([] : List UInt8)) ↔ label.data.toList = [] := by rw [ByteArray.toList_eq]
  have en : (name.toList = ([] : List UInt8)) ↔ name.data.toList = [] := by rw [ByteArray.toList_eq]
  have ez : decide ((bs.length : Int) > 0) = !decide (bs.length = 0) := by
    by_cases h : bs.length = 0
    · simp [h]
    · simp [h]; omega
  unfold mayB
  simp only [source_may.f, source_may.j0]
  by_cases h2 : kind = 2
  · rw [if_pos h2, if_pos h2, h1 (m + 1) (by omega)]; rfl
  · rw [if_neg h2, if_neg h2]
    by_cases hp : part = 0
    · rw [if_pos hp, if_pos hp]
      by_cases k1 : kind = 1
      · subst k1
        simp only [show ¬ ((1 : Int) = 4) by decide, show ¬ ((1 : Int) = 5) by decide, show ¬ ((1 : Int) = 3) by decide, if_true, if_false]
        by_cases ha : arg = 0
        · by_cases hl : label.data.toList = []
          · rw [if_pos ha, if_pos (el.2 hl), ez, name_eq]
            by_cases hb : bs.length = 0
            · simp [ha, hl, hb]
              first | done | (split <;> simp_all)
            · simp [hb]
          · rw [if_pos ha, if_neg (fun h => hl (el.1 h))]
            simp [hl]
        · rw [if_neg ha]
          simp [ha]
      · rw [if_neg k1, if_neg k1]
        by_cases hn : name.data.toList = []
        · rw [if_pos (en.2 hn)]
          by_cases k3 : kind = 3
          · subst k3
            simp only [show ¬ ((3 : Int) = 4) by decide, show ¬ ((3 : Int) = 5) by decide, show ¬ ((3 : Int) = 1) by decide, if_true, if_false]
            by_cases ha : arg = 0
            · by_cases hl : label.data.toList = []
              · rw [if_pos ha, if_pos (el.2 hl)]
                simp only [Bool.false_eq_true, if_false]
                by_cases hb : 1 ≤ bs.length
                · rw [if_pos (by omega)]
                  congr 1
                  simp only [hn, ha, hl, hb, decide_true, Bool.true_and, Bool.and_true]
                  rw [Bool.eq_iff_iff]; simp; omega
                · rw [if_neg (by omega)]
                  simp [hb]
              · rw [if_pos ha, if_neg (fun h => hl (el.1 h))]
                simp [hl]
            · rw [if_neg ha]
              simp [ha]
          · by_cases k4 : kind = 4
            · subst k4
              simp only [show ¬ ((4 : Int) = 5) by decide, show ¬ ((4 : Int) = 3) by decide, show ¬ ((4 : Int) = 1) by decide, if_true, if_false]
              by_cases hl : label.data.toList = []
              · rw [if_pos (el.2 hl), ez]
                by_cases hb : bs.length = 0
                · simp only [hb, decide_true, Bool.not_true, Bool.false_eq_true, if_false, hn, hl, Bool.true_and, Bool.and_true]
                  by_cases ha : 0 ≤ arg
                  · rw [if_pos (by omega)]; simp [ha]
                  · rw [if_neg (by omega)]; simp [ha]
                · simp [hb]
              · rw [if_neg (fun h => hl (el.1 h))]
                simp [hl]
            · by_cases k5 : kind = 5
              · subst k5
                simp only [show ¬ ((5 : Int) = 4) by decide, show ¬ ((5 : Int) = 3) by decide, show ¬ ((5 : Int) = 1) by decide, if_true, if_false]
                by_cases ha : arg = 0
                · rw [if_pos ha, ez, name_eq]
                  by_cases hb : bs.length = 0
                  · simp [ha, hb, hn]
                  · simp [hb]
                · rw [if_neg ha]
                  simp [ha]
              · simp only [k1, k3, k4, k5, if_false]
                repeat' split
                all_goals rfl
        · rw [if_neg (fun h => hn (en.1 h))]
          simp only [if_true]
          simp [hn, k1]
    · rw [if_neg hp, if_neg hp]
      simp
end Go.Proofs.YthnafgffanlnfaaDoor.PSrc
namespace Go.Proofs.YthnafgffanlnfaaDoor.PSrc
open Go.RowKit Go.Proofs.YthnafgffanlnfaaDoorW.PrintWords Go.Proofs.YthnafgffanlnfaaDoorW.PrintLast Go.Proofs.YthnafgffanlnfaaDoorW.PrintMore
set_option linter.unusedVariables false
set_option linter.unusedSimpArgs false
set_option maxHeartbeats 1000000 in
set_option maxRecDepth 100000 in
theorem copyCheck_used (b : Nat) (w : World) (h0 : w.cell? ⟨b, 0, none⟩ = some (.pointer (some ⟨b, 0, none⟩))) :
    Calls Tryd.prog 85 #[.pointer (some ⟨b, 0, none⟩)] w fun e w' => e = .returned (.tuple #[]) ∧ w' = w := by
  obtain ⟨j, hj, _⟩ := Option.map_eq_some_iff.1 Tryd.Builder_Extra_169.sizeBuilder
  go_enter Tryd.func85, Tryd.ntmps85
  go_wp2
  rw [Lib.run_neq_ptr_same w _ Tryd.underlying92 hj]
  go_wp2
  go_end0
  exact ⟨rfl, rfl⟩
set_option maxHeartbeats 1000000 in
set_option maxRecDepth 100000 in
theorem copyCheck_fresh (b : Nat) (w : World) (h0 : w.cell? ⟨b, 0, none⟩ = some (.pointer none)) (hsh : w.shape? b = some (94, 2)) (hfz : w.frozen? ⟨b, 0, none⟩ = false) :
    Calls Tryd.prog 85 #[.pointer (some ⟨b, 0, none⟩)] w fun e w' => e = .returned (.tuple #[]) ∧ w' = w.setCell ⟨b, 0, none⟩ (.pointer (some ⟨b, 0, none⟩)) := by
  obtain ⟨j, hj, hjs⟩ := Option.map_eq_some_iff.1 Tryd.Builder_Extra_169.sizeBuilder
  go_enter Tryd.func85, Tryd.ntmps85
  go_wp2
  rw [Lib.run_to_unsafe w ⟨b, 0, none⟩ Tryd.underlying92 Tryd.underlying163 hj (by rw [hjs]; decide) hsh (Nat.zero_lt_succ 1)]
  simp only [Result.andThen]
  rw [Oper.upon_value]
  go_wp2
  rw [run_callFunc_extern Tryd.func114 (by kernel_rfl) (by kernel_rfl) (by kernel_rfl) (e := Extern.AbiNoEscape.same) (by kernel_rfl)]
  rw [Lib.run_noEscape]
  simp only [Result.andThen]
  rw [Oper.upon_value]
  go_wp2
  rw [Lib.run_from_unsafe w ⟨b, 0, none⟩ Tryd.underlying163 Tryd.underlying92 hj hsh Tryd.Builder_Extra_169.liesBuilder]
  simp only [Result.andThen]
  rw [Oper.upon_value]
  go_wp2
  go_end0
  exact ⟨rfl, rfl⟩
theorem copyCheck_calls (B b : Nat) (bs : List Value) (w : World) (h : Lib.IsBuilder 94 5 B b bs w) :
    Calls Tryd.prog 85 #[.pointer (some ⟨b, 0, none⟩)] w fun e w' => e = .returned (.tuple #[]) ∧ (Lib.BuilderAt 94 5 B b (.pointer (some ⟨b, 0, none⟩)) bs w' ∧ Below B w w') := by
  rcases h with h | h
  · refine (copyCheck_fresh b w h.cell0 h.shape h.frozen0).mono ?_
    rintro e w' ⟨rfl, rfl⟩
    exact ⟨rfl, h.used _, (Below.refl B w).setCell (p := ⟨b, 0, none⟩) h.1 _⟩
  · refine (copyCheck_used b w h.cell0).mono ?_
    rintro e w' ⟨rfl, rfl⟩
    exact ⟨rfl, h, Below.refl B _⟩
set_option maxHeartbeats 2000000 in
set_option maxRecDepth 100000 in
theorem writeString_calls (B b : Nat) (bs : List Value) (s : ByteArray) (w : World) (h : Lib.IsBuilder 94 5 B b bs w) (hlen : bs.length + s.size ≤ 140737488355328) (hBw : B ≤ w.heap.size) :
    Calls Tryd.prog 53 #[.pointer (some ⟨b, 0, none⟩), .string s] w fun e w' => e = .returned (.tuple #[.int .i64 s.size, .nilIface]) ∧ (Lib.BuilderAt 94 5 B b (.pointer (some ⟨b, 0, none⟩)) (bs ++ Lib.strCells s) w' ∧ Below B w w') := by
  obtain ⟨i0, hi, hz0, hz1, hz2⟩ := info_parts Tryd.Builder_Extra_169.infoByte
  go_enter Tryd.func53, Tryd.ntmps53
  go_wp2_with (go_at_call 85; refine (copyCheck_calls B b bs _ h).mono ?_)
  rintro e w1 ⟨rfl, h1, hb1⟩
  obtain ⟨hB, v, hbk, hown, hne⟩ := h1
  have c0 : w1.cell? ⟨b, 0, none⟩ = some (.pointer (some ⟨b, 0, none⟩)) := by rw [Lib.cell_of_heap hbk]; rfl
  have c1 : w1.cell? ⟨b, 1, none⟩ = some v := by rw [Lib.cell_of_heap hbk]; rfl
  go_wp2_with (refine Lib.wpList_append_own_string _ rfl _ _ 33 9 rfl B 5 i0 Tryd.underlying33 Tryd.underlying9 hi hz0 hz1 hz2 _ _ _ rfl hown s rfl ?c3 ?c4 ?c5 ?_)
  case c3 => unfold maxLen; omega
  case c4 => omega
  case c5 => have := hb1.size; omega
  intro v' w2 hown' hgrow _
  have hlt : b < w1.heap.size := by
    rcases Nat.lt_or_ge b w1.heap.size with h' | h'
    · exact h'
    · simp [Array.getElem?_eq_none h'] at hbk
  have hb2 : w2.heap[b]? = some (.cells #[.pointer (some ⟨b, 0, none⟩), v] 94 (0, 0)) := by
    rw [hgrow.block b hlt (fun e => hne e.symm)]
    exact hbk
  have d0 : w2.cell? ⟨b, 0, none⟩ = some (.pointer (some ⟨b, 0, none⟩)) := by rw [Lib.cell_of_heap hb2]; rfl
  have d1 : w2.cell? ⟨b, 1, none⟩ = some v := by rw [Lib.cell_of_heap hb2]; rfl
  have f1 : w2.frozen? ⟨b, 1, none⟩ = false := Lib.frozen_of_heap hb2 1
  obtain ⟨ao, n', cap, rfl⟩ : ∃ ao n' cap, v' = .slice ao n' cap := by
    rcases hown'.2 with ⟨hv, _⟩ | ⟨g, cap, cur, hv, _⟩
    · exact ⟨_, _, _, hv⟩
    · exact ⟨_, _, _, hv⟩
  go_wp2
  go_ret2
  refine ⟨rfl, ?_, ?_⟩
  · exact Lib.BuilderAt.put (T := 94) (e := 5) hB hb2 (bs' := bs ++ Lib.strCells s) (by simpa [Lib.strCells_length] using hown') Tryd.Builder_Extra_169.neB5
  · exact (hb1.grown hgrow (by have := hb1.size; omega) (fun k hk => (hown.lt k hk).1)).setCell (p := ⟨b, 1, none⟩) hB _
end Go.Proofs.YthnafgffanlnfaaDoor.PSrc
namespace Go.Proofs.YthnafgffanlnfaaDoor.PSrc
open Go.RowKit Go.Proofs.YthnafgffanlnfaaDoorW.PrintWords Go.Proofs.YthnafgffanlnfaaDoorW.PrintLast Go.Proofs.YthnafgffanlnfaaDoorW.PrintMore
attribute [local go_sem] max2_int min2_int max_two min_two max_three min_three max_four min_four   -- for this text's walks alone
set_option linter.unusedVariables false
set_option linter.unusedSimpArgs false
def source_line.l0 : Nat → ByteArray → List Int → Int → Int → Option (ByteArray)
  | 0, _, _, _, _ => none
  | k + 1, x3, x18, x19, x20 => if x20 < x19 then (if 0 ≤ x20 then (if x20 < (x18.length : Int) then ((bits_Hex.f k (wrap64 (rd x18 x20)) 2).bind fun t103 => (if 1 + t103.size ≤ 9223372036854775807 then (if x3.size + ((⟨#[32]⟩ : ByteArray) ++ t103).size ≤ 9223372036854775807 then (source_line.l0 k (x3 ++ ((⟨#[32]⟩ : ByteArray) ++ t103)) x18 x19 (wrap64 (x20 + 1))) else (none)) else (none))) else (none)) else (none)) else (some x3)
def source_line.f (k : Nat) (a0_0 : Int) (a0_1 : ByteArray) (a0_2 : Int) (a0_3 : ByteArray) (a0_4 : Int) (l0_5 : List Int) : Option (ByteArray) := if a0_0 = 1 then (if a0_1.size + 1 ≤ 9223372036854775807 then (some (a0_1 ++ (⟨#[58]⟩ : ByteArray))) else (none)) else (if a0_0 = 3 then (source_line.l0 k (⟨#[32, 100, 97, 116, 97]⟩ : ByteArray) l0_5 (l0_5.length : Int) 0) else (if a0_0 = 4 then ((bits_Hex.f k a0_2 4).bind fun t104 => (if 4 + t104.size ≤ 9223372036854775807 then (some ((⟨#[32, 97, 116, 32]⟩ : ByteArray) ++ t104)) else (none))) else (if a0_0 = 5 then (if 9 + a0_3.size ≤ 9223372036854775807 then (some ((⟨#[32, 97, 100, 100, 114, 101, 115, 115, 32]⟩ : ByteArray) ++ a0_3)) else (none)) else (if a0_4 = 0 then ((code_Print.f k a0_1 a0_2).bind fun bt105 => (if 1 + bt105.1.size ≤ 9223372036854775807 then (some ((⟨#[32]⟩ : ByteArray) ++ bt105.1)) else (none))) else (if 1 + a0_1.size ≤ 9223372036854775807 then (if ((⟨#[32]⟩ : ByteArray) ++ a0_1).size + 1 ≤ 9223372036854775807 then ((source_parts.f a0_4).bind fun t107 => (if (((⟨#[32]⟩ : ByteArray) ++ a0_1) ++ (⟨#[32]⟩ : ByteArray)).size + t107.size ≤ 9223372036854775807 then (if ((((⟨#[32]⟩ : ByteArray) ++ a0_1) ++ (⟨#[32]⟩ : ByteArray)) ++ t107).size + 1 ≤ 9223372036854775807 then (if (((((⟨#[32]⟩ : ByteArray) ++ a0_1) ++ (⟨#[32]⟩ : ByteArray)) ++ t107) ++ (⟨#[32]⟩ : ByteArray)).size + a0_3.size ≤ 9223372036854775807 then (some ((((((⟨#[32]⟩ : ByteArray) ++ a0_1) ++ (⟨#[32]⟩ : ByteArray)) ++ t107) ++ (⟨#[32]⟩ : ByteArray)) ++ a0_3)) else (none)) else (none)) else (none))) else (none)) else (none))))))
theorem source_line.mono_l : ∀ k, (∀ y0 y1 y2 y3, LeO (source_line.l0 k y0 y1 y2 y3) (source_line.l0 (k + 1) y0 y1 y2 y3))
  | 0 => fun _ _ _ _ r h => by simp [source_line.l0] at h
  | k + 1 => by
    have ih0 := source_line.mono_l k
    · intro y0 y1 y2 y3
      unfold source_line.l0
      repeat' first
      | (with_reducible exact ih0 _ _ _ _)
      | (with_reducible exact bits_Hex.mono _ _ _)
      | (with_reducible exact code_Print.mono _ _ _)
      | (with_reducible exact LeO.refl _)
      | (with_reducible exact LeO.none _)
      | (with_reducible refine LeO.ite ?_ ?_)
      | (with_reducible refine LeO.bind ?_ (fun _ => ?_))
      | exact ih0 _ _ _ _
      | exact bits_Hex.mono _ _ _
      | exact code_Print.mono _ _ _
      | exact LeO.none _
      | refine LeO.ite ?_ ?_
      | refine LeO.bind ?_ (fun _ => ?_)
theorem source_line.mono : ∀ a0 a1 a2 a3 a4 a5 k, LeO (source_line.f k a0 a1 a2 a3 a4 a5) (source_line.f (k + 1) a0 a1 a2 a3 a4 a5) := by
  intro a0 a1 a2 a3 a4 a5 k
  have ih0 := source_line.mono_l k
  unfold source_line.f
  repeat' first
      | (with_reducible exact ih0 _ _ _ _)
      | (with_reducible exact bits_Hex.mono _ _ _)
      | (with_reducible exact code_Print.mono _ _ _)
      | (with_reducible exact LeO.refl _)
      | (with_reducible exact LeO.none _)
      | (with_reducible refine LeO.ite ?_ ?_)
      | (with_reducible refine LeO.bind ?_ (fun _ => ?_))
      | exact ih0 _ _ _ _
      | exact bits_Hex.mono _ _ _
      | exact code_Print.mono _ _ _
      | exact LeO.none _
      | refine LeO.ite ?_ ?_
      | refine LeO.bind ?_ (fun _ => ?_)
set_option maxHeartbeats 8000000 in
set_option maxRecDepth 100000 in
theorem source_line.calls (k : Nat) (a0_0 : Int) (a0_1 : ByteArray) (a0_2 : Int) (a0_3 : ByteArray) (a0_4 : Int) (A0_5 : Option Addr) (c0_5 : Nat) (l0_5 : List Int) (r : ByteArray) (w : World) (hr0_5 : Kd.C (Kd.int .u8) w A0_5 l0_5.length l0_5) (hc0_5 : l0_5.length ≤ c0_5) (HG0 : Gd w) (h : source_line.f k a0_0 a0_1 a0_2 a0_3 a0_4 l0_5 = some r) :
    Calls Tryd.prog 54 #[.agg #[.int .u8 a0_0, .string a0_1, .int .i64 a0_2, .string a0_3, .int .u8 a0_4, .slice A0_5 l0_5.length c0_5]] w fun e w' => e = .returned (.string r) ∧ Below w.heap.size w w' := by
  have hu63 := Tryd.underlying63
  have hu132 := Tryd.underlying132
  have HR0_5 := Aside0.mk hr0_5
  have HC0_5 := Aside0.mk hc0_5
  clear hr0_5 hc0_5
  have HG := Aside0.mk HG0
  clear HG0
  have HB := Aside0.mk (Below.refl w.heap.size w)
  have H : (if a0_0 = 1 then (if a0_1.size + 1 ≤ 9223372036854775807 then (some (a0_1 ++ (⟨#[58]⟩ : ByteArray))) else (none)) else (if a0_0 = 3 then (source_line.l0 k (⟨#[32, 100, 97, 116, 97]⟩ : ByteArray) l0_5 (l0_5.length : Int) 0) else (if a0_0 = 4 then ((bits_Hex.f k a0_2 4).bind fun t104 => (if 4 + t104.size ≤ 9223372036854775807 then (some ((⟨#[32, 97, 116, 32]⟩ : ByteArray) ++ t104)) else (none))) else (if a0_0 = 5 then (if 9 + a0_3.size ≤ 9223372036854775807 then (some ((⟨#[32, 97, 100, 100, 114, 101, 115, 115, 32]⟩ : ByteArray) ++ a0_3)) else (none)) else (if a0_4 = 0 then ((code_Print.f k a0_1 a0_2).bind fun bt105 => (if 1 + bt105.1.size ≤ 9223372036854775807 then (some ((⟨#[32]⟩ : ByteArray) ++ bt105.1)) else (none))) else (if 1 + a0_1.size ≤ 9223372036854775807 then (if ((⟨#[32]⟩ : ByteArray) ++ a0_1).size + 1 ≤ 9223372036854775807 then ((source_parts.f a0_4).bind fun t107 => (if (((⟨#[32]⟩ : ByteArray) ++ a0_1) ++ (⟨#[32]⟩ : ByteArray)).size + t107.size ≤ 9223372036854775807 then (if ((((⟨#[32]⟩ : ByteArray) ++ a0_1) ++ (⟨#[32]⟩ : ByteArray)) ++ t107).size + 1 ≤ 9223372036854775807 then (if (((((⟨#[32]⟩ : ByteArray) ++ a0_1) ++ (⟨#[32]⟩ : ByteArray)) ++ t107) ++ (⟨#[32]⟩ : ByteArray)).size + a0_3.size ≤ 9223372036854775807 then (some ((((((⟨#[32]⟩ : ByteArray) ++ a0_1) ++ (⟨#[32]⟩ : ByteArray)) ++ t107) ++ (⟨#[32]⟩ : ByteArray)) ++ a0_3)) else (none)) else (none)) else (none))) else (none)) else (none))))))) = some r := h
  clear h
  by_cases c2 : a0_0 = 1
  · rw [if_pos c2] at H
    have c2b0 : (a0_0 == 1) = true := beq_iff_eq.mpr c2
    have c2b1 : (a0_0 != 1) = false := bne_eq_false_iff_eq.mpr c2
    clear c2
    by_cases c3 : a0_1.size + 1 ≤ 9223372036854775807
    · rw [if_pos c3] at H
      have c3b0 := eq_true c3
      have c3b1 : decide (a0_1.size + 1 ≤ 9223372036854775807) = true := decide_eq_true c3
      try have c3b2 : (9223372036854775807 < a0_1.size + 1) = False := eq_false (Nat.not_lt.2 c3)
      obtain rfl := Option.some.inj H
      go_enter Tryd.func54, Tryd.ntmps54
      go_wp2_with (first | ((with_reducible refine gate_dst (N := 1) rfl ?_); refine box_event ?hg (N := 1) ?hd (cs := #[.int .u8 a0_0, .string a0_1, .int .i64 a0_2, .string a0_3, .int .u8 a0_4, .slice A0_5 l0_5.length c0_5]) (t := 63) ?hr ?_; (case hd => rfl); (case hg => rfl); (case hr => first | (go_simp; done) | (go_simp; rfl)); intro gb101 hg w4 hbox hb; have n0_ := Aside0.mk (below_step (by repeat (first | (with_reducible first | exact HB.out | apply below_alloc | apply pw_below_drewN | apply below_drew1) | exact HB.out)) hb); have n1_ := Aside0.mk (hbox); have n2_ := Aside0.mk ((by rw [hg]; exact (below_size (by repeat (first | (with_reducible first | exact HB.out | apply below_alloc | apply pw_below_drewN | apply below_drew1) | exact HB.out))) : w.heap.size ≤ gb101)); have n3_ := Aside0.mk ((by rw [hg]; exact (below_size (by repeat (first | (with_reducible first | exact HB.out | apply below_alloc | apply pw_below_drewN | apply below_drew1) | exact HB.out))) : w.heap.size ≤ gb101)); clear HB; have HB := n0_; have BK101 := n1_; have GW101 := n2_; have GE101 := n3_; clear n0_ n1_ n2_ n3_; clear hb hbox hg; have hcz5_0 : w4.cell? ⟨gb101, 0, none⟩ = some (.int .u8 a0_0) := (blk_cell BK101.out 0).trans rfl; have hcz5_1 : w4.cell? ⟨gb101, 1, none⟩ = some (.string a0_1) := (blk_cell BK101.out 1).trans rfl; have hcz5_2 : w4.cell? ⟨gb101, 2, none⟩ = some (.int .i64 a0_2) := (blk_cell BK101.out 2).trans rfl; have hcz5_3 : w4.cell? ⟨gb101, 3, none⟩ = some (.string a0_3) := (blk_cell BK101.out 3).trans rfl; have hcz5_4 : w4.cell? ⟨gb101, 4, none⟩ = some (.int .u8 a0_4) := (blk_cell BK101.out 4).trans rfl; have hcz5_5 : w4.cell? ⟨gb101, 5, none⟩ = some (.slice A0_5 l0_5.length c0_5) := (blk_cell BK101.out 5).trans rfl; have hfz5_0 := blk_frozen BK101.out 0; have hfz5_1 := blk_frozen BK101.out 1; have hfz5_2 := blk_frozen BK101.out 2; have hfz5_3 := blk_frozen BK101.out 3; have hfz5_4 := blk_frozen BK101.out 4; have hfz5_5 := blk_frozen BK101.out 5))
      repeat (go_quiet (first | ((with_reducible refine gate_dst (N := 1) rfl ?_); refine box_event ?hg (N := 1) ?hd (cs := #[.int .u8 a0_0, .string a0_1, .int .i64 a0_2, .string a0_3, .int .u8 a0_4, .slice A0_5 l0_5.length c0_5]) (t := 63) ?hr ?_; (case hd => rfl); (case hg => rfl); (case hr => first | (go_simp; done) | (go_simp; rfl)); intro gb101 hg w4 hbox hb; have n0_ := Aside0.mk (below_step (by repeat (first | (with_reducible first | exact HB.out | apply below_alloc | apply pw_below_drewN | apply below_drew1) | exact HB.out)) hb); have n1_ := Aside0.mk (hbox); have n2_ := Aside0.mk ((by rw [hg]; exact (below_size (by repeat (first | (with_reducible first | exact HB.out | apply below_alloc | apply pw_below_drewN | apply below_drew1) | exact HB.out))) : w.heap.size ≤ gb101)); have n3_ := Aside0.mk ((by rw [hg]; exact (below_size (by repeat (first | (with_reducible first | exact HB.out | apply below_alloc | apply pw_below_drewN | apply below_drew1) | exact HB.out))) : w.heap.size ≤ gb101)); clear HB; have HB := n0_; have BK101 := n1_; have GW101 := n2_; have GE101 := n3_; clear n0_ n1_ n2_ n3_; clear hb hbox hg; have hcz5_0 : w4.cell? ⟨gb101, 0, none⟩ = some (.int .u8 a0_0) := (blk_cell BK101.out 0).trans rfl; have hcz5_1 : w4.cell? ⟨gb101, 1, none⟩ = some (.string a0_1) := (blk_cell BK101.out 1).trans rfl; have hcz5_2 : w4.cell? ⟨gb101, 2, none⟩ = some (.int .i64 a0_2) := (blk_cell BK101.out 2).trans rfl; have hcz5_3 : w4.cell? ⟨gb101, 3, none⟩ = some (.string a0_3) := (blk_cell BK101.out 3).trans rfl; have hcz5_4 : w4.cell? ⟨gb101, 4, none⟩ = some (.int .u8 a0_4) := (blk_cell BK101.out 4).trans rfl; have hcz5_5 : w4.cell? ⟨gb101, 5, none⟩ = some (.slice A0_5 l0_5.length c0_5) := (blk_cell BK101.out 5).trans rfl; have hfz5_0 := blk_frozen BK101.out 0; have hfz5_1 := blk_frozen BK101.out 1; have hfz5_2 := blk_frozen BK101.out 2; have hfz5_3 := blk_frozen BK101.out 3; have hfz5_4 := blk_frozen BK101.out 4; have hfz5_5 := blk_frozen BK101.out 5)); try go_wp2_with (first | ((with_reducible refine gate_dst (N := 1) rfl ?_); refine box_event ?hg (N := 1) ?hd (cs := #[.int .u8 a0_0, .string a0_1, .int .i64 a0_2, .string a0_3, .int .u8 a0_4, .slice A0_5 l0_5.length c0_5]) (t := 63) ?hr ?_; (case hd => rfl); (case hg => rfl); (case hr => first | (go_simp; done) | (go_simp; rfl)); intro gb101 hg w4 hbox hb; have n0_ := Aside0.mk (below_step (by repeat (first | (with_reducible first | exact HB.out | apply below_alloc | apply pw_below_drewN | apply below_drew1) | exact HB.out)) hb); have n1_ := Aside0.mk (hbox); have n2_ := Aside0.mk ((by rw [hg]; exact (below_size (by repeat (first | (with_reducible first | exact HB.out | apply below_alloc | apply pw_below_drewN | apply below_drew1) | exact HB.out))) : w.heap.size ≤ gb101)); have n3_ := Aside0.mk ((by rw [hg]; exact (below_size (by repeat (first | (with_reducible first | exact HB.out | apply below_alloc | apply pw_below_drewN | apply below_drew1) | exact HB.out))) : w.heap.size ≤ gb101)); clear HB; have HB := n0_; have BK101 := n1_; have GW101 := n2_; have GE101 := n3_; clear n0_ n1_ n2_ n3_; clear hb hbox hg; have hcz5_0 : w4.cell? ⟨gb101, 0, none⟩ = some (.int .u8 a0_0) := (blk_cell BK101.out 0).trans rfl; have hcz5_1 : w4.cell? ⟨gb101, 1, none⟩ = some (.string a0_1) := (blk_cell BK101.out 1).trans rfl; have hcz5_2 : w4.cell? ⟨gb101, 2, none⟩ = some (.int .i64 a0_2) := (blk_cell BK101.out 2).trans rfl; have hcz5_3 : w4.cell? ⟨gb101, 3, none⟩ = some (.string a0_3) := (blk_cell BK101.out 3).trans rfl; have hcz5_4 : w4.cell? ⟨gb101, 4, none⟩ = some (.int .u8 a0_4) := (blk_cell BK101.out 4).trans rfl; have hcz5_5 : w4.cell? ⟨gb101, 5, none⟩ = some (.slice A0_5 l0_5.length c0_5) := (blk_cell BK101.out 5).trans rfl; have hfz5_0 := blk_frozen BK101.out 0; have hfz5_1 := blk_frozen BK101.out 1; have hfz5_2 := blk_frozen BK101.out 2; have hfz5_3 := blk_frozen BK101.out 3; have hfz5_4 := blk_frozen BK101.out 4; have hfz5_5 := blk_frozen BK101.out 5)))
      go_ret
      exact ⟨by first | rfl | (simp [errW_none, errW_some] <;> rfl) | (simp [*, errW_none, errW_some] <;> rfl), by repeat (first | (with_reducible first | exact HB.out | apply below_alloc | apply pw_below_drewN | apply below_drew1 | refine below_set ?_ GE101.out) | exact HB.out)⟩
    · rw [if_neg c3] at H
      exact absurd H (by simp)
  · rw [if_neg c2] at H
    have c2b0 : (a0_0 == 1) = false := beq_eq_false_iff_ne.mpr c2
    have c2b1 : (a0_0 != 1) = true := bne_iff_ne.mpr c2
    by_cases c6 : a0_0 = 3
    · rw [if_pos c6] at H
      have c6b0 : (a0_0 == 3) = true := beq_iff_eq.mpr c6
      have c6b1 : (a0_0 != 3) = false := bne_eq_false_iff_eq.mpr c6
      clear c6
      have H' := Aside0.mk H
      clear H
      go_enter Tryd.func54, Tryd.ntmps54
      go_wp2_with (first | ((with_reducible refine gate_dst (N := 1) rfl ?_); refine box_event ?hg (N := 1) ?hd (cs := #[.int .u8 a0_0, .string a0_1, .int .i64 a0_2, .string a0_3, .int .u8 a0_4, .slice A0_5 l0_5.length c0_5]) (t := 63) ?hr ?_; (case hd => rfl); (case hg => rfl); (case hr => first | (go_simp; done) | (go_simp; rfl)); intro gb101 hg w7 hbox hb; have n0_ := Aside0.mk (below_step (by repeat (first | (with_reducible first | exact HB.out | apply below_alloc | apply pw_below_drewN | apply below_drew1) | exact HB.out)) hb); have n1_ := Aside0.mk (hbox); have n2_ := Aside0.mk ((by rw [hg]; exact (below_size (by repeat (first | (with_reducible first | exact HB.out | apply below_alloc | apply pw_below_drewN | apply below_drew1) | exact HB.out))) : w.heap.size ≤ gb101)); have n3_ := Aside0.mk ((by rw [hg]; exact (below_size (by repeat (first | (with_reducible first | exact HB.out | apply below_alloc | apply pw_below_drewN | apply below_drew1) | exact HB.out))) : w.heap.size ≤ gb101)); clear HB; have HB := n0_; have BK101 := n1_; have GW101 := n2_; have GE101 := n3_; clear n0_ n1_ n2_ n3_; clear hb hbox hg; have hcz8_0 : w7.cell? ⟨gb101, 0, none⟩ = some (.int .u8 a0_0) := (blk_cell BK101.out 0).trans rfl; have hcz8_1 : w7.cell? ⟨gb101, 1, none⟩ = some (.string a0_1) := (blk_cell BK101.out 1).trans rfl; have hcz8_2 : w7.cell? ⟨gb101, 2, none⟩ = some (.int .i64 a0_2) := (blk_cell BK101.out 2).trans rfl; have hcz8_3 : w7.cell? ⟨gb101, 3, none⟩ = some (.string a0_3) := (blk_cell BK101.out 3).trans rfl; have hcz8_4 : w7.cell? ⟨gb101, 4, none⟩ = some (.int .u8 a0_4) := (blk_cell BK101.out 4).trans rfl; have hcz8_5 : w7.cell? ⟨gb101, 5, none⟩ = some (.slice A0_5 l0_5.length c0_5) := (blk_cell BK101.out 5).trans rfl; have hfz8_0 := blk_frozen BK101.out 0; have hfz8_1 := blk_frozen BK101.out 1; have hfz8_2 := blk_frozen BK101.out 2; have hfz8_3 := blk_frozen BK101.out 3; have hfz8_4 := blk_frozen BK101.out 4; have hfz8_5 := blk_frozen BK101.out 5))
      repeat (go_quiet (first | ((with_reducible refine gate_dst (N := 1) rfl ?_); refine box_event ?hg (N := 1) ?hd (cs := #[.int .u8 a0_0, .string a0_1, .int .i64 a0_2, .string a0_3, .int .u8 a0_4, .slice A0_5 l0_5.length c0_5]) (t := 63) ?hr ?_; (case hd => rfl); (case hg => rfl); (case hr => first | (go_simp; done) | (go_simp; rfl)); intro gb101 hg w7 hbox hb; have n0_ := Aside0.mk (below_step (by repeat (first | (with_reducible first | exact HB.out | apply below_alloc | apply pw_below_drewN | apply below_drew1) | exact HB.out)) hb); have n1_ := Aside0.mk (hbox); have n2_ := Aside0.mk ((by rw [hg]; exact (below_size (by repeat (first | (with_reducible first | exact HB.out | apply below_alloc | apply pw_below_drewN | apply below_drew1) | exact HB.out))) : w.heap.size ≤ gb101)); have n3_ := Aside0.mk ((by rw [hg]; exact (below_size (by repeat (first | (with_reducible first | exact HB.out | apply below_alloc | apply pw_below_drewN | apply below_drew1) | exact HB.out))) : w.heap.size ≤ gb101)); clear HB; have HB := n0_; have BK101 := n1_; have GW101 := n2_; have GE101 := n3_; clear n0_ n1_ n2_ n3_; clear hb hbox hg; have hcz8_0 : w7.cell? ⟨gb101, 0, none⟩ = some (.int .u8 a0_0) := (blk_cell BK101.out 0).trans rfl; have hcz8_1 : w7.cell? ⟨gb101, 1, none⟩ = some (.string a0_1) := (blk_cell BK101.out 1).trans rfl; have hcz8_2 : w7.cell? ⟨gb101, 2, none⟩ = some (.int .i64 a0_2) := (blk_cell BK101.out 2).trans rfl; have hcz8_3 : w7.cell? ⟨gb101, 3, none⟩ = some (.string a0_3) := (blk_cell BK101.out 3).trans rfl; have hcz8_4 : w7.cell? ⟨gb101, 4, none⟩ = some (.int .u8 a0_4) := (blk_cell BK101.out 4).trans rfl; have hcz8_5 : w7.cell? ⟨gb101, 5, none⟩ = some (.slice A0_5 l0_5.length c0_5) := (blk_cell BK101.out 5).trans rfl; have hfz8_0 := blk_frozen BK101.out 0; have hfz8_1 := blk_frozen BK101.out 1; have hfz8_2 := blk_frozen BK101.out 2; have hfz8_3 := blk_frozen BK101.out 3; have hfz8_4 := blk_frozen BK101.out 4; have hfz8_5 := blk_frozen BK101.out 5)); try go_wp2_with (first | ((with_reducible refine gate_dst (N := 1) rfl ?_); refine box_event ?hg (N := 1) ?hd (cs := #[.int .u8 a0_0, .string a0_1, .int .i64 a0_2, .string a0_3, .int .u8 a0_4, .slice A0_5 l0_5.length c0_5]) (t := 63) ?hr ?_; (case hd => rfl); (case hg => rfl); (case hr => first | (go_simp; done) | (go_simp; rfl)); intro gb101 hg w7 hbox hb; have n0_ := Aside0.mk (below_step (by repeat (first | (with_reducible first | exact HB.out | apply below_alloc | apply pw_below_drewN | apply below_drew1) | exact HB.out)) hb); have n1_ := Aside0.mk (hbox); have n2_ := Aside0.mk ((by rw [hg]; exact (below_size (by repeat (first | (with_reducible first | exact HB.out | apply below_alloc | apply pw_below_drewN | apply below_drew1) | exact HB.out))) : w.heap.size ≤ gb101)); have n3_ := Aside0.mk ((by rw [hg]; exact (below_size (by repeat (first | (with_reducible first | exact HB.out | apply below_alloc | apply pw_below_drewN | apply below_drew1) | exact HB.out))) : w.heap.size ≤ gb101)); clear HB; have HB := n0_; have BK101 := n1_; have GW101 := n2_; have GE101 := n3_; clear n0_ n1_ n2_ n3_; clear hb hbox hg; have hcz8_0 : w7.cell? ⟨gb101, 0, none⟩ = some (.int .u8 a0_0) := (blk_cell BK101.out 0).trans rfl; have hcz8_1 : w7.cell? ⟨gb101, 1, none⟩ = some (.string a0_1) := (blk_cell BK101.out 1).trans rfl; have hcz8_2 : w7.cell? ⟨gb101, 2, none⟩ = some (.int .i64 a0_2) := (blk_cell BK101.out 2).trans rfl; have hcz8_3 : w7.cell? ⟨gb101, 3, none⟩ = some (.string a0_3) := (blk_cell BK101.out 3).trans rfl; have hcz8_4 : w7.cell? ⟨gb101, 4, none⟩ = some (.int .u8 a0_4) := (blk_cell BK101.out 4).trans rfl; have hcz8_5 : w7.cell? ⟨gb101, 5, none⟩ = some (.slice A0_5 l0_5.length c0_5) := (blk_cell BK101.out 5).trans rfl; have hfz8_0 := blk_frozen BK101.out 0; have hfz8_1 := blk_frozen BK101.out 1; have hfz8_2 := blk_frozen BK101.out 2; have hfz8_3 := blk_frozen BK101.out 3; have hfz8_4 := blk_frozen BK101.out 4; have hfz8_5 := blk_frozen BK101.out 5)))
      go_loopg [3, 20] k (fun kq v3 v20 w' => ∃ (x3_1 : ByteArray) (x20_1 : Int), v3 = .string x3_1 ∧ v20 = .int .i64 x20_1 ∧ Aside0 (source_line.l0 kq x3_1 l0_5 (l0_5.length : Int) x20_1 = some r) ∧ Aside0 (kq ≤ k) ∧ Aside0 (w'.heap[gb101]? = some (.cells #[.int .u8 a0_0, .string a0_1, .int .i64 a0_2, .string a0_3, .int .u8 a0_4, (.slice A0_5 l0_5.length c0_5)] 63 (0, 0))) ∧ Aside0 (Below w.heap.size w w'))
      case atStart => exact ⟨((⟨#[32, 100, 97, 116, 97]⟩ : ByteArray)), (0), (by first | rfl | (simp; done) | (simp [*]; done)), (by first | rfl | (simp; done) | (simp [*]; done)), H', ⟨Nat.le_refl _⟩, ⟨by (with_reducible repeat (first | refine blk_drewN ?_ _ | refine blk_drew ?_ | refine blk_alloc ?_ _)); exact BK101.out⟩, ⟨by repeat (first | (with_reducible first | exact HB.out | apply below_alloc | apply pw_below_drewN | apply below_drew1 | refine below_set ?_ GE101.out) | exact HB.out)⟩⟩
      case round =>
        clear H'
        try clear c2
        try clear c2b0
        try clear c2b1
        try clear p2
        try clear c3
        try clear c3b0
        try clear c3b1
        try clear c3b2
        try clear c5
        try clear c6
        try clear c6b0
        try clear c6b1
        try clear hcz5_0
        try clear hcz5_1
        try clear hcz5_2
        try clear hcz5_3
        try clear hcz5_4
        try clear hcz5_5
        try clear hcz8_0
        try clear hcz8_1
        try clear hcz8_2
        try clear hcz8_3
        try clear hcz8_4
        try clear hcz8_5
        try clear hfz5_0
        try clear hfz5_1
        try clear hfz5_2
        try clear hfz5_3
        try clear hfz5_4
        try clear hfz5_5
        try clear hfz8_0
        try clear hfz8_1
        try clear hfz8_2
        try clear hfz8_3
        try clear hfz8_4
        try clear hfz8_5
        obtain ⟨x3_1, x20_1, rfl, rfl, HA, HK1, BK101, HB⟩ := hrel
        cases gk with
        | zero => exact absurd HA.out (by simp [source_line.l0])
        | succ k1 =>
          have H := HA.out
          clear HA
          simp only [source_line.l0] at H
          by_cases c9 : x20_1 < (l0_5.length : Int)
          · rw [if_pos c9] at H
            have c9b0 : decide (x20_1 < (l0_5.length : Int)) = true := decide_eq_true c9
            clear c9
            by_cases c10 : 0 ≤ x20_1
            · rw [if_pos c10] at H
              have c10b0 : decide (0 ≤ x20_1) = true := decide_eq_true c10
              clear c10
              by_cases c11 : x20_1 < (l0_5.length : Int)
              · rw [if_pos c11] at H
                have c11b0 : decide (x20_1 < (l0_5.length : Int)) = true := decide_eq_true c11
                clear c11
                replace H := Option.bind_eq_some_iff.mp H
                obtain ⟨t103, A120, H⟩ := H
                replace H : (if 1 + t103.size ≤ 9223372036854775807 then (if x3_1.size + ((⟨#[32]⟩ : ByteArray) ++ t103).size ≤ 9223372036854775807 then (source_line.l0 k1 (x3_1 ++ ((⟨#[32]⟩ : ByteArray) ++ t103)) l0_5 (l0_5.length : Int) (wrap64 (x20_1 + 1))) else (none)) else (none)) = some r := H
                have A12 := Aside0.mk A120
                clear A120
                by_cases c13 : 1 + t103.size ≤ 9223372036854775807
                · rw [if_pos c13] at H
                  have c13b0 := eq_true c13
                  have c13b1 : decide (1 + t103.size ≤ 9223372036854775807) = true := decide_eq_true c13
                  try have c13b2 : (9223372036854775807 < 1 + t103.size) = False := eq_false (Nat.not_lt.2 c13)
                  by_cases c14 : x3_1.size + ((⟨#[32]⟩ : ByteArray) ++ t103).size ≤ 9223372036854775807
                  · rw [if_pos c14] at H
                    have c14b0 := eq_true c14
                    have c14b1 : decide (x3_1.size + ((⟨#[32]⟩ : ByteArray) ++ t103).size ≤ 9223372036854775807) = true := decide_eq_true c14
                    try have c14b2 : (9223372036854775807 < x3_1.size + ((⟨#[32]⟩ : ByteArray) ++ t103).size) = False := eq_false (Nat.not_lt.2 c14)
                    have c14b3 : (9223372036854775807 < x3_1.size + (1 + t103.size)) = False := eq_false (Nat.not_lt.2 (Nat.le_trans (Nat.le_of_eq (by simp only [ByteArray.size_append]; rfl)) c14))
                    have H' := Aside0.mk H
                    clear H
                    have p102 : 0 ≤ (x20_1 : Int) := of_decide_eq_true (by first | (with_reducible assumption) | assumption)
                    have q102 : x20_1 < (l0_5.length : Int) := of_decide_eq_true (by first | (with_reducible assumption) | assumption)
                    obtain ⟨ad102, e102, hx102_0⟩ := Kd.at_int HR0_5.out x20_1 p102 q102
                    cases e102
                    replace hx102_0 := (HB.out.cell (World.block_lt_of_cell? w _ hx102_0)).trans hx102_0
                    replace p102 := eq_true p102
                    replace q102 := eq_true q102
                    go_wp2_with (first | (go_at_call 86; (with_reducible refine (bits_Hex.calls k1 (wrap64 (rd l0_5 x20_1)) 2 t103 _ A12.out).mono ?_); rintro e w15 ⟨rfl, hb⟩; have n0_ := Aside0.mk (blk_below (g := gb101) (o := .cells #[.int .u8 a0_0, .string a0_1, .int .i64 a0_2, .string a0_3, .int .u8 a0_4, .slice (some ad102) l0_5.length c0_5] 63 (0, 0)) (by (with_reducible repeat (first | refine blk_drewN ?_ _ | refine blk_drew ?_ | refine blk_alloc ?_ _)); exact BK101.out) hb); have n1_ := Aside0.mk (below_step (by repeat (first | (with_reducible first | exact HB.out | apply below_alloc | apply pw_below_drewN | apply below_drew1 | refine below_set ?_ GE101.out) | exact HB.out)) hb); clear BK101; clear HB; have BK101 := n0_; have HB := n1_; clear n0_ n1_; (try clear hb); (try clear hb2); (try clear hk); (try clear hi)))
                    repeat (go_quiet (first | (go_at_call 86; (with_reducible refine (bits_Hex.calls k1 (wrap64 (rd l0_5 x20_1)) 2 t103 _ A12.out).mono ?_); rintro e w15 ⟨rfl, hb⟩; have n0_ := Aside0.mk (blk_below (g := gb101) (o := .cells #[.int .u8 a0_0, .string a0_1, .int .i64 a0_2, .string a0_3, .int .u8 a0_4, .slice (some ad102) l0_5.length c0_5] 63 (0, 0)) (by (with_reducible repeat (first | refine blk_drewN ?_ _ | refine blk_drew ?_ | refine blk_alloc ?_ _)); exact BK101.out) hb); have n1_ := Aside0.mk (below_step (by repeat (first | (with_reducible first | exact HB.out | apply below_alloc | apply pw_below_drewN | apply below_drew1 | refine below_set ?_ GE101.out) | exact HB.out)) hb); clear BK101; clear HB; have BK101 := n0_; have HB := n1_; clear n0_ n1_; (try clear hb); (try clear hb2); (try clear hk); (try clear hi))); try go_wp2_with (first | (go_at_call 86; (with_reducible refine (bits_Hex.calls k1 (wrap64 (rd l0_5 x20_1)) 2 t103 _ A12.out).mono ?_); rintro e w15 ⟨rfl, hb⟩; have n0_ := Aside0.mk (blk_below (g := gb101) (o := .cells #[.int .u8 a0_0, .string a0_1, .int .i64 a0_2, .string a0_3, .int .u8 a0_4, .slice (some ad102) l0_5.length c0_5] 63 (0, 0)) (by (with_reducible repeat (first | refine blk_drewN ?_ _ | refine blk_drew ?_ | refine blk_alloc ?_ _)); exact BK101.out) hb); have n1_ := Aside0.mk (below_step (by repeat (first | (with_reducible first | exact HB.out | apply below_alloc | apply pw_below_drewN | apply below_drew1 | refine below_set ?_ GE101.out) | exact HB.out)) hb); clear BK101; clear HB; have BK101 := n0_; have HB := n1_; clear n0_ n1_; (try clear hb); (try clear hb2); (try clear hk); (try clear hi))))
                    go_roundg k1
                    case measure => have := HK1.out; omega
                    case rel => exact ⟨(x3_1 ++ ((⟨#[32]⟩ : ByteArray) ++ t103)), (wrap64 (x20_1 + 1)), (by first | rfl | (simp; done) | (simp [*]; done)), (by first | rfl | (simp; done) | (simp [*]; done)), H', ⟨by have := HK1.out; omega⟩, ⟨by (with_reducible repeat (first | refine blk_drewN ?_ _ | refine blk_drew ?_ | refine blk_alloc ?_ _)); exact BK101.out⟩, ⟨by repeat (first | (with_reducible first | exact HB.out | apply below_alloc | apply pw_below_drewN | apply below_drew1 | refine below_set ?_ GE101.out) | exact HB.out)⟩⟩
                  · rw [if_neg c14] at H
                    exact absurd H (by simp)
                · rw [if_neg c13] at H
                  exact absurd H (by simp)
              · rw [if_neg c11] at H
                exact absurd H (by simp)
            · rw [if_neg c10] at H
              exact absurd H (by simp)
          · rw [if_neg c9] at H
            have c9b0 : decide (x20_1 < (l0_5.length : Int)) = false := decide_eq_false c9
            clear c9
            obtain rfl := Option.some.inj H
            go_wp2
            repeat (go_quiet (fail); try go_wp2)
            go_ret
            exact ⟨by first | rfl | (simp [errW_none, errW_some] <;> rfl) | (simp [*, errW_none, errW_some] <;> rfl), by repeat (first | (with_reducible first | exact HB.out | apply below_alloc | apply pw_below_drewN | apply below_drew1 | refine below_set ?_ GE101.out) | exact HB.out)⟩
    · rw [if_neg c6] at H
      have c6b0 : (a0_0 == 3) = false := beq_eq_false_iff_ne.mpr c6
      have c6b1 : (a0_0 != 3) = true := bne_iff_ne.mpr c6
      by_cases c16 : a0_0 = 4
      · rw [if_pos c16] at H
        have c16b0 : (a0_0 == 4) = true := beq_iff_eq.mpr c16
        have c16b1 : (a0_0 != 4) = false := bne_eq_false_iff_eq.mpr c16
        clear c16
        replace H := Option.bind_eq_some_iff.mp H
        obtain ⟨t104, A170, H⟩ := H
        replace H : (if 4 + t104.size ≤ 9223372036854775807 then (some ((⟨#[32, 97, 116, 32]⟩ : ByteArray) ++ t104)) else (none)) = some r := H
        have A17 := Aside0.mk A170
        clear A170
        by_cases c18 : 4 + t104.size ≤ 9223372036854775807
        · rw [if_pos c18] at H
          have c18b0 := eq_true c18
          have c18b1 : decide (4 + t104.size ≤ 9223372036854775807) = true := decide_eq_true c18
          try have c18b2 : (9223372036854775807 < 4 + t104.size) = False := eq_false (Nat.not_lt.2 c18)
          obtain rfl := Option.some.inj H
          go_enter Tryd.func54, Tryd.ntmps54
          go_wp2_with (first | ((with_reducible refine gate_dst (N := 1) rfl ?_); refine box_event ?hg (N := 1) ?hd (cs := #[.int .u8 a0_0, .string a0_1, .int .i64 a0_2, .string a0_3, .int .u8 a0_4, .slice A0_5 l0_5.length c0_5]) (t := 63) ?hr ?_; (case hd => rfl); (case hg => rfl); (case hr => first | (go_simp; done) | (go_simp; rfl)); intro gb101 hg w19 hbox hb; have n0_ := Aside0.mk (below_step (by repeat (first | (with_reducible first | exact HB.out | apply below_alloc | apply pw_below_drewN | apply below_drew1) | exact HB.out)) hb); have n1_ := Aside0.mk (hbox); have n2_ := Aside0.mk ((by rw [hg]; exact (below_size (by repeat (first | (with_reducible first | exact HB.out | apply below_alloc | apply pw_below_drewN | apply below_drew1) | exact HB.out))) : w.heap.size ≤ gb101)); have n3_ := Aside0.mk ((by rw [hg]; exact (below_size (by repeat (first | (with_reducible first | exact HB.out | apply below_alloc | apply pw_below_drewN | apply below_drew1) | exact HB.out))) : w.heap.size ≤ gb101)); clear HB; have HB := n0_; have BK101 := n1_; have GW101 := n2_; have GE101 := n3_; clear n0_ n1_ n2_ n3_; clear hb hbox hg; have hcz20_0 : w19.cell? ⟨gb101, 0, none⟩ = some (.int .u8 a0_0) := (blk_cell BK101.out 0).trans rfl; have hcz20_1 : w19.cell? ⟨gb101, 1, none⟩ = some (.string a0_1) := (blk_cell BK101.out 1).trans rfl; have hcz20_2 : w19.cell? ⟨gb101, 2, none⟩ = some (.int .i64 a0_2) := (blk_cell BK101.out 2).trans rfl; have hcz20_3 : w19.cell? ⟨gb101, 3, none⟩ = some (.string a0_3) := (blk_cell BK101.out 3).trans rfl; have hcz20_4 : w19.cell? ⟨gb101, 4, none⟩ = some (.int .u8 a0_4) := (blk_cell BK101.out 4).trans rfl; have hcz20_5 : w19.cell? ⟨gb101, 5, none⟩ = some (.slice A0_5 l0_5.length c0_5) := (blk_cell BK101.out 5).trans rfl; have hfz20_0 := blk_frozen BK101.out 0; have hfz20_1 := blk_frozen BK101.out 1; have hfz20_2 := blk_frozen BK101.out 2; have hfz20_3 := blk_frozen BK101.out 3; have hfz20_4 := blk_frozen BK101.out 4; have hfz20_5 := blk_frozen BK101.out 5) | (go_at_call 86; (with_reducible refine (bits_Hex.calls k a0_2 4 t104 _ A17.out).mono ?_); rintro e w21 ⟨rfl, hb⟩; have n0_ := Aside0.mk (blk_below (g := gb101) (o := .cells #[.int .u8 a0_0, .string a0_1, .int .i64 a0_2, .string a0_3, .int .u8 a0_4, .slice A0_5 l0_5.length c0_5] 63 (0, 0)) (by (with_reducible repeat (first | refine blk_drewN ?_ _ | refine blk_drew ?_ | refine blk_alloc ?_ _)); exact BK101.out) hb); have n1_ := Aside0.mk (below_step (by repeat (first | (with_reducible first | exact HB.out | apply below_alloc | apply pw_below_drewN | apply below_drew1 | refine below_set ?_ GE101.out) | exact HB.out)) hb); clear BK101; clear HB; have BK101 := n0_; have HB := n1_; clear n0_ n1_; (try clear hb); (try clear hb2); (try clear hk); (try clear hi)))
          repeat (go_quiet (first | ((with_reducible refine gate_dst (N := 1) rfl ?_); refine box_event ?hg (N := 1) ?hd (cs := #[.int .u8 a0_0, .string a0_1, .int .i64 a0_2, .string a0_3, .int .u8 a0_4, .slice A0_5 l0_5.length c0_5]) (t := 63) ?hr ?_; (case hd => rfl); (case hg => rfl); (case hr => first | (go_simp; done) | (go_simp; rfl)); intro gb101 hg w19 hbox hb; have n0_ := Aside0.mk (below_step (by repeat (first | (with_reducible first | exact HB.out | apply below_alloc | apply pw_below_drewN | apply below_drew1) | exact HB.out)) hb); have n1_ := Aside0.mk (hbox); have n2_ := Aside0.mk ((by rw [hg]; exact (below_size (by repeat (first | (with_reducible first | exact HB.out | apply below_alloc | apply pw_below_drewN | apply below_drew1) | exact HB.out))) : w.heap.size ≤ gb101)); have n3_ := Aside0.mk ((by rw [hg]; exact (below_size (by repeat (first | (with_reducible first | exact HB.out | apply below_alloc | apply pw_below_drewN | apply below_drew1) | exact HB.out))) : w.heap.size ≤ gb101)); clear HB; have HB := n0_; have BK101 := n1_; have GW101 := n2_; have GE101 := n3_; clear n0_ n1_ n2_ n3_; clear hb hbox hg; have hcz20_0 : w19.cell? ⟨gb101, 0, none⟩ = some (.int .u8 a0_0) := (blk_cell BK101.out 0).trans rfl; have hcz20_1 : w19.cell? ⟨gb101, 1, none⟩ = some (.string a0_1) := (blk_cell BK101.out 1).trans rfl; have hcz20_2 : w19.cell? ⟨gb101, 2, none⟩ = some (.int .i64 a0_2) := (blk_cell BK101.out 2).trans rfl; have hcz20_3 : w19.cell? ⟨gb101, 3, none⟩ = some (.string a0_3) := (blk_cell BK101.out 3).trans rfl; have hcz20_4 : w19.cell? ⟨gb101, 4, none⟩ = some (.int .u8 a0_4) := (blk_cell BK101.out 4).trans rfl; have hcz20_5 : w19.cell? ⟨gb101, 5, none⟩ = some (.slice A0_5 l0_5.length c0_5) := (blk_cell BK101.out 5).trans rfl; have hfz20_0 := blk_frozen BK101.out 0; have hfz20_1 := blk_frozen BK101.out 1; have hfz20_2 := blk_frozen BK101.out 2; have hfz20_3 := blk_frozen BK101.out 3; have hfz20_4 := blk_frozen BK101.out 4; have hfz20_5 := blk_frozen BK101.out 5) | (go_at_call 86; (with_reducible refine (bits_Hex.calls k a0_2 4 t104 _ A17.out).mono ?_); rintro e w21 ⟨rfl, hb⟩; have n0_ := Aside0.mk (blk_below (g := gb101) (o := .cells #[.int .u8 a0_0, .string a0_1, .int .i64 a0_2, .string a0_3, .int .u8 a0_4, .slice A0_5 l0_5.length c0_5] 63 (0, 0)) (by (with_reducible repeat (first | refine blk_drewN ?_ _ | refine blk_drew ?_ | refine blk_alloc ?_ _)); exact BK101.out) hb); have n1_ := Aside0.mk (below_step (by repeat (first | (with_reducible first | exact HB.out | apply below_alloc | apply pw_below_drewN | apply below_drew1 | refine below_set ?_ GE101.out) | exact HB.out)) hb); clear BK101; clear HB; have BK101 := n0_; have HB := n1_; clear n0_ n1_; (try clear hb); (try clear hb2); (try clear hk); (try clear hi))); try go_wp2_with (first | ((with_reducible refine gate_dst (N := 1) rfl ?_); refine box_event ?hg (N := 1) ?hd (cs := #[.int .u8 a0_0, .string a0_1, .int .i64 a0_2, .string a0_3, .int .u8 a0_4, .slice A0_5 l0_5.length c0_5]) (t := 63) ?hr ?_; (case hd => rfl); (case hg => rfl); (case hr => first | (go_simp; done) | (go_simp; rfl)); intro gb101 hg w19 hbox hb; have n0_ := Aside0.mk (below_step (by repeat (first | (with_reducible first | exact HB.out | apply below_alloc | apply pw_below_drewN | apply below_drew1) | exact HB.out)) hb); have n1_ := Aside0.mk (hbox); have n2_ := Aside0.mk ((by rw [hg]; exact (below_size (by repeat (first | (with_reducible first | exact HB.out | apply below_alloc | apply pw_below_drewN | apply below_drew1) | exact HB.out))) : w.heap.size ≤ gb101)); have n3_ := Aside0.mk ((by rw [hg]; exact (below_size (by repeat (first | (with_reducible first | exact HB.out | apply below_alloc | apply pw_below_drewN | apply below_drew1) | exact HB.out))) : w.heap.size ≤ gb101)); clear HB; have HB := n0_; have BK101 := n1_; have GW101 := n2_; have GE101 := n3_; clear n0_ n1_ n2_ n3_; clear hb hbox hg; have hcz20_0 : w19.cell? ⟨gb101, 0, none⟩ = some (.int .u8 a0_0) := (blk_cell BK101.out 0).trans rfl; have hcz20_1 : w19.cell? ⟨gb101, 1, none⟩ = some (.string a0_1) := (blk_cell BK101.out 1).trans rfl; have hcz20_2 : w19.cell? ⟨gb101, 2, none⟩ = some (.int .i64 a0_2) := (blk_cell BK101.out 2).trans rfl; have hcz20_3 : w19.cell? ⟨gb101, 3, none⟩ = some (.string a0_3) := (blk_cell BK101.out 3).trans rfl; have hcz20_4 : w19.cell? ⟨gb101, 4, none⟩ = some (.int .u8 a0_4) := (blk_cell BK101.out 4).trans rfl; have hcz20_5 : w19.cell? ⟨gb101, 5, none⟩ = some (.slice A0_5 l0_5.length c0_5) := (blk_cell BK101.out 5).trans rfl; have hfz20_0 := blk_frozen BK101.out 0; have hfz20_1 := blk_frozen BK101.out 1; have hfz20_2 := blk_frozen BK101.out 2; have hfz20_3 := blk_frozen BK101.out 3; have hfz20_4 := blk_frozen BK101.out 4; have hfz20_5 := blk_frozen BK101.out 5) | (go_at_call 86; (with_reducible refine (bits_Hex.calls k a0_2 4 t104 _ A17.out).mono ?_); rintro e w21 ⟨rfl, hb⟩; have n0_ := Aside0.mk (blk_below (g := gb101) (o := .cells #[.int .u8 a0_0, .string a0_1, .int .i64 a0_2, .string a0_3, .int .u8 a0_4, .slice A0_5 l0_5.length c0_5] 63 (0, 0)) (by (with_reducible repeat (first | refine blk_drewN ?_ _ | refine blk_drew ?_ | refine blk_alloc ?_ _)); exact BK101.out) hb); have n1_ := Aside0.mk (below_step (by repeat (first | (with_reducible first | exact HB.out | apply below_alloc | apply pw_below_drewN | apply below_drew1 | refine below_set ?_ GE101.out) | exact HB.out)) hb); clear BK101; clear HB; have BK101 := n0_; have HB := n1_; clear n0_ n1_; (try clear hb); (try clear hb2); (try clear hk); (try clear hi))))
          go_ret
          exact ⟨by first | rfl | (simp [errW_none, errW_some] <;> rfl) | (simp [*, errW_none, errW_some] <;> rfl), by repeat (first | (with_reducible first | exact HB.out | apply below_alloc | apply pw_below_drewN | apply below_drew1 | refine below_set ?_ GE101.out) | exact HB.out)⟩
        · rw [if_neg c18] at H
          exact absurd H (by simp)
      · rw [if_neg c16] at H
        have c16b0 : (a0_0 == 4) = false := beq_eq_false_iff_ne.mpr c16
        have c16b1 : (a0_0 != 4) = true := bne_iff_ne.mpr c16
        by_cases c22 : a0_0 = 5
        · rw [if_pos c22] at H
          have c22b0 : (a0_0 == 5) = true := beq_iff_eq.mpr c22
          have c22b1 : (a0_0 != 5) = false := bne_eq_false_iff_eq.mpr c22
          clear c22
          by_cases c23 : 9 + a0_3.size ≤ 9223372036854775807
          · rw [if_pos c23] at H
            have c23b0 := eq_true c23
            have c23b1 : decide (9 + a0_3.size ≤ 9223372036854775807) = true := decide_eq_true c23
            try have c23b2 : (9223372036854775807 < 9 + a0_3.size) = False := eq_false (Nat.not_lt.2 c23)
            obtain rfl := Option.some.inj H
            go_enter Tryd.func54, Tryd.ntmps54
            go_wp2_with (first | ((with_reducible refine gate_dst (N := 1) rfl ?_); refine box_event ?hg (N := 1) ?hd (cs := #[.int .u8 a0_0, .string a0_1, .int .i64 a0_2, .string a0_3, .int .u8 a0_4, .slice A0_5 l0_5.length c0_5]) (t := 63) ?hr ?_; (case hd => rfl); (case hg => rfl); (case hr => first | (go_simp; done) | (go_simp; rfl)); intro gb101 hg w24 hbox hb; have n0_ := Aside0.mk (below_step (by repeat (first | (with_reducible first | exact HB.out | apply below_alloc | apply pw_below_drewN | apply below_drew1) | exact HB.out)) hb); have n1_ := Aside0.mk (hbox); have n2_ := Aside0.mk ((by rw [hg]; exact (below_size (by repeat (first | (with_reducible first | exact HB.out | apply below_alloc | apply pw_below_drewN | apply below_drew1) | exact HB.out))) : w.heap.size ≤ gb101)); have n3_ := Aside0.mk ((by rw [hg]; exact (below_size (by repeat (first | (with_reducible first | exact HB.out | apply below_alloc | apply pw_below_drewN | apply below_drew1) | exact HB.out))) : w.heap.size ≤ gb101)); clear HB; have HB := n0_; have BK101 := n1_; have GW101 := n2_; have GE101 := n3_; clear n0_ n1_ n2_ n3_; clear hb hbox hg; have hcz25_0 : w24.cell? ⟨gb101, 0, none⟩ = some (.int .u8 a0_0) := (blk_cell BK101.out 0).trans rfl; have hcz25_1 : w24.cell? ⟨gb101, 1, none⟩ = some (.string a0_1) := (blk_cell BK101.out 1).trans rfl; have hcz25_2 : w24.cell? ⟨gb101, 2, none⟩ = some (.int .i64 a0_2) := (blk_cell BK101.out 2).trans rfl; have hcz25_3 : w24.cell? ⟨gb101, 3, none⟩ = some (.string a0_3) := (blk_cell BK101.out 3).trans rfl; have hcz25_4 : w24.cell? ⟨gb101, 4, none⟩ = some (.int .u8 a0_4) := (blk_cell BK101.out 4).trans rfl; have hcz25_5 : w24.cell? ⟨gb101, 5, none⟩ = some (.slice A0_5 l0_5.length c0_5) := (blk_cell BK101.out 5).trans rfl; have hfz25_0 := blk_frozen BK101.out 0; have hfz25_1 := blk_frozen BK101.out 1; have hfz25_2 := blk_frozen BK101.out 2; have hfz25_3 := blk_frozen BK101.out 3; have hfz25_4 := blk_frozen BK101.out 4; have hfz25_5 := blk_frozen BK101.out 5))
            repeat (go_quiet (first | ((with_reducible refine gate_dst (N := 1) rfl ?_); refine box_event ?hg (N := 1) ?hd (cs := #[.int .u8 a0_0, .string a0_1, .int .i64 a0_2, .string a0_3, .int .u8 a0_4, .slice A0_5 l0_5.length c0_5]) (t := 63) ?hr ?_; (case hd => rfl); (case hg => rfl); (case hr => first | (go_simp; done) | (go_simp; rfl)); intro gb101 hg w24 hbox hb; have n0_ := Aside0.mk (below_step (by repeat (first | (with_reducible first | exact HB.out | apply below_alloc | apply pw_below_drewN | apply below_drew1) | exact HB.out)) hb); have n1_ := Aside0.mk (hbox); have n2_ := Aside0.mk ((by rw [hg]; exact (below_size (by repeat (first | (with_reducible first | exact HB.out | apply below_alloc | apply pw_below_drewN | apply below_drew1) | exact HB.out))) : w.heap.size ≤ gb101)); have n3_ := Aside0.mk ((by rw [hg]; exact (below_size (by repeat (first | (with_reducible first | exact HB.out | apply below_alloc | apply pw_below_drewN | apply below_drew1) | exact HB.out))) : w.heap.size ≤ gb101)); clear HB; have HB := n0_; have BK101 := n1_; have GW101 := n2_; have GE101 := n3_; clear n0_ n1_ n2_ n3_; clear hb hbox hg; have hcz25_0 : w24.cell? ⟨gb101, 0, none⟩ = some (.int .u8 a0_0) := (blk_cell BK101.out 0).trans rfl; have hcz25_1 : w24.cell? ⟨gb101, 1, none⟩ = some (.string a0_1) := (blk_cell BK101.out 1).trans rfl; have hcz25_2 : w24.cell? ⟨gb101, 2, none⟩ = some (.int .i64 a0_2) := (blk_cell BK101.out 2).trans rfl; have hcz25_3 : w24.cell? ⟨gb101, 3, none⟩ = some (.string a0_3) := (blk_cell BK101.out 3).trans rfl; have hcz25_4 : w24.cell? ⟨gb101, 4, none⟩ = some (.int .u8 a0_4) := (blk_cell BK101.out 4).trans rfl; have hcz25_5 : w24.cell? ⟨gb101, 5, none⟩ = some (.slice A0_5 l0_5.length c0_5) := (blk_cell BK101.out 5).trans rfl; have hfz25_0 := blk_frozen BK101.out 0; have hfz25_1 := blk_frozen BK101.out 1; have hfz25_2 := blk_frozen BK101.out 2; have hfz25_3 := blk_frozen BK101.out 3; have hfz25_4 := blk_frozen BK101.out 4; have hfz25_5 := blk_frozen BK101.out 5)); try go_wp2_with (first | ((with_reducible refine gate_dst (N := 1) rfl ?_); refine box_event ?hg (N := 1) ?hd (cs := #[.int .u8 a0_0, .string a0_1, .int .i64 a0_2, .string a0_3, .int .u8 a0_4, .slice A0_5 l0_5.length c0_5]) (t := 63) ?hr ?_; (case hd => rfl); (case hg => rfl); (case hr => first | (go_simp; done) | (go_simp; rfl)); intro gb101 hg w24 hbox hb; have n0_ := Aside0.mk (below_step (by repeat (first | (with_reducible first | exact HB.out | apply below_alloc | apply pw_below_drewN | apply below_drew1) | exact HB.out)) hb); have n1_ := Aside0.mk (hbox); have n2_ := Aside0.mk ((by rw [hg]; exact (below_size (by repeat (first | (with_reducible first | exact HB.out | apply below_alloc | apply pw_below_drewN | apply below_drew1) | exact HB.out))) : w.heap.size ≤ gb101)); have n3_ := Aside0.mk ((by rw [hg]; exact (below_size (by repeat (first | (with_reducible first | exact HB.out | apply below_alloc | apply pw_below_drewN | apply below_drew1) | exact HB.out))) : w.heap.size ≤ gb101)); clear HB; have HB := n0_; have BK101 := n1_; have GW101 := n2_; have GE101 := n3_; clear n0_ n1_ n2_ n3_; clear hb hbox hg; have hcz25_0 : w24.cell? ⟨gb101, 0, none⟩ = some (.int .u8 a0_0) := (blk_cell BK101.out 0).trans rfl; have hcz25_1 : w24.cell? ⟨gb101, 1, none⟩ = some (.string a0_1) := (blk_cell BK101.out 1).trans rfl; have hcz25_2 : w24.cell? ⟨gb101, 2, none⟩ = some (.int .i64 a0_2) := (blk_cell BK101.out 2).trans rfl; have hcz25_3 : w24.cell? ⟨gb101, 3, none⟩ = some (.string a0_3) := (blk_cell BK101.out 3).trans rfl; have hcz25_4 : w24.cell? ⟨gb101, 4, none⟩ = some (.int .u8 a0_4) := (blk_cell BK101.out 4).trans rfl; have hcz25_5 : w24.cell? ⟨gb101, 5, none⟩ = some (.slice A0_5 l0_5.length c0_5) := (blk_cell BK101.out 5).trans rfl; have hfz25_0 := blk_frozen BK101.out 0; have hfz25_1 := blk_frozen BK101.out 1; have hfz25_2 := blk_frozen BK101.out 2; have hfz25_3 := blk_frozen BK101.out 3; have hfz25_4 := blk_frozen BK101.out 4; have hfz25_5 := blk_frozen BK101.out 5)))
            go_ret
            exact ⟨by first | rfl | (simp [errW_none, errW_some] <;> rfl) | (simp [*, errW_none, errW_some] <;> rfl), by repeat (first | (with_reducible first | exact HB.out | apply below_alloc | apply pw_below_drewN | apply below_drew1 | refine below_set ?_ GE101.out) | exact HB.out)⟩
          · rw [if_neg c23] at H
            exact absurd H (by simp)
        · rw [if_neg c22] at H
          have c22b0 : (a0_0 == 5) = false := beq_eq_false_iff_ne.mpr c22
          have c22b1 : (a0_0 != 5) = true := bne_iff_ne.mpr c22
          by_cases c26 : a0_4 = 0
          · rw [if_pos c26] at H
            have c26b0 : (a0_4 == 0) = true := beq_iff_eq.mpr c26
            have c26b1 : (a0_4 != 0) = false := bne_eq_false_iff_eq.mpr c26
            clear c26
            replace H := Option.bind_eq_some_iff.mp H
            obtain ⟨⟨t105, t106⟩, A270, H⟩ := H
            replace H : (if 1 + t105.size ≤ 9223372036854775807 then (some ((⟨#[32]⟩ : ByteArray) ++ t105)) else (none)) = some r := H
            have A27 := Aside0.mk A270
            clear A270
            by_cases c28 : 1 + t105.size ≤ 9223372036854775807
            · rw [if_pos c28] at H
              have c28b0 := eq_true c28
              have c28b1 : decide (1 + t105.size ≤ 9223372036854775807) = true := decide_eq_true c28
              try have c28b2 : (9223372036854775807 < 1 + t105.size) = False := eq_false (Nat.not_lt.2 c28)
              obtain rfl := Option.some.inj H
              go_enter Tryd.func54, Tryd.ntmps54
              go_wp2_with (first | ((with_reducible refine gate_dst (N := 1) rfl ?_); refine box_event ?hg (N := 1) ?hd (cs := #[.int .u8 a0_0, .string a0_1, .int .i64 a0_2, .string a0_3, .int .u8 a0_4, .slice A0_5 l0_5.length c0_5]) (t := 63) ?hr ?_; (case hd => rfl); (case hg => rfl); (case hr => first | (go_simp; done) | (go_simp; rfl)); intro gb101 hg w29 hbox hb; have n0_ := Aside0.mk (below_step (by repeat (first | (with_reducible first | exact HB.out | apply below_alloc | apply pw_below_drewN | apply below_drew1) | exact HB.out)) hb); have n1_ := Aside0.mk (hbox); have n2_ := Aside0.mk ((by rw [hg]; exact (below_size (by repeat (first | (with_reducible first | exact HB.out | apply below_alloc | apply pw_below_drewN | apply below_drew1) | exact HB.out))) : w.heap.size ≤ gb101)); have n3_ := Aside0.mk ((by rw [hg]; exact (below_size (by repeat (first | (with_reducible first | exact HB.out | apply below_alloc | apply pw_below_drewN | apply below_drew1) | exact HB.out))) : w.heap.size ≤ gb101)); clear HB; have HB := n0_; have BK101 := n1_; have GW101 := n2_; have GE101 := n3_; clear n0_ n1_ n2_ n3_; clear hb hbox hg; have hcz30_0 : w29.cell? ⟨gb101, 0, none⟩ = some (.int .u8 a0_0) := (blk_cell BK101.out 0).trans rfl; have hcz30_1 : w29.cell? ⟨gb101, 1, none⟩ = some (.string a0_1) := (blk_cell BK101.out 1).trans rfl; have hcz30_2 : w29.cell? ⟨gb101, 2, none⟩ = some (.int .i64 a0_2) := (blk_cell BK101.out 2).trans rfl; have hcz30_3 : w29.cell? ⟨gb101, 3, none⟩ = some (.string a0_3) := (blk_cell BK101.out 3).trans rfl; have hcz30_4 : w29.cell? ⟨gb101, 4, none⟩ = some (.int .u8 a0_4) := (blk_cell BK101.out 4).trans rfl; have hcz30_5 : w29.cell? ⟨gb101, 5, none⟩ = some (.slice A0_5 l0_5.length c0_5) := (blk_cell BK101.out 5).trans rfl; have hfz30_0 := blk_frozen BK101.out 0; have hfz30_1 := blk_frozen BK101.out 1; have hfz30_2 := blk_frozen BK101.out 2; have hfz30_3 := blk_frozen BK101.out 3; have hfz30_4 := blk_frozen BK101.out 4; have hfz30_5 := blk_frozen BK101.out 5) | (go_at_call 88; (with_reducible refine (code_Print.calls k a0_1 a0_2 t105 t106 _ ?side1 A27.out).mono ?_); (case side1 => first | (with_reducible exact HG.out) | (with_reducible exact (HG.out).below HB.out) | (with_reducible exact (HG.out).same World.heap_drewN) | (refine (HG.out).below ?_; (repeat (first | (with_reducible first | exact HB.out | apply below_alloc | apply pw_below_drewN | apply below_drew1 | refine below_set ?_ GE101.out) | exact HB.out)); done) | exact (HG.out).same rfl); rintro e w31 ⟨rfl, hb⟩; have n0_ := Aside0.mk (blk_below (g := gb101) (o := .cells #[.int .u8 a0_0, .string a0_1, .int .i64 a0_2, .string a0_3, .int .u8 a0_4, .slice A0_5 l0_5.length c0_5] 63 (0, 0)) (by (with_reducible repeat (first | refine blk_drewN ?_ _ | refine blk_drew ?_ | refine blk_alloc ?_ _)); exact BK101.out) hb); have n1_ := Aside0.mk (below_step (by repeat (first | (with_reducible first | exact HB.out | apply below_alloc | apply pw_below_drewN | apply below_drew1 | refine below_set ?_ GE101.out) | exact HB.out)) hb); clear BK101; clear HB; have BK101 := n0_; have HB := n1_; clear n0_ n1_; (try clear hb); (try clear hb2); (try clear hk); (try clear hi)))
              repeat (go_quiet (first | ((with_reducible refine gate_dst (N := 1) rfl ?_); refine box_event ?hg (N := 1) ?hd (cs := #[.int .u8 a0_0, .string a0_1, .int .i64 a0_2, .string a0_3, .int .u8 a0_4, .slice A0_5 l0_5.length c0_5]) (t := 63) ?hr ?_; (case hd => rfl); (case hg => rfl); (case hr => first | (go_simp; done) | (go_simp; rfl)); intro gb101 hg w29 hbox hb; have n0_ := Aside0.mk (below_step (by repeat (first | (with_reducible first | exact HB.out | apply below_alloc | apply pw_below_drewN | apply below_drew1) | exact HB.out)) hb); have n1_ := Aside0.mk (hbox); have n2_ := Aside0.mk ((by rw [hg]; exact (below_size (by repeat (first | (with_reducible first | exact HB.out | apply below_alloc | apply pw_below_drewN | apply below_drew1) | exact HB.out))) : w.heap.size ≤ gb101)); have n3_ := Aside0.mk ((by rw [hg]; exact (below_size (by repeat (first | (with_reducible first | exact HB.out | apply below_alloc | apply pw_below_drewN | apply below_drew1) | exact HB.out))) : w.heap.size ≤ gb101)); clear HB; have HB := n0_; have BK101 := n1_; have GW101 := n2_; have GE101 := n3_; clear n0_ n1_ n2_ n3_; clear hb hbox hg; have hcz30_0 : w29.cell? ⟨gb101, 0, none⟩ = some (.int .u8 a0_0) := (blk_cell BK101.out 0).trans rfl; have hcz30_1 : w29.cell? ⟨gb101, 1, none⟩ = some (.string a0_1) := (blk_cell BK101.out 1).trans rfl; have hcz30_2 : w29.cell? ⟨gb101, 2, none⟩ = some (.int .i64 a0_2) := (blk_cell BK101.out 2).trans rfl; have hcz30_3 : w29.cell? ⟨gb101, 3, none⟩ = some (.string a0_3) := (blk_cell BK101.out 3).trans rfl; have hcz30_4 : w29.cell? ⟨gb101, 4, none⟩ = some (.int .u8 a0_4) := (blk_cell BK101.out 4).trans rfl; have hcz30_5 : w29.cell? ⟨gb101, 5, none⟩ = some (.slice A0_5 l0_5.length c0_5) := (blk_cell BK101.out 5).trans rfl; have hfz30_0 := blk_frozen BK101.out 0; have hfz30_1 := blk_frozen BK101.out 1; have hfz30_2 := blk_frozen BK101.out 2; have hfz30_3 := blk_frozen BK101.out 3; have hfz30_4 := blk_frozen BK101.out 4; have hfz30_5 := blk_frozen BK101.out 5) | (go_at_call 88; (with_reducible refine (code_Print.calls k a0_1 a0_2 t105 t106 _ ?side1 A27.out).mono ?_); (case side1 => first | (with_reducible exact HG.out) | (with_reducible exact (HG.out).below HB.out) | (with_reducible exact (HG.out).same World.heap_drewN) | (refine (HG.out).below ?_; (repeat (first | (with_reducible first | exact HB.out | apply below_alloc | apply pw_below_drewN | apply below_drew1 | refine below_set ?_ GE101.out) | exact HB.out)); done) | exact (HG.out).same rfl); rintro e w31 ⟨rfl, hb⟩; have n0_ := Aside0.mk (blk_below (g := gb101) (o := .cells #[.int .u8 a0_0, .string a0_1, .int .i64 a0_2, .string a0_3, .int .u8 a0_4, .slice A0_5 l0_5.length c0_5] 63 (0, 0)) (by (with_reducible repeat (first | refine blk_drewN ?_ _ | refine blk_drew ?_ | refine blk_alloc ?_ _)); exact BK101.out) hb); have n1_ := Aside0.mk (below_step (by repeat (first | (with_reducible first | exact HB.out | apply below_alloc | apply pw_below_drewN | apply below_drew1 | refine below_set ?_ GE101.out) | exact HB.out)) hb); clear BK101; clear HB; have BK101 := n0_; have HB := n1_; clear n0_ n1_; (try clear hb); (try clear hb2); (try clear hk); (try clear hi))); try go_wp2_with (first | ((with_reducible refine gate_dst (N := 1) rfl ?_); refine box_event ?hg (N := 1) ?hd (cs := #[.int .u8 a0_0, .string a0_1, .int .i64 a0_2, .string a0_3, .int .u8 a0_4, .slice A0_5 l0_5.length c0_5]) (t := 63) ?hr ?_; (case hd => rfl); (case hg => rfl); (case hr => first | (go_simp; done) | (go_simp; rfl)); intro gb101 hg w29 hbox hb; have n0_ := Aside0.mk (below_step (by repeat (first | (with_reducible first | exact HB.out | apply below_alloc | apply pw_below_drewN | apply below_drew1) | exact HB.out)) hb); have n1_ := Aside0.mk (hbox); have n2_ := Aside0.mk ((by rw [hg]; exact (below_size (by repeat (first | (with_reducible first | exact HB.out | apply below_alloc | apply pw_below_drewN | apply below_drew1) | exact HB.out))) : w.heap.size ≤ gb101)); have n3_ := Aside0.mk ((by rw [hg]; exact (below_size (by repeat (first | (with_reducible first | exact HB.out | apply below_alloc | apply pw_below_drewN | apply below_drew1) | exact HB.out))) : w.heap.size ≤ gb101)); clear HB; have HB := n0_; have BK101 := n1_; have GW101 := n2_; have GE101 := n3_; clear n0_ n1_ n2_ n3_; clear hb hbox hg; have hcz30_0 : w29.cell? ⟨gb101, 0, none⟩ = some (.int .u8 a0_0) := (blk_cell BK101.out 0).trans rfl; have hcz30_1 : w29.cell? ⟨gb101, 1, none⟩ = some (.string a0_1) := (blk_cell BK101.out 1).trans rfl; have hcz30_2 : w29.cell? ⟨gb101, 2, none⟩ = some (.int .i64 a0_2) := (blk_cell BK101.out 2).trans rfl; have hcz30_3 : w29.cell? ⟨gb101, 3, none⟩ = some (.string a0_3) := (blk_cell BK101.out 3).trans rfl; have hcz30_4 : w29.cell? ⟨gb101, 4, none⟩ = some (.int .u8 a0_4) := (blk_cell BK101.out 4).trans rfl; have hcz30_5 : w29.cell? ⟨gb101, 5, none⟩ = some (.slice A0_5 l0_5.length c0_5) := (blk_cell BK101.out 5).trans rfl; have hfz30_0 := blk_frozen BK101.out 0; have hfz30_1 := blk_frozen BK101.out 1; have hfz30_2 := blk_frozen BK101.out 2; have hfz30_3 := blk_frozen BK101.out 3; have hfz30_4 := blk_frozen BK101.out 4; have hfz30_5 := blk_frozen BK101.out 5) | (go_at_call 88; (with_reducible refine (code_Print.calls k a0_1 a0_2 t105 t106 _ ?side1 A27.out).mono ?_); (case side1 => first | (with_reducible exact HG.out) | (with_reducible exact (HG.out).below HB.out) | (with_reducible exact (HG.out).same World.heap_drewN) | (refine (HG.out).below ?_; (repeat (first | (with_reducible first | exact HB.out | apply below_alloc | apply pw_below_drewN | apply below_drew1 | refine below_set ?_ GE101.out) | exact HB.out)); done) | exact (HG.out).same rfl); rintro e w31 ⟨rfl, hb⟩; have n0_ := Aside0.mk (blk_below (g := gb101) (o := .cells #[.int .u8 a0_0, .string a0_1, .int .i64 a0_2, .string a0_3, .int .u8 a0_4, .slice A0_5 l0_5.length c0_5] 63 (0, 0)) (by (with_reducible repeat (first | refine blk_drewN ?_ _ | refine blk_drew ?_ | refine blk_alloc ?_ _)); exact BK101.out) hb); have n1_ := Aside0.mk (below_step (by repeat (first | (with_reducible first | exact HB.out | apply below_alloc | apply pw_below_drewN | apply below_drew1 | refine below_set ?_ GE101.out) | exact HB.out)) hb); clear BK101; clear HB; have BK101 := n0_; have HB := n1_; clear n0_ n1_; (try clear hb); (try clear hb2); (try clear hk); (try clear hi))))
              go_ret
              exact ⟨by first | rfl | (simp [errW_none, errW_some] <;> rfl) | (simp [*, errW_none, errW_some] <;> rfl), by repeat (first | (with_reducible first | exact HB.out | apply below_alloc | apply pw_below_drewN | apply below_drew1 | refine below_set ?_ GE101.out) | exact HB.out)⟩
            · rw [if_neg c28] at H
              exact absurd H (by simp)
          · rw [if_neg c26] at H
            have c26b0 : (a0_4 == 0) = false := beq_eq_false_iff_ne.mpr c26
            have c26b1 : (a0_4 != 0) = true := bne_iff_ne.mpr c26
            by_cases c32 : 1 + a0_1.size ≤ 9223372036854775807
            · rw [if_pos c32] at H
              have c32b0 := eq_true c32
              have c32b1 : decide (1 + a0_1.size ≤ 9223372036854775807) = true := decide_eq_true c32
              try have c32b2 : (9223372036854775807 < 1 + a0_1.size) = False := eq_false (Nat.not_lt.2 c32)
              by_cases c33 : ((⟨#[32]⟩ : ByteArray) ++ a0_1).size + 1 ≤ 9223372036854775807
              · rw [if_pos c33] at H
                have c33b0 := eq_true c33
                have c33b1 : decide (((⟨#[32]⟩ : ByteArray) ++ a0_1).size + 1 ≤ 9223372036854775807) = true := decide_eq_true c33
                try have c33b2 : (9223372036854775807 < ((⟨#[32]⟩ : ByteArray) ++ a0_1).size + 1) = False := eq_false (Nat.not_lt.2 c33)
                have c33b3 : (9223372036854775807 < 1 + a0_1.size + 1) = False := eq_false (Nat.not_lt.2 (Nat.le_trans (Nat.le_of_eq (by simp only [ByteArray.size_append]; rfl)) c33))
                replace H := Option.bind_eq_some_iff.mp H
                obtain ⟨t107, A340, H⟩ := H
                replace H : (if (((⟨#[32]⟩ : ByteArray) ++ a0_1) ++ (⟨#[32]⟩ : ByteArray)).size + t107.size ≤ 9223372036854775807 then (if ((((⟨#[32]⟩ : ByteArray) ++ a0_1) ++ (⟨#[32]⟩ : ByteArray)) ++ t107).size + 1 ≤ 9223372036854775807 then (if (((((⟨#[32]⟩ : ByteArray) ++ a0_1) ++ (⟨#[32]⟩ : ByteArray)) ++ t107) ++ (⟨#[32]⟩ : ByteArray)).size + a0_3.size ≤ 9223372036854775807 then (some ((((((⟨#[32]⟩ : ByteArray) ++ a0_1) ++ (⟨#[32]⟩ : ByteArray)) ++ t107) ++ (⟨#[32]⟩ : ByteArray)) ++ a0_3)) else (none)) else (none)) else (none)) = some r := H
                have A34 := Aside0.mk A340
                clear A340
                by_cases c35 : (((⟨#[32]⟩ : ByteArray) ++ a0_1) ++ (⟨#[32]⟩ : ByteArray)).size + t107.size ≤ 9223372036854775807
                · rw [if_pos c35] at H
                  have c35b0 := eq_true c35
                  have c35b1 : decide ((((⟨#[32]⟩ : ByteArray) ++ a0_1) ++ (⟨#[32]⟩ : ByteArray)).size + t107.size ≤ 9223372036854775807) = true := decide_eq_true c35
                  try have c35b2 : (9223372036854775807 < (((⟨#[32]⟩ : ByteArray) ++ a0_1) ++ (⟨#[32]⟩ : ByteArray)).size + t107.size) = False := eq_false (Nat.not_lt.2 c35)
                  have c35b3 : (9223372036854775807 < 1 + a0_1.size + 1 + t107.size) = False := eq_false (Nat.not_lt.2 (Nat.le_trans (Nat.le_of_eq (by simp only [ByteArray.size_append]; rfl)) c35))
                  by_cases c36 : ((((⟨#[32]⟩ : ByteArray) ++ a0_1) ++ (⟨#[32]⟩ : ByteArray)) ++ t107).size + 1 ≤ 9223372036854775807
                  · rw [if_pos c36] at H
                    have c36b0 := eq_true c36
                    have c36b1 : decide (((((⟨#[32]⟩ : ByteArray) ++ a0_1) ++ (⟨#[32]⟩ : ByteArray)) ++ t107).size + 1 ≤ 9223372036854775807) = true := decide_eq_true c36
                    try have c36b2 : (9223372036854775807 < ((((⟨#[32]⟩ : ByteArray) ++ a0_1) ++ (⟨#[32]⟩ : ByteArray)) ++ t107).size + 1) = False := eq_false (Nat.not_lt.2 c36)
                    have c36b3 : (9223372036854775807 < 1 + a0_1.size + 1 + t107.size + 1) = False := eq_false (Nat.not_lt.2 (Nat.le_trans (Nat.le_of_eq (by simp only [ByteArray.size_append]; rfl)) c36))
                    by_cases c37 : (((((⟨#[32]⟩ : ByteArray) ++ a0_1) ++ (⟨#[32]⟩ : ByteArray)) ++ t107) ++ (⟨#[32]⟩ : ByteArray)).size + a0_3.size ≤ 9223372036854775807
                    · rw [if_pos c37] at H
                      have c37b0 := eq_true c37
                      have c37b1 : decide ((((((⟨#[32]⟩ : ByteArray) ++ a0_1) ++ (⟨#[32]⟩ : ByteArray)) ++ t107) ++ (⟨#[32]⟩ : ByteArray)).size + a0_3.size ≤ 9223372036854775807) = true := decide_eq_true c37
                      try have c37b2 : (9223372036854775807 < (((((⟨#[32]⟩ : ByteArray) ++ a0_1) ++ (⟨#[32]⟩ : ByteArray)) ++ t107) ++ (⟨#[32]⟩ : ByteArray)).size + a0_3.size) = False := eq_false (Nat.not_lt.2 c37)
                      have c37b3 : (9223372036854775807 < 1 + a0_1.size + 1 + t107.size + 1 + a0_3.size) = False := eq_false (Nat.not_lt.2 (Nat.le_trans (Nat.le_of_eq (by simp only [ByteArray.size_append]; rfl)) c37))
                      obtain rfl := Option.some.inj H
                      go_enter Tryd.func54, Tryd.ntmps54
                      go_wp2_with (first | ((with_reducible refine gate_dst (N := 1) rfl ?_); refine box_event ?hg (N := 1) ?hd (cs := #[.int .u8 a0_0, .string a0_1, .int .i64 a0_2, .string a0_3, .int .u8 a0_4, .slice A0_5 l0_5.length c0_5]) (t := 63) ?hr ?_; (case hd => rfl); (case hg => rfl); (case hr => first | (go_simp; done) | (go_simp; rfl)); intro gb101 hg w38 hbox hb; have n0_ := Aside0.mk (below_step (by repeat (first | (with_reducible first | exact HB.out | apply below_alloc | apply pw_below_drewN | apply below_drew1) | exact HB.out)) hb); have n1_ := Aside0.mk (hbox); have n2_ := Aside0.mk ((by rw [hg]; exact (below_size (by repeat (first | (with_reducible first | exact HB.out | apply below_alloc | apply pw_below_drewN | apply below_drew1) | exact HB.out))) : w.heap.size ≤ gb101)); have n3_ := Aside0.mk ((by rw [hg]; exact (below_size (by repeat (first | (with_reducible first | exact HB.out | apply below_alloc | apply pw_below_drewN | apply below_drew1) | exact HB.out))) : w.heap.size ≤ gb101)); clear HB; have HB := n0_; have BK101 := n1_; have GW101 := n2_; have GE101 := n3_; clear n0_ n1_ n2_ n3_; clear hb hbox hg; have hcz39_0 : w38.cell? ⟨gb101, 0, none⟩ = some (.int .u8 a0_0) := (blk_cell BK101.out 0).trans rfl; have hcz39_1 : w38.cell? ⟨gb101, 1, none⟩ = some (.string a0_1) := (blk_cell BK101.out 1).trans rfl; have hcz39_2 : w38.cell? ⟨gb101, 2, none⟩ = some (.int .i64 a0_2) := (blk_cell BK101.out 2).trans rfl; have hcz39_3 : w38.cell? ⟨gb101, 3, none⟩ = some (.string a0_3) := (blk_cell BK101.out 3).trans rfl; have hcz39_4 : w38.cell? ⟨gb101, 4, none⟩ = some (.int .u8 a0_4) := (blk_cell BK101.out 4).trans rfl; have hcz39_5 : w38.cell? ⟨gb101, 5, none⟩ = some (.slice A0_5 l0_5.length c0_5) := (blk_cell BK101.out 5).trans rfl; have hfz39_0 := blk_frozen BK101.out 0; have hfz39_1 := blk_frozen BK101.out 1; have hfz39_2 := blk_frozen BK101.out 2; have hfz39_3 := blk_frozen BK101.out 3; have hfz39_4 := blk_frozen BK101.out 4; have hfz39_5 := blk_frozen BK101.out 5) | (go_at_call 87; (with_reducible refine (source_parts.calls a0_4 t107 _ A34.out).mono ?_); rintro e w' ⟨rfl, ⟨nd, rfl⟩⟩; (try first | exact ⟨rfl, _, World.drewN_drewN _ _ _⟩ | exact ⟨rfl, _, Eq.trans (World.drewN_drewN _ _ _) (congrArg (World.drewN _) (Nat.add_assoc _ _ _))⟩)))
                      repeat (go_quiet (first | ((with_reducible refine gate_dst (N := 1) rfl ?_); refine box_event ?hg (N := 1) ?hd (cs := #[.int .u8 a0_0, .string a0_1, .int .i64 a0_2, .string a0_3, .int .u8 a0_4, .slice A0_5 l0_5.length c0_5]) (t := 63) ?hr ?_; (case hd => rfl); (case hg => rfl); (case hr => first | (go_simp; done) | (go_simp; rfl)); intro gb101 hg w38 hbox hb; have n0_ := Aside0.mk (below_step (by repeat (first | (with_reducible first | exact HB.out | apply below_alloc | apply pw_below_drewN | apply below_drew1) | exact HB.out)) hb); have n1_ := Aside0.mk (hbox); have n2_ := Aside0.mk ((by rw [hg]; exact (below_size (by repeat (first | (with_reducible first | exact HB.out | apply below_alloc | apply pw_below_drewN | apply below_drew1) | exact HB.out))) : w.heap.size ≤ gb101)); have n3_ := Aside0.mk ((by rw [hg]; exact (below_size (by repeat (first | (with_reducible first | exact HB.out | apply below_alloc | apply pw_below_drewN | apply below_drew1) | exact HB.out))) : w.heap.size ≤ gb101)); clear HB; have HB := n0_; have BK101 := n1_; have GW101 := n2_; have GE101 := n3_; clear n0_ n1_ n2_ n3_; clear hb hbox hg; have hcz39_0 : w38.cell? ⟨gb101, 0, none⟩ = some (.int .u8 a0_0) := (blk_cell BK101.out 0).trans rfl; have hcz39_1 : w38.cell? ⟨gb101, 1, none⟩ = some (.string a0_1) := (blk_cell BK101.out 1).trans rfl; have hcz39_2 : w38.cell? ⟨gb101, 2, none⟩ = some (.int .i64 a0_2) := (blk_cell BK101.out 2).trans rfl; have hcz39_3 : w38.cell? ⟨gb101, 3, none⟩ = some (.string a0_3) := (blk_cell BK101.out 3).trans rfl; have hcz39_4 : w38.cell? ⟨gb101, 4, none⟩ = some (.int .u8 a0_4) := (blk_cell BK101.out 4).trans rfl; have hcz39_5 : w38.cell? ⟨gb101, 5, none⟩ = some (.slice A0_5 l0_5.length c0_5) := (blk_cell BK101.out 5).trans rfl; have hfz39_0 := blk_frozen BK101.out 0; have hfz39_1 := blk_frozen BK101.out 1; have hfz39_2 := blk_frozen BK101.out 2; have hfz39_3 := blk_frozen BK101.out 3; have hfz39_4 := blk_frozen BK101.out 4; have hfz39_5 := blk_frozen BK101.out 5) | (go_at_call 87; (with_reducible refine (source_parts.calls a0_4 t107 _ A34.out).mono ?_); rintro e w' ⟨rfl, ⟨nd, rfl⟩⟩; (try first | exact ⟨rfl, _, World.drewN_drewN _ _ _⟩ | exact ⟨rfl, _, Eq.trans (World.drewN_drewN _ _ _) (congrArg (World.drewN _) (Nat.add_assoc _ _ _))⟩))); try go_wp2_with (first | ((with_reducible refine gate_dst (N := 1) rfl ?_); refine box_event ?hg (N := 1) ?hd (cs := #[.int .u8 a0_0, .string a0_1, .int .i64 a0_2, .string a0_3, .int .u8 a0_4, .slice A0_5 l0_5.length c0_5]) (t := 63) ?hr ?_; (case hd => rfl); (case hg => rfl); (case hr => first | (go_simp; done) | (go_simp; rfl)); intro gb101 hg w38 hbox hb; have n0_ := Aside0.mk (below_step (by repeat (first | (with_reducible first | exact HB.out | apply below_alloc | apply pw_below_drewN | apply below_drew1) | exact HB.out)) hb); have n1_ := Aside0.mk (hbox); have n2_ := Aside0.mk ((by rw [hg]; exact (below_size (by repeat (first | (with_reducible first | exact HB.out | apply below_alloc | apply pw_below_drewN | apply below_drew1) | exact HB.out))) : w.heap.size ≤ gb101)); have n3_ := Aside0.mk ((by rw [hg]; exact (below_size (by repeat (first | (with_reducible first | exact HB.out | apply below_alloc | apply pw_below_drewN | apply below_drew1) | exact HB.out))) : w.heap.size ≤ gb101)); clear HB; have HB := n0_; have BK101 := n1_; have GW101 := n2_; have GE101 := n3_; clear n0_ n1_ n2_ n3_; clear hb hbox hg; have hcz39_0 : w38.cell? ⟨gb101, 0, none⟩ = some (.int .u8 a0_0) := (blk_cell BK101.out 0).trans rfl; have hcz39_1 : w38.cell? ⟨gb101, 1, none⟩ = some (.string a0_1) := (blk_cell BK101.out 1).trans rfl; have hcz39_2 : w38.cell? ⟨gb101, 2, none⟩ = some (.int .i64 a0_2) := (blk_cell BK101.out 2).trans rfl; have hcz39_3 : w38.cell? ⟨gb101, 3, none⟩ = some (.string a0_3) := (blk_cell BK101.out 3).trans rfl; have hcz39_4 : w38.cell? ⟨gb101, 4, none⟩ = some (.int .u8 a0_4) := (blk_cell BK101.out 4).trans rfl; have hcz39_5 : w38.cell? ⟨gb101, 5, none⟩ = some (.slice A0_5 l0_5.length c0_5) := (blk_cell BK101.out 5).trans rfl; have hfz39_0 := blk_frozen BK101.out 0; have hfz39_1 := blk_frozen BK101.out 1; have hfz39_2 := blk_frozen BK101.out 2; have hfz39_3 := blk_frozen BK101.out 3; have hfz39_4 := blk_frozen BK101.out 4; have hfz39_5 := blk_frozen BK101.out 5) | (go_at_call 87; (with_reducible refine (source_parts.calls a0_4 t107 _ A34.out).mono ?_); rintro e w' ⟨rfl, ⟨nd, rfl⟩⟩; (try first | exact ⟨rfl, _, World.drewN_drewN _ _ _⟩ | exact ⟨rfl, _, Eq.trans (World.drewN_drewN _ _ _) (congrArg (World.drewN _) (Nat.add_assoc _ _ _))⟩))))
                      go_ret
                      exact ⟨by first | rfl | (simp [errW_none, errW_some] <;> rfl) | (simp [*, errW_none, errW_some] <;> rfl), by repeat (first | (with_reducible first | exact HB.out | apply below_alloc | apply pw_below_drewN | apply below_drew1 | refine below_set ?_ GE101.out) | exact HB.out)⟩
                    · rw [if_neg c37] at H
                      exact absurd H (by simp)
                  · rw [if_neg c36] at H
                    exact absurd H (by simp)
                · rw [if_neg c35] at H
                  exact absurd H (by simp)
              · rw [if_neg c33] at H
                exact absurd H (by simp)
            · rw [if_neg c32] at H
              exact absurd H (by simp)
end Go.Proofs.YthnafgffanlnfaaDoor.PSrc
namespace Go.Proofs.YthnafgffanlnfaaDoor.PSrc
open Go.RowKit Go.Proofs.YthnafgffanlnfaaDoorW.PrintWords Go.Proofs.YthnafgffanlnfaaDoorW.PrintLast Go.Proofs.YthnafgffanlnfaaDoorW.PrintMore
set_option linter.unusedVariables false
set_option linter.unusedSimpArgs false
def outP (k : Nat) : List S63 → List UInt8 → Option (Option (List UInt8))
  | [], acc => some (some acc)
  | x :: r, acc => (source_line.f k x.f0 x.f1 x.f2 x.f3 x.f4 x.f5).bind fun s =>
    if s.size ≤ 1000000000 then (if 65536 < (acc ++ (s.data.toList ++ [10])).length then some none else outP k r (acc ++ (s.data.toList ++ [10]))) else none
theorem outP_mono (k : Nat) : ∀ (l : List S63) (acc : List UInt8), LeO (outP k l acc) (outP (k + 1) l acc)
  | [], acc => LeO.refl _
  | x :: r, acc => LeO.bind (source_line.mono _ _ _ _ _ _ _) fun s => LeO.ite (LeO.ite (LeO.refl _) (outP_mono k r _)) (LeO.none _)
def printT (o : Option (List UInt8)) : ByteArray × Int := match o with | some acc => (⟨acc.toArray⟩, 0) | none => (⟨#[]⟩, 2)
def source_Print.f (k : Nat) (l : List S63) : Option (ByteArray × Int) :=
  (source_Check.f k l).bind fun t => if t.1 = 0 then (outP k l []).map printT else some (⟨#[]⟩, t.1)
theorem source_Print.mono : ∀ a0 k, LeO (source_Print.f k a0) (source_Print.f (k + 1) a0) := fun a0 k =>
  LeO.bind (source_Check.mono _ _) fun t => LeO.ite (LeO.map _ (outP_mono k _ _)) (LeO.refl _)
theorem builder_below {B b : Nat} {bs : List Value} {w w1 : World} (h : Lib.IsBuilder 94 5 B b bs w) (hb : Below w.heap.size w w1) : Lib.IsBuilder 94 5 B b bs w1 := by
  have step : ∀ p, Lib.BuilderAt 94 5 B b p bs w → Lib.BuilderAt 94 5 B b p bs w1 := by
    rintro p ⟨hB, v, hk, hown, hne⟩
    exact ⟨hB, v, blk_below hk hb, pw_own_below hown hb, hne⟩
  exact h.elim (fun x => .inl (step _ x)) (fun x => .inr (step _ x))
theorem builder_far {B b g : Nat} {bs : List Value} {cells : Array Value} {w : World} {cs : Array Value} (h : Lib.IsBuilder 94 5 B b bs w) (hg : w.heap[g]? = some (.cells cells 63 (0, 0))) : Lib.IsBuilder 94 5 B b bs (w.setRow g cs) := by
  have step : ∀ p, Lib.BuilderAt 94 5 B b p bs w → Lib.BuilderAt 94 5 B b p bs (w.setRow g cs) := by
    rintro p ⟨hB, v, hk, hown, hne⟩
    refine ⟨hB, v, (setRow_other w g b cs ?_).trans hk, own_move hown (fun k hk' => setRow_other w g k cs ?_), hne⟩
    · rintro rfl
      rw [hk] at hg
      injection hg with hg
      injection hg with _ hg
      cases hg
    · rintro rfl
      obtain ⟨cells', hc⟩ := own_typed hown k hk'
      rw [hc] at hg
      injection hg with hg
      injection hg with _ hg
      cases hg
  exact h.elim (fun x => .inl (step _ x)) (fun x => .inr (step _ x))
theorem drop_rd {l : List S63} {i : Nat} (h : i < l.length) : l.drop i = rd_T63 l (i : Int) :: l.drop (i + 1) := by
  rw [List.drop_eq_getElem_cons h]
  unfold rd_T63
  rw [Int.toNat_natCast, List.getD_eq_getElem?_getD, List.getElem?_eq_getElem h]; rfl
set_option maxHeartbeats 4000000 in
set_option maxRecDepth 100000 in
theorem source_Print.calls (k : Nat) (A0 : Option Addr) (c0 : Nat) (l0 : List (S63)) (r1 : ByteArray) (r2 : Int) (w : World) (hr0 : Kd.C k63 w A0 l0.length l0) (hc0 : l0.length ≤ c0) (HG0 : Gl w) (h : source_Print.f k l0 = some (r1, r2)) :
    Calls Tryd.prog 28 #[.slice A0 l0.length c0] w fun e w' => e = .returned (.tuple #[.string r1, .int .i64 r2]) ∧ Below w.heap.size w w' := by
  have hu63 := Tryd.underlying63
  have HR0 := Aside0.mk hr0
  have HC0 := Aside0.mk hc0
  clear hr0 hc0
  have HG := Aside0.mk HG0
  clear HG0
  obtain ⟨⟨e1, n1⟩, hC, h⟩ := Option.bind_eq_some_iff.mp h
  have hC := Aside0.mk hC
  dsimp only at h
  by_cases he : e1 = 0
  · subst he
    rw [if_pos rfl] at h
    obtain ⟨ro, hO, hr⟩ := Option.map_eq_some_iff.mp h
    clear h
    have HO := Aside0.mk hO
    have HRr := Aside0.mk hr
    clear hO hr
    go_enter Tryd.func28, Tryd.ntmps28
    go_wp2_with fail
    refine (source_Check.calls k A0 c0 l0 _ _ _ HR0.out HC0.out HG.out hC.out).mono ?_
    rintro e w1 ⟨rfl, hb1⟩
    have HB1 := Aside0.mk hb1
    clear hb1
    go_wp2_with fail
    obtain ⟨wz, hwz⟩ : ∃ wz, wz = w1.alloc (.cells #[.pointer none, .slice none 0 0] 94 (0, 0)) := ⟨_, rfl⟩
    have HI : Aside0 (Lib.IsBuilder 94 5 w.heap.size w1.heap.size (Lib.byteCells []) wz) := ⟨.inl ⟨HB1.out.size, .slice none 0 0, by rw [hwz]; exact blk_new w1 _, World.ownsRow_nil _ _ _ _, by simp [Value.ownBlock]⟩⟩
    have HBz : Aside0 (Below w.heap.size w wz) := ⟨by rw [hwz]; exact below_alloc HB1.out _⟩
    obtain ⟨gb0, hgb0⟩ : ∃ gb0, gb0 = w1.heap.size := ⟨_, rfl⟩
    rw [← hgb0] at HI ⊢
    rw [← hwz]
    clear hwz hgb0 HB1
    go_loopg [19] l0.length (fun kq v19 wr => ∃ (i : Nat) (acc : List UInt8), v19 = .int .i64 (i : Int) ∧ Aside0 (i + kq = l0.length) ∧ Aside0 (outP k (l0.drop i) acc = some ro) ∧ Aside0 (acc.length ≤ 65536) ∧ Aside0 (Lib.IsBuilder 94 5 w.heap.size gb0 (Lib.byteCells acc) wr) ∧ Aside0 (Below w.heap.size w wr))
    case atStart => exact ⟨0, [], rfl, ⟨Nat.zero_add _⟩, HO, ⟨Nat.zero_le _⟩, HI, HBz⟩
    case round =>
      clear HO HI HBz
      obtain ⟨i, acc, rfl, HK, HO, HA, HI, HB⟩ := hrel
      cases gk with
      | zero =>
        have hi : i = l0.length := HK.out
        have c3b0 : decide ((i : Int) < (l0.length : Int)) = false := decide_eq_false (by omega)
        have c3b1 : decide (i < l0.length) = false := decide_eq_false (by omega)
        have hro : ro = some acc := by
          have := HO.out
          rw [List.drop_eq_nil_of_le (by omega)] at this
          exact (Option.some.inj this).symm
        subst hro
        have hrr := HRr.out
        cases hrr
        clear hi
        go_wp2_with fail
        refine (Tryd.Builder_String_any w.heap.size gb0 acc _ HI.out HB.out.size).mono ?_
        rintro e w9 ⟨rfl, hb9⟩
        go_wp2_with fail
        go_ret2
        exact ⟨rfl, HB.out.trans hb9⟩
      | succ k1 =>
        have hi : i < l0.length := by have := HK.out; omega
        have c3b0 : decide ((i : Int) < (l0.length : Int)) = true := decide_eq_true (by omega)
        have c3b1 : decide (i < l0.length) = true := decide_eq_true hi
        have hO := HO.out
        rw [drop_rd hi] at hO
        obtain ⟨sl, hsl, hO⟩ := Option.bind_eq_some_iff.mp hO
        have HSL := Aside0.mk hsl
        by_cases hsz : sl.size ≤ 1000000000
        · rw [if_pos hsz] at hO
          have HO1 := Aside0.mk hO
          clear hsl hO HO
          have p101 : 0 ≤ (i : Int) := by omega
          have q101 : (i : Int) < (l0.length : Int) := by omega
          obtain ⟨ad, A5, c5, e101, hx0, hx1, hx2, hx3, hx4, hx5, hl5, hi5⟩ := at_T63 HR0.out (i : Int) p101 q101
          cases e101
          rw [Int.toNat_natCast] at hx0 hx1 hx2 hx3 hx4 hx5
          replace hx0 := (HB.out.cell (World.block_lt_of_cell? w _ hx0)).trans hx0
          replace hx1 := (HB.out.cell (World.block_lt_of_cell? w _ hx1)).trans hx1
          replace hx2 := (HB.out.cell (World.block_lt_of_cell? w _ hx2)).trans hx2
          replace hx3 := (HB.out.cell (World.block_lt_of_cell? w _ hx3)).trans hx3
          replace hx4 := (HB.out.cell (World.block_lt_of_cell? w _ hx4)).trans hx4
          replace hx5 := (HB.out.cell (World.block_lt_of_cell? w _ hx5)).trans hx5
          have HC5 := Aside0.mk hi5
          have HL5 := Aside0.mk hl5
          clear hi5 hl5
          replace p101 := eq_true p101
          replace q101 := eq_true q101
          obtain ⟨x, hx⟩ : ∃ x, x = rd_T63 l0 (i : Int) := ⟨_, rfl⟩
          rw [← hx] at hx0 hx1 hx2 hx3 hx4 hx5 HC5 HL5 HSL
          clear hx
          go_wp2_with (first | ((with_reducible refine gate_dst (N := 8) rfl ?_); refine box_event ?hg (N := 8) ?hd (cs := #[.int .u8 0, .string (⟨#[]⟩ : ByteArray), .int .i64 0, .string (⟨#[]⟩ : ByteArray), .int .u8 0, .slice none 0 0]) (t := 63) ?hr ?_; (case hd => rfl); (case hg => rfl); (case hr => first | (go_simp; done) | (go_simp; rfl)); intro gb hg w8 hbox hb; have BK := Aside0.mk hbox; have GB := Aside0.mk hg; have HB8 := Aside0.mk hb; clear hg hbox hb) | (refine wpList_store_row (P := Tryd.prog) rfl 63 _ _ rfl gb #[.int .u8 x.f0, .string x.f1, .int .i64 x.f2, .string x.f3, .int .u8 x.f4, .slice A5 x.f5.length c5] rfl rfl 63 _ BK.out (by kernel_rfl) (by kernel_rfl) (by kernel_rfl) ?_) | (refine wpList_load_row (P := Tryd.prog) rfl 63 _ rfl gb rfl 63 #[.int .u8 x.f0, .string x.f1, .int .i64 x.f2, .string x.f3, .int .u8 x.f4, .slice A5 x.f5.length c5] (0, 0) _ (setRow_heap w8 gb _ _ 63 (0, 0) BK.out) hu63 rfl (by kernel_rfl) ?_))
          have HBs : Below w.heap.size w (w8.setRow gb #[.int .u8 x.f0, .string x.f1, .int .i64 x.f2, .string x.f3, .int .u8 x.f4, .slice A5 x.f5.length c5]) := below_setRow (below_step HB.out HB8.out) (by rw [GB.out]; exact HB.out.size) _
          have HI8 := builder_far (cs := #[.int .u8 x.f0, .string x.f1, .int .i64 x.f2, .string x.f3, .int .u8 x.f4, .slice A5 x.f5.length c5]) (builder_below HI.out HB8.out) BK.out
          clear hx0 hx1 hx2 hx3 hx4 hx5
          refine (source_line.calls k x.f0 x.f1 x.f2 x.f3 x.f4 A5 c5 x.f5 sl _ (Kd.C_below HC5.out HBs) HL5.out (HG.out.below HBs) HSL.out).mono ?_
          rintro e w9 ⟨rfl, hb9⟩
          have HI9 := builder_below HI8 hb9
          have B9 := Aside0.mk (below_step HBs hb9)
          clear hb9 HI8 HBs BK GB HB8 HB HI
          have m1 := eq_true (show sl.size + 1 ≤ 9223372036854775807 by omega)
          have m2 : decide (sl.size + 1 ≤ 9223372036854775807) = true := decide_eq_true (by omega)
          have m3 : (9223372036854775807 < sl.size + 1) = False := eq_false (by omega)
          have hW := writeString_calls w.heap.size gb0 _ (sl ++ ⟨#[10]⟩) w9 HI9 (by
            rw [Lib.byteCells_length, ByteArray.size_append]
            have := HA.out
            show acc.length + (sl.size + 1) ≤ _
            omega) B9.out.size
          have eb : Lib.byteCells acc ++ Lib.strCells (sl ++ ⟨#[10]⟩) = Lib.byteCells (acc ++ (sl.data.toList ++ [10])) := by
            rw [Lib.byteCells_append, Lib.strCells_eq, ByteArray.data_append]
            simp
          rw [eb] at hW
          have HW := Aside0.mk hW
          clear hW eb HI9
          obtain ⟨acc2, hacc2⟩ : ∃ acc2, acc2 = acc ++ (sl.data.toList ++ [10]) := ⟨_, rfl⟩
          rw [← hacc2] at HW HO1
          clear hacc2
          go_wp2_with fail
          refine HW.out.mono ?_
          rintro e w10 ⟨rfl, hI, hb10⟩
          have HI10 : Aside0 (Lib.IsBuilder 94 5 w.heap.size gb0 (Lib.byteCells acc2) w10) := ⟨.inr hI⟩
          have B10 := Aside0.mk (B9.out.trans hb10)
          clear hI hb10 HW B9 HA
          have hL := Tryd.Builder_Len w.heap.size gb0 _ w10 HI10.out
          rw [Lib.byteCells_length] at hL
          have HL := Aside0.mk hL
          clear hL
          by_cases ht : 65536 < acc2.length
          · have n1b : decide ((65536 : Int) < (acc2.length : Int)) = true := decide_eq_true (by omega)
            have n1c : decide (65536 < acc2.length) = true := decide_eq_true ht
            have hro : ro = none := by
              have := HO1.out
              rw [if_pos ht] at this
              exact (Option.some.inj this).symm
            subst hro
            have hrr := HRr.out
            cases hrr
            clear ht
            go_wp2_with fail
            refine HL.out.mono ?_
            rintro e w11 ⟨rfl, rfl⟩
            go_wp2_with fail
            go_ret2
            exact ⟨rfl, B10.out⟩
          · have n1b : decide ((65536 : Int) < (acc2.length : Int)) = false := decide_eq_false (by omega)
            have n1c : decide (65536 < acc2.length) = false := decide_eq_false ht
            have HO2 : Aside0 (outP k (l0.drop (i + 1)) acc2 = some ro) := ⟨by
              have := HO1.out
              rwa [if_neg ht] at this⟩
            have HT := Aside0.mk ht
            have HN := HR0.out.2.1
            have e64 : wrap64 ((i : Int) + 1) = ((i + 1 : Nat) : Int) := by
              unfold wrap64
              omega
            clear ht
            go_wp2_with fail
            refine HL.out.mono ?_
            rintro e w11 ⟨rfl, rfl⟩
            go_wp2_with fail
            go_roundg k1
            case measure => omega
            case rel =>
              refine ⟨i + 1, acc2, ?_, ⟨by have := HK.out; omega⟩, HO2, ⟨Nat.le_of_not_lt HT.out⟩, HI10, B10⟩
              first | rfl | (rw [← e64]) | (rw [e64]) | (simp [e64])
        · rw [if_neg hsz] at hO
          cases hO
  · rw [if_neg he] at h
    obtain ⟨rfl, rfl⟩ : (⟨#[]⟩ : ByteArray) = r1 ∧ e1 = r2 := by
      have := Option.some.inj h
      exact ⟨congrArg Prod.fst this, congrArg Prod.snd this⟩
    clear h
    have hb : (e1 != 0) = true := bne_iff_ne.2 he
    go_enter Tryd.func28, Tryd.ntmps28
    go_wp2_with fail
    refine (source_Check.calls k A0 c0 l0 _ _ _ HR0.out HC0.out HG.out hC.out).mono ?_
    rintro e w1 ⟨rfl, hb1⟩
    have HB1 := Aside0.mk hb1
    clear hb1
    go_wp2_with fail
    go_ret2
    exact ⟨rfl, HB1.out⟩
end Go.Proofs.YthnafgffanlnfaaDoor.PSrc
namespace Go.Proofs.YthnafgffanlnfaaDoor.PSrc
open Go.RowKit Go.Proofs.YthnafgffanlnfaaDoorW.PrintWords Go.Proofs.YthnafgffanlnfaaDoorW.PrintLast Go.Proofs.YthnafgffanlnfaaDoorW.PrintMore
attribute [local go_sem] max2_int min2_int max_two min_two max_three min_three max_four min_four   -- for this text's walks alone
set_option linter.unusedVariables false
set_option linter.unusedSimpArgs false
def stringslite_HasPrefix.f (a0 : ByteArray) (a1 : ByteArray) : Option (Bool) := if (a0.size : Int) ≥ (a1.size : Int) then (if 0 ≤ (a1.size : Int) then (if (a1.size : Int) ≤ (a0.size : Int) then (some ((a0.extract 0 ((a1.size : Int) : Int).toNat).toList == a1.toList)) else (none)) else (none)) else (some false)
set_option maxHeartbeats 8000000 in
set_option maxRecDepth 100000 in
theorem stringslite_HasPrefix.calls (a0 : ByteArray) (a1 : ByteArray) (r : Bool) (w : World) (h : stringslite_HasPrefix.f a0 a1 = some r) :
    Calls Tryd.prog 181 #[.string a0, .string a1] w fun e w' => e = .returned (.bool r) ∧ Drawn0 w w' := by
  have H : (if (a0.size : Int) ≥ (a1.size : Int) then (if 0 ≤ (a1.size : Int) then (if (a1.size : Int) ≤ (a0.size : Int) then (some ((a0.extract 0 ((a1.size : Int) : Int).toNat).toList == a1.toList)) else (none)) else (none)) else (some false)) = some r := h
  clear h
  by_cases c3 : (a0.size : Int) ≥ (a1.size : Int)
  · rw [if_pos c3] at H
    have c3b0 : decide ((a1.size : Int) ≤ (a0.size : Int)) = true := decide_eq_true c3
    have c3b1 : decide (a1.size ≤ a0.size) = true := decide_eq_true (Int.ofNat_le.mp c3)
    clear c3
    by_cases c4 : 0 ≤ (a1.size : Int)
    · rw [if_pos c4] at H
      have c4b0 := eq_true c4
      have c4b1 : decide (0 ≤ (a1.size : Int)) = true := decide_eq_true c4
      clear c4
      by_cases c5 : (a1.size : Int) ≤ (a0.size : Int)
      · rw [if_pos c5] at H
        have c5b0 := eq_true c5
        have c5b1 : decide ((a1.size : Int) ≤ (a0.size : Int)) = true := decide_eq_true c5
        clear c5
        obtain rfl := Option.some.inj H
        go_enter Tryd.func181, Tryd.ntmps181
        go_wp2
        go_ret
        exact ⟨by first | rfl | (simp; done) | (simp [*]; done), by repeat (first | exact Drawn0.refl _ | apply Drawn0.step)⟩
      · rw [if_neg c5] at H
        exact absurd H (by simp)
    · rw [if_neg c4] at H
      exact absurd H (by simp)
  · rw [if_neg c3] at H
    have c3b0 : decide ((a1.size : Int) ≤ (a0.size : Int)) = false := decide_eq_false c3
    have c3b1 : decide (a1.size ≤ a0.size) = false := decide_eq_false (fun h => c3 (Int.ofNat_le.mpr h))
    clear c3
    obtain rfl := Option.some.inj H
    go_enter Tryd.func181, Tryd.ntmps181
    go_wp2
    go_ret
    exact ⟨by first | rfl | (simp; done) | (simp [*]; done), by repeat (first | exact Drawn0.refl _ | apply Drawn0.step)⟩
end Go.Proofs.YthnafgffanlnfaaDoor.PSrc
namespace Go.Proofs.YthnafgffanlnfaaDoor.PSrc
open Go.RowKit Go.Proofs.YthnafgffanlnfaaDoorW.PrintWords Go.Proofs.YthnafgffanlnfaaDoorW.PrintLast Go.Proofs.YthnafgffanlnfaaDoorW.PrintMore
attribute [local go_sem] max2_int min2_int max_two min_two max_three min_three max_four min_four   -- for this text's walks alone
set_option linter.unusedVariables false
set_option linter.unusedSimpArgs false
def stringslite_TrimPrefix.f (a0 : ByteArray) (a1 : ByteArray) : Option (ByteArray) := (stringslite_HasPrefix.f a0 a1).bind fun t101 => (if t101 = true then (if 0 ≤ (a1.size : Int) then (if (a1.size : Int) ≤ (a0.size : Int) then (some (a0.extract ((a1.size : Int) : Int).toNat a0.size)) else (none)) else (none)) else (some a0))
set_option maxHeartbeats 8000000 in
set_option maxRecDepth 100000 in
theorem stringslite_TrimPrefix.calls (a0 : ByteArray) (a1 : ByteArray) (r : ByteArray) (w : World) (h : stringslite_TrimPrefix.f a0 a1 = some r) :
    Calls Tryd.prog 169 #[.string a0, .string a1] w fun e w' => e = .returned (.string r) ∧ Drawn0 w w' := by
  have H : ((stringslite_HasPrefix.f a0 a1).bind fun t101 => (if t101 = true then (if 0 ≤ (a1.size : Int) then (if (a1.size : Int) ≤ (a0.size : Int) then (some (a0.extract ((a1.size : Int) : Int).toNat a0.size)) else (none)) else (none)) else (some a0))) = some r := h
  clear h
  replace H := Option.bind_eq_some_iff.mp H
  obtain ⟨t101, A30, H⟩ := H
  replace H : (if t101 = true then (if 0 ≤ (a1.size : Int) then (if (a1.size : Int) ≤ (a0.size : Int) then (some (a0.extract ((a1.size : Int) : Int).toNat a0.size)) else (none)) else (none)) else (some a0)) = some r := H
  have A3 := Aside0.mk A30
  clear A30
  by_cases c4 : t101 = true
  · subst c4
    have H1 : (if 0 ≤ (a1.size : Int) then (if (a1.size : Int) ≤ (a0.size : Int) then (some (a0.extract ((a1.size : Int) : Int).toNat a0.size)) else (none)) else (none)) = some r := by rw [if_pos rfl] at H; exact H
    clear H
    have H := H1
    clear H1
    by_cases c5 : 0 ≤ (a1.size : Int)
    · rw [if_pos c5] at H
      have c5b0 := eq_true c5
      have c5b1 : decide (0 ≤ (a1.size : Int)) = true := decide_eq_true c5
      clear c5
      by_cases c6 : (a1.size : Int) ≤ (a0.size : Int)
      · rw [if_pos c6] at H
        have c6b0 := eq_true c6
        have c6b1 : decide ((a1.size : Int) ≤ (a0.size : Int)) = true := decide_eq_true c6
        clear c6
        obtain rfl := Option.some.inj H
        go_enter Tryd.func169, Tryd.ntmps169
        go_wp2_with (first | ((with_reducible refine gate_callee (f := 181) rfl ?_); refine goesL_ (some 7) rfl rfl Tryd.func181 (by kernel_rfl) rfl #[.string a0, .string a1] rfl (by (try simp only [List.map_toArray, List.map_cons, List.map_nil]); first | done | rfl | (simp only [List.length_drop, List.length_take]; rfl)) ?_; (with_reducible refine (stringslite_HasPrefix.calls a0 a1 true _ A3.out).mono ?_); rintro e w' ⟨rfl, ⟨nd, rfl⟩⟩; refine ⟨_, rfl, ?_⟩))
        go_ret
        exact ⟨by first | rfl | (simp; done) | (simp [*]; done), by repeat (first | exact Drawn0.refl _ | apply Drawn0.step)⟩
      · rw [if_neg c6] at H
        exact absurd H (by simp)
    · rw [if_neg c5] at H
      exact absurd H (by simp)
  · replace c4 := Bool.eq_false_iff.mpr c4
    subst c4
    have H1 : (some a0) = some r := by rw [if_neg (show ¬ (false = true) by decide)] at H; exact H
    clear H
    have H := H1
    clear H1
    obtain rfl := Option.some.inj H
    go_enter Tryd.func169, Tryd.ntmps169
    go_wp2_with (first | ((with_reducible refine gate_callee (f := 181) rfl ?_); refine goesL_ (some 7) rfl rfl Tryd.func181 (by kernel_rfl) rfl #[.string a0, .string a1] rfl (by (try simp only [List.map_toArray, List.map_cons, List.map_nil]); first | done | rfl | (simp only [List.length_drop, List.length_take]; rfl)) ?_; (with_reducible refine (stringslite_HasPrefix.calls a0 a1 false _ A3.out).mono ?_); rintro e w' ⟨rfl, ⟨nd, rfl⟩⟩; refine ⟨_, rfl, ?_⟩))
    go_ret
    exact ⟨by first | rfl | (simp; done) | (simp [*]; done), by repeat (first | exact Drawn0.refl _ | apply Drawn0.step)⟩
end Go.Proofs.YthnafgffanlnfaaDoor.PSrc
namespace Go.Proofs.YthnafgffanlnfaaDoor.PSrc
open Go.RowKit Go.Proofs.YthnafgffanlnfaaDoorW.PrintWords Go.Proofs.YthnafgffanlnfaaDoorW.PrintLast Go.Proofs.YthnafgffanlnfaaDoorW.PrintMore
attribute [local go_sem] max2_int min2_int max_two min_two max_three min_three max_four min_four   -- for this text's walks alone
set_option linter.unusedVariables false
set_option linter.unusedSimpArgs false
def strings_TrimPrefix.f (a0 : ByteArray) (a1 : ByteArray) : Option (ByteArray) := (stringslite_TrimPrefix.f a0 a1).bind fun t101 => (some t101)
set_option maxHeartbeats 8000000 in
set_option maxRecDepth 100000 in
theorem strings_TrimPrefix.calls (a0 : ByteArray) (a1 : ByteArray) (r : ByteArray) (w : World) (h : strings_TrimPrefix.f a0 a1 = some r) :
    Calls Tryd.prog 155 #[.string a0, .string a1] w fun e w' => e = .returned (.string r) ∧ Drawn0 w w' := by
  have H : ((stringslite_TrimPrefix.f a0 a1).bind fun t101 => (some t101)) = some r := h
  clear h
  replace H := Option.bind_eq_some_iff.mp H
  obtain ⟨t101, A30, H⟩ := H
  replace H : (some t101) = some r := H
  have A3 := Aside0.mk A30
  clear A30
  obtain rfl := Option.some.inj H
  go_enter Tryd.func155, Tryd.ntmps155
  go_wp2_with (first | ((with_reducible refine gate_callee (f := 169) rfl ?_); refine goesL_ (some 7) rfl rfl Tryd.func169 (by kernel_rfl) rfl #[.string a0, .string a1] rfl (by (try simp only [List.map_toArray, List.map_cons, List.map_nil]); first | done | rfl | (simp only [List.length_drop, List.length_take]; rfl)) ?_; (with_reducible refine (stringslite_TrimPrefix.calls a0 a1 t101 _ A3.out).mono ?_); rintro e w' ⟨rfl, ⟨nd, rfl⟩⟩; refine ⟨_, rfl, ?_⟩))
  go_ret
  exact ⟨by first | rfl | (simp; done) | (simp [*]; done), by repeat (first | exact Drawn0.refl _ | apply Drawn0.step)⟩
end Go.Proofs.YthnafgffanlnfaaDoor.PSrc
namespace Go.Proofs.YthnafgffanlnfaaDoor.PSrc
open Go.RowKit Go.Proofs.YthnafgffanlnfaaDoorW.PrintWords Go.Proofs.YthnafgffanlnfaaDoorW.PrintLast Go.Proofs.YthnafgffanlnfaaDoorW.PrintMore
set_option linter.unusedVariables false
set_option linter.unusedSimpArgs false
def spAt (l : List UInt8) : Nat := (before 32 l).length
def trimSp (l : List UInt8) : List UInt8 := match l with | 32 :: r => r | _ => l
def parseR (l : List UInt8) : ByteArray × Int × Int :=
  match firstN (l.take (spAt l)) with
  | none => (⟨#[]⟩, 0, 20)
  | some i =>
    match numN (trimSp (l.drop (spAt l))) with
    | some n => if (printR (l.take (spAt l)) n) = (mkB l, 0) then (mkB (l.take (spAt l)), n, 0) else (⟨#[]⟩, 0, 21)
    | none => if (printR (l.take (spAt l)) 0) = (mkB l, 0) then (mkB (l.take (spAt l)), 0, 0) else (⟨#[]⟩, 0, 21)
theorem trimPrefix_eq (s : ByteArray) : strings_TrimPrefix.f s ⟨#[32]⟩ = some (mkB (trimSp s.data.toList)) := by
  have h1 : (ByteArray.size ⟨#[32]⟩ : Int) = 1 := rfl
  simp only [strings_TrimPrefix.f, stringslite_TrimPrefix.f, stringslite_HasPrefix.f, h1]
  cases hl : s.data.toList with
  | nil =>
    have hz : s.size = 0 := by rw [size_list, hl]; rfl
    rw [if_neg (by omega)]
    simp only [Option.bind_some, Bool.false_eq_true, if_false]
    rw [← mkB_data s, hl]; rfl
  | cons c r =>
    have hz : s.size = r.length + 1 := by rw [size_list, hl]; rfl
    rw [if_pos (by omega), if_pos (by omega), if_pos (by omega)]
    simp only [Option.bind_some]
    have he : (s.extract 0 (Int.toNat 1)).data.toList = [c] := by
      rw [seg_data]; unfold seg; rw [hl]; rfl
    have ht : ((s.extract 0 (Int.toNat 1)).toList == (ByteArray.toList ⟨#[32]⟩)) = decide (c = 32) := by
      rw [ByteArray.toList_eq, ByteArray.toList_eq, he]
      show ([c] == [32]) = _
      by_cases hc : c = 32
      · subst hc; rfl
      · simp [hc]
    rw [ht]
    by_cases hc : c = 32
    · subst hc
      rw [if_pos (by decide), if_pos (by omega), if_pos (by omega)]
      show some (s.extract 1 s.size) = _
      congr 1
      rw [← mkB_data (s.extract 1 s.size), seg_data]
      unfold seg
      rw [List.take_of_length_le (by rw [size_list]; exact Nat.le_refl _), hl]
      rfl
    · rw [if_neg (by simpa using hc)]
      simp only [Option.bind_some]
      congr 1
      rw [← mkB_data s, hl]
      congr 1
      unfold trimSp
      split
      · rename_i h; cases h; exact absurd rfl hc
      · rfl
theorem extract_take (s : ByteArray) (k : Nat) : s.extract 0 k = mkB (s.data.toList.take k) := by
  rw [← mkB_data (s.extract 0 k), seg_data]; rfl
theorem extract_drop (s : ByteArray) (k : Nat) : s.extract k s.size = mkB (s.data.toList.drop k) := by
  rw [← mkB_data (s.extract k s.size), seg_data]; unfold seg
  rw [List.take_of_length_le (by rw [size_list]; exact Nat.le_refl _)]
theorem spAt_le (l : List UInt8) : spAt l ≤ l.length := by
  unfold spAt before
  have h2 : (l.takeWhile (· != 32)).length + (l.dropWhile (· != 32)).length = l.length := by
    rw [← List.length_append, List.takeWhile_append_dropWhile]
  omega
def Sp (s : ByteArray) (k : Nat) : Prop := (before 32 (s.data.toList.drop k)).length + k = spAt s.data.toList
theorem Sp_zero (s : ByteArray) : Sp s 0 := rfl
theorem Sp_step {s : ByteArray} {k : Nat} (h : Sp s k) (hk : k < s.size) (hc : ((s[k]'hk).toNat : Int) ≠ 32) : Sp s (k + 1) := by
  unfold Sp at h ⊢
  rw [drop_cons_ba s k hk] at h
  have hc' : (s[k]'hk != 32) = true := by
    rw [bne_iff_ne]; intro e; apply hc; rw [e]; rfl
  unfold before at h ⊢
  rw [List.takeWhile_cons, hc', if_pos rfl, List.length_cons] at h
  omega
theorem Sp_hit {s : ByteArray} {k : Nat} (h : Sp s k) (hk : k < s.size) (hc : ((s[k]'hk).toNat : Int) = 32) : k = spAt s.data.toList := by
  unfold Sp at h
  rw [drop_cons_ba s k hk] at h
  have hc' : (s[k]'hk != 32) = false := by
    rw [bne_eq_false_iff_eq]
    apply UInt8.toNat_inj.1
    have : (32 : UInt8).toNat = 32 := rfl
    omega
  unfold before at h
  rw [List.takeWhile_cons, hc', if_neg (by decide)] at h
  simpa using h
theorem Sp_end {s : ByteArray} {k : Nat} (h : Sp s k) (hk : ¬ k < s.size) (hk2 : k ≤ s.size) : k = spAt s.data.toList := by
  unfold Sp at h
  rw [List.drop_of_length_le (by rw [size_list] at hk; omega)] at h
  simpa [before] using h
def ParsePost (s : ByteArray) (w : World) (e : Ending) (w' : World) : Prop :=
  e = .returned (.tuple #[.agg #[.string (parseR s.data.toList).1, .int .i64 (parseR s.data.toList).2.1], .int .i64 (parseR s.data.toList).2.2]) ∧ Below w.heap.size w w'
set_option maxRecDepth 100000 in
set_option maxHeartbeats 4000000 in
theorem parse_calls (s : ByteArray) (w : World) (hs : s.size ≤ 140737488351232) (HG0 : Gd w) :
    Calls Tryd.prog 121 #[.string s] w (ParsePost s w) := by
  have HG := Aside0.mk HG0
  clear HG0
  go_enter Tryd.func121, Tryd.ntmps121
  go_wp2_with fail
  go_step3
  go_wp2_with fail
  go_step3
  go_wp2_with fail
  go_loop [4, 17] (fun a i => ∃ k : Nat, k ≤ s.size ∧ a = .int .i64 s.size ∧ i = .int .i64 k ∧ Aside0 (Sp s k)) (fun _ i => s.size - (intOf i).toNat)
  case atStart => exact ⟨0, Nat.zero_le _, rfl, rfl, ⟨Sp_zero s⟩⟩
  case round =>
    obtain ⟨k, hk, rfl, rfl, HS⟩ := hrel
    by_cases hlt : k < s.size
    · by_cases hc : ((s[k]'hlt).toNat : Int) = 32
      · go_wp2_with fail
        have HX : Aside0 (spAt s.data.toList = k) := ⟨(Sp_hit HS.out hlt hc).symm⟩
        clear hc HS
        have hd : (s.extract 0 k).data.toList = s.data.toList.take (spAt s.data.toList) := by rw [HX.out, extract_take]; rfl
        have hF := find_ev (s.extract 0 k)
        rw [hd] at hF
        cases hf : firstN (s.data.toList.take (spAt s.data.toList)) with
        | none =>
          rw [hf] at hF
          replace hF : Ev (fun q_ => code_Find.f q_ (s.extract 0 k)) ((⟨#[]⟩ : ByteArray), 0, 0, 0, false) := hF
          obtain ⟨K1, h1⟩ := hF.rounds
          have H1 := Aside0.mk h1
          have HP : Aside0 (parseR s.data.toList = (⟨#[]⟩, 0, 20)) := ⟨by unfold parseR; rw [hf]⟩
          clear h1 hF hd hf
          refine (code_Find.calls K1 _ _ _ _ _ _ _ ?sg H1.out).mono ?_
          case sg => exact HG.out.gl.below (below_alloc (below_alloc (Below.refl _ w) _) _)
          rintro e w1 ⟨rfl, hb1⟩
          have HB1 : Aside0 (Below w.heap.size w w1) := ⟨below_step (below_alloc (below_alloc (Below.refl _ w) _) _) hb1⟩
          have B2 : Aside0 (w1.heap[w.heap.size]? = some (.cells #[.string ⟨#[]⟩, .int .i64 0] 132 (0, 0))) := ⟨blk_below (blk_alloc (blk_new w _) _) hb1⟩
          clear hb1
          have c20 := (blk_cell B2.out 0).trans rfl
          have c21 := (blk_cell B2.out 1).trans rfl
          have f20 := blk_frozen B2.out 0
          have f21 := blk_frozen B2.out 1
          have l2 := blk_lt B2.out
          go_wp2_with fail
          rw [Exit.noGoto_ret]
          refine bodyPost_ret (results_ct rfl _ _ w.heap.size 132 #[.string (⟨#[]⟩ : ByteArray), .int .i64 0] (0, 0) _ rfl (by (with_reducible repeat (first | refine blk_drewN ?_ _ | refine blk_drew ?_ | refine blk_alloc ?_ _)); refine blk_put (cs := #[.string (⟨#[]⟩ : ByteArray), .int .i64 0]) ?_ 1 _ rfl; (with_reducible repeat (first | refine blk_drewN ?_ _ | refine blk_drew ?_ | refine blk_alloc ?_ _)); refine blk_put (cs := #[.string (⟨#[]⟩ : ByteArray), .int .i64 0]) ?_ 0 _ rfl; (with_reducible repeat (first | refine blk_drewN ?_ _ | refine blk_drew ?_ | refine blk_alloc ?_ _)); exact B2.out) Tryd.underlying132 rfl (by kernel_rfl)) rfl ?_
          unfold ParsePost
          rw [HP.out]
          refine ⟨rfl, ?_⟩
          repeat (first | exact HB1.out | apply below_alloc | refine below_set ?_ (Nat.le_refl _))
        | some i =>
          rw [hf] at hF
          replace hF : Ev (fun q_ => code_Find.f q_ (s.extract 0 k)) (mkB (opName i), opForm i, opBytes i, opCycles i, true) := hF
          obtain ⟨K1, h1⟩ := hF.rounds
          have H1 := Aside0.mk h1
          have HF := Aside0.mk hf
          have HD := Aside0.mk hd
          clear h1 hF hd hf
          refine (code_Find.calls K1 _ _ _ _ _ _ _ ?sg H1.out).mono ?_
          case sg => exact HG.out.gl.below (below_alloc (below_alloc (Below.refl _ w) _) _)
          rintro e w1 ⟨rfl, hb1⟩
          have HB1 : Aside0 (Below w.heap.size w w1) := ⟨below_step (below_alloc (below_alloc (Below.refl _ w) _) _) hb1⟩
          have B2 : Aside0 (w1.heap[w.heap.size]? = some (.cells #[.string ⟨#[]⟩, .int .i64 0] 132 (0, 0))) := ⟨blk_below (blk_alloc (blk_new w _) _) hb1⟩
          have B6 : Aside0 (w1.heap[w.heap.size + 1]? = some (.cells #[.string (s.extract 0 k), .int .i64 0] 132 (0, 0))) := ⟨blk_below (by have := blk_new (w.alloc (.cells #[.string ⟨#[]⟩, .int .i64 0] 132)) (.cells #[.string (s.extract 0 k), .int .i64 0] 132); rw [World.size_alloc] at this; exact this) hb1⟩
          clear hb1
          generalize opForm i = qf
          generalize opBytes i = qb
          generalize opCycles i = qc
          generalize mkB (opName i) = qn
          have l2 := blk_lt B2.out
          have l6 := blk_lt B6.out
          go_wp2_with fail
          obtain ⟨tr, htr⟩ : ∃ tr, tr = mkB (trimSp (s.data.toList.drop (spAt s.data.toList))) := ⟨_, rfl⟩
          have hT : strings_TrimPrefix.f (s.extract k s.size) ⟨#[32]⟩ = some tr := by rw [trimPrefix_eq, htr]; rw [extract_drop, HX.out]; rfl
          have HT := Aside0.mk hT
          have HTR := Aside0.mk htr
          clear hT htr
          refine (strings_TrimPrefix.calls _ _ _ _ HT.out).mono ?_
          rintro e w2 ⟨rfl, ⟨nd, rfl⟩⟩
          go_wp2_with fail
          refine (number_calls _ _).mono ?_
          rintro e w3 ⟨he, hb3⟩
          rw [show numN tr.data.toList = numN (trimSp (s.data.toList.drop (spAt s.data.toList))) by rw [HTR.out]; rfl] at he
          have hbX := below_step (pw_below_drewN (below_alloc (Below.refl _ w1) (.cells #[.string qn, .int .u8 qf, .int .i64 qb, .int .i64 qc] 114)) nd) hb3
          have n1 : Aside0 (Below w.heap.size w w3) := ⟨below_step HB1.out hbX⟩
          have n2 : Aside0 (w3.heap[w.heap.size]? = some (.cells #[.string ⟨#[]⟩, .int .i64 0] 132 (0, 0))) := ⟨blk_below B2.out hbX⟩
          have n3 : Aside0 (w3.heap[w.heap.size + 1]? = some (.cells #[.string (s.extract 0 k), .int .i64 0] 132 (0, 0))) := ⟨blk_below B6.out hbX⟩
          clear hb3 hbX HB1 B2 B6 l2 l6
          have l2 := blk_lt n2.out
          have l6 := blk_lt n3.out
          have c20 := (blk_cell n2.out 0).trans rfl
          have c21 := (blk_cell n2.out 1).trans rfl
          have f20 := blk_frozen n2.out 0
          have f21 := blk_frozen n2.out 1
          have c60 := (blk_cell n3.out 0).trans rfl
          have c61 := (blk_cell n3.out 1).trans rfl
          have f60 := blk_frozen n3.out 0
          have f61 := blk_frozen n3.out 1
          cases hN : numN (trimSp (s.data.toList.drop (spAt s.data.toList))) with
          | some n =>
            rw [hN] at he
            subst he
            have HN := Aside0.mk hN
            clear hN
            simp only [numRes]
            go_wp2_with fail
            have hP := print_ev (s.extract 0 k) (n : Int)
            rw [HD.out] at hP
            obtain ⟨pp, hpp⟩ : ∃ pp, pp = printR (s.data.toList.take (spAt s.data.toList)) (n : Int) := ⟨_, rfl⟩
            rw [← hpp] at hP
            obtain ⟨p1, p2⟩ := pp
            obtain ⟨K2, h2⟩ := hP.rounds
            have H2 := Aside0.mk h2
            have HPP := Aside0.mk hpp
            clear h2 hpp hP c20 c21 f20 f21 c60 c61 f60 f61
            have m1 : Aside0 (Below w.heap.size w (w3.setCell ⟨w.heap.size + 1, 1, none⟩ (.int .i64 (n : Int)))) := ⟨below_set n1.out (by simp)⟩
            have m2 : Aside0 ((w3.setCell ⟨w.heap.size + 1, 1, none⟩ (.int .i64 (n : Int))).heap[w.heap.size]? = some (.cells #[.string ⟨#[]⟩, .int .i64 0] 132 (0, 0))) := ⟨blk_far n2.out (by simp) _⟩
            have m3 : Aside0 ((w3.setCell ⟨w.heap.size + 1, 1, none⟩ (.int .i64 (n : Int))).heap[w.heap.size + 1]? = some (.cells #[.string (s.extract 0 k), .int .i64 (n : Int)] 132 (0, 0))) := ⟨blk_put n3.out 1 _ rfl⟩
            refine (code_Print.calls K2 _ _ _ _ _ ?sg H2.out).mono ?_
            case sg => exact HG.out.below m1.out
            rintro e w4 ⟨rfl, hb4⟩
            have o1 : Aside0 (Below w.heap.size w w4) := ⟨below_step m1.out hb4⟩
            have o2 : Aside0 (w4.heap[w.heap.size]? = some (.cells #[.string ⟨#[]⟩, .int .i64 0] 132 (0, 0))) := ⟨blk_below m2.out hb4⟩
            have o3 : Aside0 (w4.heap[w.heap.size + 1]? = some (.cells #[.string (s.extract 0 k), .int .i64 (n : Int)] 132 (0, 0))) := ⟨blk_below m3.out hb4⟩
            clear hb4 m1 m2 m3 n1 n2 n3 l2 l6
            have l2 := blk_lt o2.out
            have l6 := blk_lt o3.out
            have c20 := (blk_cell o2.out 0).trans rfl
            have c21 := (blk_cell o2.out 1).trans rfl
            have f20 := blk_frozen o2.out 0
            have f21 := blk_frozen o2.out 1
            have c60 := (blk_cell o3.out 0).trans rfl
            have c61 := (blk_cell o3.out 1).trans rfl
            have f60 := blk_frozen o3.out 0
            have f61 := blk_frozen o3.out 1
            by_cases hz : p2 = 0
            · subst hz
              by_cases hs1 : s = p1
              · subst hs1
                have hPR : Aside0 (parseR s.data.toList = ((s.extract 0 k), (n : Int), 0)) := ⟨by
                  have e1 : mkB (s.data.toList.take (spAt s.data.toList)) = (s.extract 0 k) := by rw [← HD.out, mkB_data]
                  unfold parseR
                  rw [HF.out, HN.out]
                  show (if (printR _ (n : Int)) = (mkB s.data.toList, 0) then (mkB (s.data.toList.take (spAt s.data.toList)), (n : Int), (0 : Int)) else _) = _
                  rw [← HPP.out, mkB_data, if_pos rfl, e1]⟩
                go_wp2_with fail
                rw [Exit.noGoto_ret]
                refine bodyPost_ret (results_ct rfl _ _ w.heap.size 132 #[.string (s.extract 0 k), .int .i64 (n : Int)] (0, 0) _ rfl (by (with_reducible repeat (first | refine blk_drewN ?_ _ | refine blk_drew ?_ | refine blk_alloc ?_ _)); refine blk_put (cs := #[.string (s.extract 0 k), .int .i64 0]) ?_ 1 _ rfl; (with_reducible repeat (first | refine blk_drewN ?_ _ | refine blk_drew ?_ | refine blk_alloc ?_ _)); refine blk_put (cs := #[.string (⟨#[]⟩ : ByteArray), .int .i64 0]) ?_ 0 _ rfl; (with_reducible repeat (first | refine blk_drewN ?_ _ | refine blk_drew ?_ | refine blk_alloc ?_ _)); exact o2.out) Tryd.underlying132 rfl (by kernel_rfl)) rfl ?_
                unfold ParsePost
                rw [hPR.out]
                refine ⟨rfl, ?_⟩
                repeat (first | exact o1.out | apply below_alloc | refine below_set ?_ (Nat.le_refl _))
              · have hPR : Aside0 (parseR s.data.toList = (⟨#[]⟩, 0, 21)) := ⟨by
                  unfold parseR
                  rw [HF.out, HN.out]
                  show (if (printR _ (n : Int)) = (mkB s.data.toList, 0) then (mkB (s.data.toList.take (spAt s.data.toList)), (n : Int), (0 : Int)) else _) = _
                  rw [← HPP.out, mkB_data, if_neg (by intro h; apply hs1; exact (Prod.mk.inj h).1.symm)]⟩
                have q1 : (p1.toList == s.toList) = false := by
                  rw [beq_eq_false_iff_ne, ne_eq, toList_iff]; intro h; apply hs1; rw [← mkB_data s, ← h, mkB_data]
                clear hs1
                go_wp2_with fail
                rw [Exit.noGoto_ret]
                refine bodyPost_ret (results_ct rfl _ _ w.heap.size 132 #[.string (⟨#[]⟩ : ByteArray), .int .i64 0] (0, 0) _ rfl (by (with_reducible repeat (first | refine blk_drewN ?_ _ | refine blk_drew ?_ | refine blk_alloc ?_ _)); refine blk_put (cs := #[.string (⟨#[]⟩ : ByteArray), .int .i64 0]) ?_ 1 _ rfl; (with_reducible repeat (first | refine blk_drewN ?_ _ | refine blk_drew ?_ | refine blk_alloc ?_ _)); refine blk_put (cs := #[.string (⟨#[]⟩ : ByteArray), .int .i64 0]) ?_ 0 _ rfl; (with_reducible repeat (first | refine blk_drewN ?_ _ | refine blk_drew ?_ | refine blk_alloc ?_ _)); exact o2.out) Tryd.underlying132 rfl (by kernel_rfl)) rfl ?_
                unfold ParsePost
                rw [hPR.out]
                refine ⟨rfl, ?_⟩
                repeat (first | exact o1.out | apply below_alloc | refine below_set ?_ (Nat.le_refl _))
            · have hPR : Aside0 (parseR s.data.toList = (⟨#[]⟩, 0, 21)) := ⟨by
                unfold parseR
                rw [HF.out, HN.out]
                show (if (printR _ (n : Int)) = (mkB s.data.toList, 0) then (mkB (s.data.toList.take (spAt s.data.toList)), (n : Int), (0 : Int)) else _) = _
                rw [← HPP.out, if_neg (by intro h; exact hz (Prod.mk.inj h).2)]⟩
              have q1 : (p2 == 0) = false := by simpa using hz
              have q2 : (p2 != 0) = true := by simpa using hz
              go_wp2_with fail
              rw [Exit.noGoto_ret]
              refine bodyPost_ret (results_ct rfl _ _ w.heap.size 132 #[.string (⟨#[]⟩ : ByteArray), .int .i64 0] (0, 0) _ rfl (by (with_reducible repeat (first | refine blk_drewN ?_ _ | refine blk_drew ?_ | refine blk_alloc ?_ _)); refine blk_put (cs := #[.string (⟨#[]⟩ : ByteArray), .int .i64 0]) ?_ 1 _ rfl; (with_reducible repeat (first | refine blk_drewN ?_ _ | refine blk_drew ?_ | refine blk_alloc ?_ _)); refine blk_put (cs := #[.string (⟨#[]⟩ : ByteArray), .int .i64 0]) ?_ 0 _ rfl; (with_reducible repeat (first | refine blk_drewN ?_ _ | refine blk_drew ?_ | refine blk_alloc ?_ _)); exact o2.out) Tryd.underlying132 rfl (by kernel_rfl)) rfl ?_
              unfold ParsePost
              rw [hPR.out]
              refine ⟨rfl, ?_⟩
              repeat (first | exact o1.out | apply below_alloc | refine below_set ?_ (Nat.le_refl _))
          | none =>
            rw [hN] at he
            subst he
            have HN := Aside0.mk hN
            clear hN
            simp only [numRes]
            go_wp2_with fail
            have hP := print_ev (s.extract 0 k) 0
            rw [HD.out] at hP
            obtain ⟨pp, hpp⟩ : ∃ pp, pp = printR (s.data.toList.take (spAt s.data.toList)) 0 := ⟨_, rfl⟩
            rw [← hpp] at hP
            obtain ⟨p1, p2⟩ := pp
            obtain ⟨K2, h2⟩ := hP.rounds
            have H2 := Aside0.mk h2
            have HPP := Aside0.mk hpp
            clear h2 hpp hP c20 c21 f20 f21 c60 c61 f60 f61
            have m1 : Aside0 (Below w.heap.size w w3) := ⟨n1.out⟩
            have m2 : Aside0 (w3.heap[w.heap.size]? = some (.cells #[.string ⟨#[]⟩, .int .i64 0] 132 (0, 0))) := ⟨n2.out⟩
            have m3 : Aside0 (w3.heap[w.heap.size + 1]? = some (.cells #[.string (s.extract 0 k), .int .i64 0] 132 (0, 0))) := ⟨n3.out⟩
            refine (code_Print.calls K2 _ _ _ _ _ ?sg H2.out).mono ?_
            case sg => exact HG.out.below m1.out
            rintro e w4 ⟨rfl, hb4⟩
            have o1 : Aside0 (Below w.heap.size w w4) := ⟨below_step m1.out hb4⟩
            have o2 : Aside0 (w4.heap[w.heap.size]? = some (.cells #[.string ⟨#[]⟩, .int .i64 0] 132 (0, 0))) := ⟨blk_below m2.out hb4⟩
            have o3 : Aside0 (w4.heap[w.heap.size + 1]? = some (.cells #[.string (s.extract 0 k), .int .i64 0] 132 (0, 0))) := ⟨blk_below m3.out hb4⟩
            clear hb4 m1 m2 m3 n1 n2 n3 l2 l6
            have l2 := blk_lt o2.out
            have l6 := blk_lt o3.out
            have c20 := (blk_cell o2.out 0).trans rfl
            have c21 := (blk_cell o2.out 1).trans rfl
            have f20 := blk_frozen o2.out 0
            have f21 := blk_frozen o2.out 1
            have c60 := (blk_cell o3.out 0).trans rfl
            have c61 := (blk_cell o3.out 1).trans rfl
            have f60 := blk_frozen o3.out 0
            have f61 := blk_frozen o3.out 1
            by_cases hz : p2 = 0
            · subst hz
              by_cases hs1 : s = p1
              · subst hs1
                have hPR : Aside0 (parseR s.data.toList = ((s.extract 0 k), 0, 0)) := ⟨by
                  have e1 : mkB (s.data.toList.take (spAt s.data.toList)) = (s.extract 0 k) := by rw [← HD.out, mkB_data]
                  unfold parseR
                  rw [HF.out, HN.out]
                  show (if (printR _ 0) = (mkB s.data.toList, 0) then (mkB (s.data.toList.take (spAt s.data.toList)), 0, (0 : Int)) else _) = _
                  rw [← HPP.out, mkB_data, if_pos rfl, e1]⟩
                go_wp2_with fail
                rw [Exit.noGoto_ret]
                refine bodyPost_ret (results_ct rfl _ _ w.heap.size 132 #[.string (s.extract 0 k), .int .i64 0] (0, 0) _ rfl (by (with_reducible repeat (first | refine blk_drewN ?_ _ | refine blk_drew ?_ | refine blk_alloc ?_ _)); refine blk_put (cs := #[.string (s.extract 0 k), .int .i64 0]) ?_ 1 _ rfl; (with_reducible repeat (first | refine blk_drewN ?_ _ | refine blk_drew ?_ | refine blk_alloc ?_ _)); refine blk_put (cs := #[.string (⟨#[]⟩ : ByteArray), .int .i64 0]) ?_ 0 _ rfl; (with_reducible repeat (first | refine blk_drewN ?_ _ | refine blk_drew ?_ | refine blk_alloc ?_ _)); exact o2.out) Tryd.underlying132 rfl (by kernel_rfl)) rfl ?_
                unfold ParsePost
                rw [hPR.out]
                refine ⟨rfl, ?_⟩
                repeat (first | exact o1.out | apply below_alloc | refine below_set ?_ (Nat.le_refl _))
              · have hPR : Aside0 (parseR s.data.toList = (⟨#[]⟩, 0, 21)) := ⟨by
                  unfold parseR
                  rw [HF.out, HN.out]
                  show (if (printR _ 0) = (mkB s.data.toList, 0) then (mkB (s.data.toList.take (spAt s.data.toList)), 0, (0 : Int)) else _) = _
                  rw [← HPP.out, mkB_data, if_neg (by intro h; apply hs1; exact (Prod.mk.inj h).1.symm)]⟩
                have q1 : (p1.toList == s.toList) = false := by
                  rw [beq_eq_false_iff_ne, ne_eq, toList_iff]; intro h; apply hs1; rw [← mkB_data s, ← h, mkB_data]
                clear hs1
                go_wp2_with fail
                rw [Exit.noGoto_ret]
                refine bodyPost_ret (results_ct rfl _ _ w.heap.size 132 #[.string (⟨#[]⟩ : ByteArray), .int .i64 0] (0, 0) _ rfl (by (with_reducible repeat (first | refine blk_drewN ?_ _ | refine blk_drew ?_ | refine blk_alloc ?_ _)); refine blk_put (cs := #[.string (⟨#[]⟩ : ByteArray), .int .i64 0]) ?_ 1 _ rfl; (with_reducible repeat (first | refine blk_drewN ?_ _ | refine blk_drew ?_ | refine blk_alloc ?_ _)); refine blk_put (cs := #[.string (⟨#[]⟩ : ByteArray), .int .i64 0]) ?_ 0 _ rfl; (with_reducible repeat (first | refine blk_drewN ?_ _ | refine blk_drew ?_ | refine blk_alloc ?_ _)); exact o2.out) Tryd.underlying132 rfl (by kernel_rfl)) rfl ?_
                unfold ParsePost
                rw [hPR.out]
                refine ⟨rfl, ?_⟩
                repeat (first | exact o1.out | apply below_alloc | refine below_set ?_ (Nat.le_refl _))
            · have hPR : Aside0 (parseR s.data.toList = (⟨#[]⟩, 0, 21)) := ⟨by
                unfold parseR
                rw [HF.out, HN.out]
                show (if (printR _ 0) = (mkB s.data.toList, 0) then (mkB (s.data.toList.take (spAt s.data.toList)), 0, (0 : Int)) else _) = _
                rw [← HPP.out, if_neg (by intro h; exact hz (Prod.mk.inj h).2)]⟩
              have q1 : (p2 == 0) = false := by simpa using hz
              have q2 : (p2 != 0) = true := by simpa using hz
              go_wp2_with fail
              rw [Exit.noGoto_ret]
              refine bodyPost_ret (results_ct rfl _ _ w.heap.size 132 #[.string (⟨#[]⟩ : ByteArray), .int .i64 0] (0, 0) _ rfl (by (with_reducible repeat (first | refine blk_drewN ?_ _ | refine blk_drew ?_ | refine blk_alloc ?_ _)); refine blk_put (cs := #[.string (⟨#[]⟩ : ByteArray), .int .i64 0]) ?_ 1 _ rfl; (with_reducible repeat (first | refine blk_drewN ?_ _ | refine blk_drew ?_ | refine blk_alloc ?_ _)); refine blk_put (cs := #[.string (⟨#[]⟩ : ByteArray), .int .i64 0]) ?_ 0 _ rfl; (with_reducible repeat (first | refine blk_drewN ?_ _ | refine blk_drew ?_ | refine blk_alloc ?_ _)); exact o2.out) Tryd.underlying132 rfl (by kernel_rfl)) rfl ?_
              unfold ParsePost
              rw [hPR.out]
              refine ⟨rfl, ?_⟩
              repeat (first | exact o1.out | apply below_alloc | refine below_set ?_ (Nat.le_refl _))
      · go_wp2_with fail
        go_round
        case rel => exact ⟨k + 1, by omega, rfl, by go_num, ⟨Sp_step HS.out hlt hc⟩⟩
        case measure => simp [intOf]; omega
    · obtain rfl : k = s.size := by omega
      have HX : Aside0 (spAt s.data.toList = s.size) := ⟨(Sp_end HS.out hlt hk).symm⟩
      clear HS
      go_wp2_with fail
      have hd : s.data.toList = s.data.toList.take (spAt s.data.toList) := by rw [HX.out, size_list, List.take_length]
      have hF := find_ev s
      rw [hd] at hF
      cases hf : firstN (s.data.toList.take (spAt s.data.toList)) with
      | none =>
        rw [hf] at hF
        replace hF : Ev (fun q_ => code_Find.f q_ s) ((⟨#[]⟩ : ByteArray), 0, 0, 0, false) := hF
        obtain ⟨K1, h1⟩ := hF.rounds
        have H1 := Aside0.mk h1
        have HP : Aside0 (parseR s.data.toList = (⟨#[]⟩, 0, 20)) := ⟨by unfold parseR; rw [hf]⟩
        clear h1 hF hd hf
        refine (code_Find.calls K1 _ _ _ _ _ _ _ ?sg H1.out).mono ?_
        case sg => exact HG.out.gl.below (below_alloc (below_alloc (Below.refl _ w) _) _)
        rintro e w1 ⟨rfl, hb1⟩
        have HB1 : Aside0 (Below w.heap.size w w1) := ⟨below_step (below_alloc (below_alloc (Below.refl _ w) _) _) hb1⟩
        have B2 : Aside0 (w1.heap[w.heap.size]? = some (.cells #[.string ⟨#[]⟩, .int .i64 0] 132 (0, 0))) := ⟨blk_below (blk_alloc (blk_new w _) _) hb1⟩
        clear hb1
        have c20 := (blk_cell B2.out 0).trans rfl
        have c21 := (blk_cell B2.out 1).trans rfl
        have f20 := blk_frozen B2.out 0
        have f21 := blk_frozen B2.out 1
        have l2 := blk_lt B2.out
        go_wp2_with fail
        rw [Exit.noGoto_ret]
        refine bodyPost_ret (results_ct rfl _ _ w.heap.size 132 #[.string (⟨#[]⟩ : ByteArray), .int .i64 0] (0, 0) _ rfl (by (with_reducible repeat (first | refine blk_drewN ?_ _ | refine blk_drew ?_ | refine blk_alloc ?_ _)); refine blk_put (cs := #[.string (⟨#[]⟩ : ByteArray), .int .i64 0]) ?_ 1 _ rfl; (with_reducible repeat (first | refine blk_drewN ?_ _ | refine blk_drew ?_ | refine blk_alloc ?_ _)); refine blk_put (cs := #[.string (⟨#[]⟩ : ByteArray), .int .i64 0]) ?_ 0 _ rfl; (with_reducible repeat (first | refine blk_drewN ?_ _ | refine blk_drew ?_ | refine blk_alloc ?_ _)); exact B2.out) Tryd.underlying132 rfl (by kernel_rfl)) rfl ?_
        unfold ParsePost
        rw [HP.out]
        refine ⟨rfl, ?_⟩
        repeat (first | exact HB1.out | apply below_alloc | refine below_set ?_ (Nat.le_refl _))
      | some i =>
        rw [hf] at hF
        replace hF : Ev (fun q_ => code_Find.f q_ s) (mkB (opName i), opForm i, opBytes i, opCycles i, true) := hF
        obtain ⟨K1, h1⟩ := hF.rounds
        have H1 := Aside0.mk h1
        have HF := Aside0.mk hf
        have HD := Aside0.mk hd
        clear h1 hF hd hf
        refine (code_Find.calls K1 _ _ _ _ _ _ _ ?sg H1.out).mono ?_
        case sg => exact HG.out.gl.below (below_alloc (below_alloc (Below.refl _ w) _) _)
        rintro e w1 ⟨rfl, hb1⟩
        have HB1 : Aside0 (Below w.heap.size w w1) := ⟨below_step (below_alloc (below_alloc (Below.refl _ w) _) _) hb1⟩
        have B2 : Aside0 (w1.heap[w.heap.size]? = some (.cells #[.string ⟨#[]⟩, .int .i64 0] 132 (0, 0))) := ⟨blk_below (blk_alloc (blk_new w _) _) hb1⟩
        have B6 : Aside0 (w1.heap[w.heap.size + 1]? = some (.cells #[.string s, .int .i64 0] 132 (0, 0))) := ⟨blk_below (by have := blk_new (w.alloc (.cells #[.string ⟨#[]⟩, .int .i64 0] 132)) (.cells #[.string s, .int .i64 0] 132); rw [World.size_alloc] at this; exact this) hb1⟩
        clear hb1
        generalize opForm i = qf
        generalize opBytes i = qb
        generalize opCycles i = qc
        generalize mkB (opName i) = qn
        have l2 := blk_lt B2.out
        have l6 := blk_lt B6.out
        go_wp2_with fail
        obtain ⟨tr, htr⟩ : ∃ tr, tr = mkB (trimSp (s.data.toList.drop (spAt s.data.toList))) := ⟨_, rfl⟩
        have hT : strings_TrimPrefix.f ByteArray.empty ⟨#[32]⟩ = some tr := by rw [trimPrefix_eq, htr]; rw [HX.out, List.drop_of_length_le (by rw [size_list]; exact Nat.le_refl _)]; rfl
        have HT := Aside0.mk hT
        have HTR := Aside0.mk htr
        clear hT htr
        refine (strings_TrimPrefix.calls _ _ _ _ HT.out).mono ?_
        rintro e w2 ⟨rfl, ⟨nd, rfl⟩⟩
        go_wp2_with fail
        refine (number_calls _ _).mono ?_
        rintro e w3 ⟨he, hb3⟩
        rw [show numN tr.data.toList = numN (trimSp (s.data.toList.drop (spAt s.data.toList))) by rw [HTR.out]; rfl] at he
        have hbX := below_step (pw_below_drewN (below_alloc (Below.refl _ w1) (.cells #[.string qn, .int .u8 qf, .int .i64 qb, .int .i64 qc] 114)) nd) hb3
        have n1 : Aside0 (Below w.heap.size w w3) := ⟨below_step HB1.out hbX⟩
        have n2 : Aside0 (w3.heap[w.heap.size]? = some (.cells #[.string ⟨#[]⟩, .int .i64 0] 132 (0, 0))) := ⟨blk_below B2.out hbX⟩
        have n3 : Aside0 (w3.heap[w.heap.size + 1]? = some (.cells #[.string s, .int .i64 0] 132 (0, 0))) := ⟨blk_below B6.out hbX⟩
        clear hb3 hbX HB1 B2 B6 l2 l6
        have l2 := blk_lt n2.out
        have l6 := blk_lt n3.out
        have c20 := (blk_cell n2.out 0).trans rfl
        have c21 := (blk_cell n2.out 1).trans rfl
        have f20 := blk_frozen n2.out 0
        have f21 := blk_frozen n2.out 1
        have c60 := (blk_cell n3.out 0).trans rfl
        have c61 := (blk_cell n3.out 1).trans rfl
        have f60 := blk_frozen n3.out 0
        have f61 := blk_frozen n3.out 1
        cases hN : numN (trimSp (s.data.toList.drop (spAt s.data.toList))) with
        | some n =>
          rw [hN] at he
          subst he
          have HN := Aside0.mk hN
          clear hN
          simp only [numRes]
          go_wp2_with fail
          have hP := print_ev s (n : Int)
          rw [HD.out] at hP
          obtain ⟨pp, hpp⟩ : ∃ pp, pp = printR (s.data.toList.take (spAt s.data.toList)) (n : Int) := ⟨_, rfl⟩
          rw [← hpp] at hP
          obtain ⟨p1, p2⟩ := pp
          obtain ⟨K2, h2⟩ := hP.rounds
          have H2 := Aside0.mk h2
          have HPP := Aside0.mk hpp
          clear h2 hpp hP c20 c21 f20 f21 c60 c61 f60 f61
          have m1 : Aside0 (Below w.heap.size w (w3.setCell ⟨w.heap.size + 1, 1, none⟩ (.int .i64 (n : Int)))) := ⟨below_set n1.out (by simp)⟩
          have m2 : Aside0 ((w3.setCell ⟨w.heap.size + 1, 1, none⟩ (.int .i64 (n : Int))).heap[w.heap.size]? = some (.cells #[.string ⟨#[]⟩, .int .i64 0] 132 (0, 0))) := ⟨blk_far n2.out (by simp) _⟩
          have m3 : Aside0 ((w3.setCell ⟨w.heap.size + 1, 1, none⟩ (.int .i64 (n : Int))).heap[w.heap.size + 1]? = some (.cells #[.string s, .int .i64 (n : Int)] 132 (0, 0))) := ⟨blk_put n3.out 1 _ rfl⟩
          refine (code_Print.calls K2 _ _ _ _ _ ?sg H2.out).mono ?_
          case sg => exact HG.out.below m1.out
          rintro e w4 ⟨rfl, hb4⟩
          have o1 : Aside0 (Below w.heap.size w w4) := ⟨below_step m1.out hb4⟩
          have o2 : Aside0 (w4.heap[w.heap.size]? = some (.cells #[.string ⟨#[]⟩, .int .i64 0] 132 (0, 0))) := ⟨blk_below m2.out hb4⟩
          have o3 : Aside0 (w4.heap[w.heap.size + 1]? = some (.cells #[.string s, .int .i64 (n : Int)] 132 (0, 0))) := ⟨blk_below m3.out hb4⟩
          clear hb4 m1 m2 m3 n1 n2 n3 l2 l6
          have l2 := blk_lt o2.out
          have l6 := blk_lt o3.out
          have c20 := (blk_cell o2.out 0).trans rfl
          have c21 := (blk_cell o2.out 1).trans rfl
          have f20 := blk_frozen o2.out 0
          have f21 := blk_frozen o2.out 1
          have c60 := (blk_cell o3.out 0).trans rfl
          have c61 := (blk_cell o3.out 1).trans rfl
          have f60 := blk_frozen o3.out 0
          have f61 := blk_frozen o3.out 1
          by_cases hz : p2 = 0
          · subst hz
            by_cases hs1 : s = p1
            · subst hs1
              have hPR : Aside0 (parseR s.data.toList = (s, (n : Int), 0)) := ⟨by
                have e1 : mkB (s.data.toList.take (spAt s.data.toList)) = s := by rw [← HD.out, mkB_data]
                unfold parseR
                rw [HF.out, HN.out]
                show (if (printR _ (n : Int)) = (mkB s.data.toList, 0) then (mkB (s.data.toList.take (spAt s.data.toList)), (n : Int), (0 : Int)) else _) = _
                rw [← HPP.out, mkB_data, if_pos rfl, e1]⟩
              go_wp2_with fail
              rw [Exit.noGoto_ret]
              refine bodyPost_ret (results_ct rfl _ _ w.heap.size 132 #[.string s, .int .i64 (n : Int)] (0, 0) _ rfl (by (with_reducible repeat (first | refine blk_drewN ?_ _ | refine blk_drew ?_ | refine blk_alloc ?_ _)); refine blk_put (cs := #[.string s, .int .i64 0]) ?_ 1 _ rfl; (with_reducible repeat (first | refine blk_drewN ?_ _ | refine blk_drew ?_ | refine blk_alloc ?_ _)); refine blk_put (cs := #[.string (⟨#[]⟩ : ByteArray), .int .i64 0]) ?_ 0 _ rfl; (with_reducible repeat (first | refine blk_drewN ?_ _ | refine blk_drew ?_ | refine blk_alloc ?_ _)); exact o2.out) Tryd.underlying132 rfl (by kernel_rfl)) rfl ?_
              unfold ParsePost
              rw [hPR.out]
              refine ⟨rfl, ?_⟩
              repeat (first | exact o1.out | apply below_alloc | refine below_set ?_ (Nat.le_refl _))
            · have hPR : Aside0 (parseR s.data.toList = (⟨#[]⟩, 0, 21)) := ⟨by
                unfold parseR
                rw [HF.out, HN.out]
                show (if (printR _ (n : Int)) = (mkB s.data.toList, 0) then (mkB (s.data.toList.take (spAt s.data.toList)), (n : Int), (0 : Int)) else _) = _
                rw [← HPP.out, mkB_data, if_neg (by intro h; apply hs1; exact (Prod.mk.inj h).1.symm)]⟩
              have q1 : (p1.toList == s.toList) = false := by
                rw [beq_eq_false_iff_ne, ne_eq, toList_iff]; intro h; apply hs1; rw [← mkB_data s, ← h, mkB_data]
              clear hs1
              go_wp2_with fail
              rw [Exit.noGoto_ret]
              refine bodyPost_ret (results_ct rfl _ _ w.heap.size 132 #[.string (⟨#[]⟩ : ByteArray), .int .i64 0] (0, 0) _ rfl (by (with_reducible repeat (first | refine blk_drewN ?_ _ | refine blk_drew ?_ | refine blk_alloc ?_ _)); refine blk_put (cs := #[.string (⟨#[]⟩ : ByteArray), .int .i64 0]) ?_ 1 _ rfl; (with_reducible repeat (first | refine blk_drewN ?_ _ | refine blk_drew ?_ | refine blk_alloc ?_ _)); refine blk_put (cs := #[.string (⟨#[]⟩ : ByteArray), .int .i64 0]) ?_ 0 _ rfl; (with_reducible repeat (first | refine blk_drewN ?_ _ | refine blk_drew ?_ | refine blk_alloc ?_ _)); exact o2.out) Tryd.underlying132 rfl (by kernel_rfl)) rfl ?_
              unfold ParsePost
              rw [hPR.out]
              refine ⟨rfl, ?_⟩
              repeat (first | exact o1.out | apply below_alloc | refine below_set ?_ (Nat.le_refl _))
          · have hPR : Aside0 (parseR s.data.toList = (⟨#[]⟩, 0, 21)) := ⟨by
              unfold parseR
              rw [HF.out, HN.out]
              show (if (printR _ (n : Int)) = (mkB s.data.toList, 0) then (mkB (s.data.toList.take (spAt s.data.toList)), (n : Int), (0 : Int)) else _) = _
              rw [← HPP.out, if_neg (by intro h; exact hz (Prod.mk.inj h).2)]⟩
            have q1 : (p2 == 0) = false := by simpa using hz
            have q2 : (p2 != 0) = true := by simpa using hz
            go_wp2_with fail
            rw [Exit.noGoto_ret]
            refine bodyPost_ret (results_ct rfl _ _ w.heap.size 132 #[.string (⟨#[]⟩ : ByteArray), .int .i64 0] (0, 0) _ rfl (by (with_reducible repeat (first | refine blk_drewN ?_ _ | refine blk_drew ?_ | refine blk_alloc ?_ _)); refine blk_put (cs := #[.string (⟨#[]⟩ : ByteArray), .int .i64 0]) ?_ 1 _ rfl; (with_reducible repeat (first | refine blk_drewN ?_ _ | refine blk_drew ?_ | refine blk_alloc ?_ _)); refine blk_put (cs := #[.string (⟨#[]⟩ : ByteArray), .int .i64 0]) ?_ 0 _ rfl; (with_reducible repeat (first | refine blk_drewN ?_ _ | refine blk_drew ?_ | refine blk_alloc ?_ _)); exact o2.out) Tryd.underlying132 rfl (by kernel_rfl)) rfl ?_
            unfold ParsePost
            rw [hPR.out]
            refine ⟨rfl, ?_⟩
            repeat (first | exact o1.out | apply below_alloc | refine below_set ?_ (Nat.le_refl _))
        | none =>
          rw [hN] at he
          subst he
          have HN := Aside0.mk hN
          clear hN
          simp only [numRes]
          go_wp2_with fail
          have hP := print_ev s 0
          rw [HD.out] at hP
          obtain ⟨pp, hpp⟩ : ∃ pp, pp = printR (s.data.toList.take (spAt s.data.toList)) 0 := ⟨_, rfl⟩
          rw [← hpp] at hP
          obtain ⟨p1, p2⟩ := pp
          obtain ⟨K2, h2⟩ := hP.rounds
          have H2 := Aside0.mk h2
          have HPP := Aside0.mk hpp
          clear h2 hpp hP c20 c21 f20 f21 c60 c61 f60 f61
          have m1 : Aside0 (Below w.heap.size w w3) := ⟨n1.out⟩
          have m2 : Aside0 (w3.heap[w.heap.size]? = some (.cells #[.string ⟨#[]⟩, .int .i64 0] 132 (0, 0))) := ⟨n2.out⟩
          have m3 : Aside0 (w3.heap[w.heap.size + 1]? = some (.cells #[.string s, .int .i64 0] 132 (0, 0))) := ⟨n3.out⟩
          refine (code_Print.calls K2 _ _ _ _ _ ?sg H2.out).mono ?_
          case sg => exact HG.out.below m1.out
          rintro e w4 ⟨rfl, hb4⟩
          have o1 : Aside0 (Below w.heap.size w w4) := ⟨below_step m1.out hb4⟩
          have o2 : Aside0 (w4.heap[w.heap.size]? = some (.cells #[.string ⟨#[]⟩, .int .i64 0] 132 (0, 0))) := ⟨blk_below m2.out hb4⟩
          have o3 : Aside0 (w4.heap[w.heap.size + 1]? = some (.cells #[.string s, .int .i64 0] 132 (0, 0))) := ⟨blk_below m3.out hb4⟩
          clear hb4 m1 m2 m3 n1 n2 n3 l2 l6
          have l2 := blk_lt o2.out
          have l6 := blk_lt o3.out
          have c20 := (blk_cell o2.out 0).trans rfl
          have c21 := (blk_cell o2.out 1).trans rfl
          have f20 := blk_frozen o2.out 0
          have f21 := blk_frozen o2.out 1
          have c60 := (blk_cell o3.out 0).trans rfl
          have c61 := (blk_cell o3.out 1).trans rfl
          have f60 := blk_frozen o3.out 0
          have f61 := blk_frozen o3.out 1
          by_cases hz : p2 = 0
          · subst hz
            by_cases hs1 : s = p1
            · subst hs1
              have hPR : Aside0 (parseR s.data.toList = (s, 0, 0)) := ⟨by
                have e1 : mkB (s.data.toList.take (spAt s.data.toList)) = s := by rw [← HD.out, mkB_data]
                unfold parseR
                rw [HF.out, HN.out]
                show (if (printR _ 0) = (mkB s.data.toList, 0) then (mkB (s.data.toList.take (spAt s.data.toList)), 0, (0 : Int)) else _) = _
                rw [← HPP.out, mkB_data, if_pos rfl, e1]⟩
              go_wp2_with fail
              rw [Exit.noGoto_ret]
              refine bodyPost_ret (results_ct rfl _ _ w.heap.size 132 #[.string s, .int .i64 0] (0, 0) _ rfl (by (with_reducible repeat (first | refine blk_drewN ?_ _ | refine blk_drew ?_ | refine blk_alloc ?_ _)); refine blk_put (cs := #[.string s, .int .i64 0]) ?_ 1 _ rfl; (with_reducible repeat (first | refine blk_drewN ?_ _ | refine blk_drew ?_ | refine blk_alloc ?_ _)); refine blk_put (cs := #[.string (⟨#[]⟩ : ByteArray), .int .i64 0]) ?_ 0 _ rfl; (with_reducible repeat (first | refine blk_drewN ?_ _ | refine blk_drew ?_ | refine blk_alloc ?_ _)); exact o2.out) Tryd.underlying132 rfl (by kernel_rfl)) rfl ?_
              unfold ParsePost
              rw [hPR.out]
              refine ⟨rfl, ?_⟩
              repeat (first | exact o1.out | apply below_alloc | refine below_set ?_ (Nat.le_refl _))
            · have hPR : Aside0 (parseR s.data.toList = (⟨#[]⟩, 0, 21)) := ⟨by
                unfold parseR
                rw [HF.out, HN.out]
                show (if (printR _ 0) = (mkB s.data.toList, 0) then (mkB (s.data.toList.take (spAt s.data.toList)), 0, (0 : Int)) else _) = _
                rw [← HPP.out, mkB_data, if_neg (by intro h; apply hs1; exact (Prod.mk.inj h).1.symm)]⟩
              have q1 : (p1.toList == s.toList) = false := by
                rw [beq_eq_false_iff_ne, ne_eq, toList_iff]; intro h; apply hs1; rw [← mkB_data s, ← h, mkB_data]
              clear hs1
              go_wp2_with fail
              rw [Exit.noGoto_ret]
              refine bodyPost_ret (results_ct rfl _ _ w.heap.size 132 #[.string (⟨#[]⟩ : ByteArray), .int .i64 0] (0, 0) _ rfl (by (with_reducible repeat (first | refine blk_drewN ?_ _ | refine blk_drew ?_ | refine blk_alloc ?_ _)); refine blk_put (cs := #[.string (⟨#[]⟩ : ByteArray), .int .i64 0]) ?_ 1 _ rfl; (with_reducible repeat (first | refine blk_drewN ?_ _ | refine blk_drew ?_ | refine blk_alloc ?_ _)); refine blk_put (cs := #[.string (⟨#[]⟩ : ByteArray), .int .i64 0]) ?_ 0 _ rfl; (with_reducible repeat (first | refine blk_drewN ?_ _ | refine blk_drew ?_ | refine blk_alloc ?_ _)); exact o2.out) Tryd.underlying132 rfl (by kernel_rfl)) rfl ?_
              unfold ParsePost
              rw [hPR.out]
              refine ⟨rfl, ?_⟩
              repeat (first | exact o1.out | apply below_alloc | refine below_set ?_ (Nat.le_refl _))
          · have hPR : Aside0 (parseR s.data.toList = (⟨#[]⟩, 0, 21)) := ⟨by
              unfold parseR
              rw [HF.out, HN.out]
              show (if (printR _ 0) = (mkB s.data.toList, 0) then (mkB (s.data.toList.take (spAt s.data.toList)), 0, (0 : Int)) else _) = _
              rw [← HPP.out, if_neg (by intro h; exact hz (Prod.mk.inj h).2)]⟩
            have q1 : (p2 == 0) = false := by simpa using hz
            have q2 : (p2 != 0) = true := by simpa using hz
            go_wp2_with fail
            rw [Exit.noGoto_ret]
            refine bodyPost_ret (results_ct rfl _ _ w.heap.size 132 #[.string (⟨#[]⟩ : ByteArray), .int .i64 0] (0, 0) _ rfl (by (with_reducible repeat (first | refine blk_drewN ?_ _ | refine blk_drew ?_ | refine blk_alloc ?_ _)); refine blk_put (cs := #[.string (⟨#[]⟩ : ByteArray), .int .i64 0]) ?_ 1 _ rfl; (with_reducible repeat (first | refine blk_drewN ?_ _ | refine blk_drew ?_ | refine blk_alloc ?_ _)); refine blk_put (cs := #[.string (⟨#[]⟩ : ByteArray), .int .i64 0]) ?_ 0 _ rfl; (with_reducible repeat (first | refine blk_drewN ?_ _ | refine blk_drew ?_ | refine blk_alloc ?_ _)); exact o2.out) Tryd.underlying132 rfl (by kernel_rfl)) rfl ?_
            unfold ParsePost
            rw [hPR.out]
            refine ⟨rfl, ?_⟩
            repeat (first | exact o1.out | apply below_alloc | refine below_set ?_ (Nat.le_refl _))
end Go.Proofs.YthnafgffanlnfaaDoor.PSrc
namespace Go.Proofs.YthnafgffanlnfaaDoor.PSrc
open Go.RowKit Go.Proofs.YthnafgffanlnfaaDoorW.PrintWords Go.Proofs.YthnafgffanlnfaaDoorW.PrintLast Go.Proofs.YthnafgffanlnfaaDoorW.PrintMore
set_option linter.unusedVariables false
set_option linter.unusedSimpArgs false
def lineWords (l : List UInt8) : List (List UInt8) := wordsL (before 59 l)
theorem blank_gives (W : World) (x : Nat) : FnGives Tryd.prog 91 #[] #[encR x] (.bool (blankR x)) W := by
  show Calls Tryd.prog 91 #[.int .i32 (x : Int)] W _
  by_cases h1 : x = 32
  · subst h1
    go_enter Tryd.func91, Tryd.ntmps91
    go_wp2
    go_ret
    exact ⟨rfl, 0, rfl⟩
  · have q1 : ((x : Int) == 32) = false := by rw [beq_eq_false_iff_ne]; omega
    by_cases h2 : x = 9
    · subst h2
      go_enter Tryd.func91, Tryd.ntmps91
      go_wp2
      go_ret
      exact ⟨rfl, 0, rfl⟩
    · have q2 : ((x : Int) == 9) = false := by rw [beq_eq_false_iff_ne]; omega
      have hb : blankR x = false := by unfold blankR; simp [h1, h2]
      have HB := Aside0.mk hb
      clear hb h1 h2
      go_enter Tryd.func91, Tryd.ntmps91
      go_wp2
      go_ret
      exact ⟨by rw [HB.out]; rfl, 0, rfl⟩
set_option maxRecDepth 100000 in
theorem words_calls (s : ByteArray) (w : World) (hs : s.size < 4294967281) (HG0 : Gl w) :
    Calls Tryd.prog 58 #[.string s] w fun e w' => ∃ v0_ : Value, e = .returned v0_ ∧ Kd.R Kd.string 9 w' w.heap.size (fun _ => True) v0_ ((lineWords s.data.toList).map mkB) ∧ Below w.heap.size w w' := by
  have HG := Aside0.mk HG0
  clear HG0
  have eg : ∀ args w, (callFunc 91 args).run Tryd.prog w = .ok (.enter 91 args) w := enters_of Tryd.func91 (by kernel_rfl) rfl
  have EG := Aside0.mk eg
  clear eg
  have h1 : strings_Cut.f s ⟨#[59]⟩ = some (mkB (before 59 s.data.toList), mkB (behind 59 s.data.toList), decide (59 ∈ s.data.toList)) := by
    unfold strings_Cut.f
    rw [if_pos hs, cut_one 59 s.data.toList]
    rfl
  have H1 := Aside0.mk h1
  clear h1
  go_enter Tryd.func58, Tryd.ntmps58
  go_wp2_with fail
  refine (strings_Cut.calls _ _ _ _ _ _ HG.out H1.out).mono ?_
  rintro e w1 ⟨rfl, ⟨nd, rfl⟩⟩
  go_wp2_with fail
  have hsz : (mkB (before 59 s.data.toList)).size ≤ 4294967296 := by
    have h2 : (before 59 s.data.toList).length ≤ s.data.toList.length := by
      have h3 : (s.data.toList.takeWhile (· != 59)).length + (s.data.toList.dropWhile (· != 59)).length = s.data.toList.length := by
        rw [← List.length_append, List.takeWhile_append_dropWhile]
      unfold before; omega
    rw [size_list, data_mkB]; rw [size_list] at hs; omega
  have HS := Aside0.mk hsz
  clear hsz
  refine (Tryd.strings_FieldsFunc_runes 91 #[] EG.out blankR (mkB (before 59 s.data.toList)) _ HS.out (fun W x _ _ => blank_gives W x)).mono ?_
  rintro e w2 ⟨A, rfl, hA, hown, hb⟩
  have HO := Aside0.mk hown
  have HB := Aside0.mk hb
  clear hown hb hA
  generalize hv : Value.slice (some ⟨A, 0, none⟩) (Lib.goFieldsP blankR (mkB (before 59 s.data.toList))).length (Lib.goFieldsP blankR (mkB (before 59 s.data.toList))).length = v at *
  clear hv
  go_wp2_with fail
  go_ret
  refine ⟨_, rfl, ?_, ?_⟩
  · have h3 := HO.out
    rw [goFields_eq, data_mkB] at h3
    exact Kd.R_of_own h3 (fun _ _ => trivial)
  · exact (pw_below_drewN (Below.refl w.heap.size w) nd).trans HB.out
def noneP : List PanicEntry := [{ v := .iface 137 (.agg #[]), recovered := false }]
theorem must_true (w : World) : Calls Tryd.prog 95 #[.bool true] w fun e w' => e = .returned (.tuple #[]) ∧ w' = w := by
  go_enter Tryd.func95, Tryd.ntmps95
  go_wp2
  go_end0
  exact ⟨rfl, rfl⟩
theorem must_false (w : World) : Calls Tryd.prog 95 #[.bool false] w fun e w' => e = .panicked noneP ∧ w' = w := by
  go_enter Tryd.func95, Tryd.ntmps95
  go_wp2
  exact ⟨rfl, rfl, rfl⟩
def source_must.f (b : Bool) : Option Unit := if b then some () else none
theorem source_must.calls (b : Bool) (w : World) (h : source_must.f b = some ()) : Calls Tryd.prog 95 #[.bool b] w fun e w' => e = .returned (.tuple #[]) ∧ Drawn0 w w' := by
  cases b with
  | true =>
    refine (must_true w).mono ?_
    rintro e w' ⟨rfl, rfl⟩
    exact ⟨rfl, Drawn0.refl _⟩
  | false => cases h
end Go.Proofs.YthnafgffanlnfaaDoor.PSrc
