/-
  SourceNumbers (vesperlaw13): the closed sentence holds: an example source is written and read as it should be, and the errors, kinds, parts and limits have their numbers. Conditions: none beyond the row's own; the listed tables are tied by the card. (part 5 of 6)
-/
import Derived.Test.YthnafgffanlnfaaDoorSN4
import Derived.Laws.Rows
import Derived.Deep.QuietTactic
import Derived.BigQuiet
import Derived.Defers
import Derived.Recover
import Derived.Maps.Own
import Derived.Laws.Pointers
import Derived.Laws.CopyOwn
import Derived.Deep.RegionWith
import Derived.Deep.CutBlock
import Derived.Deep.CutRange
import Derived.Deep.DeepCutAuto
namespace Go.Proofs.YthnafgffanlnfaaDoor.PSrc
open Go.RowKit Go.Proofs.YthnafgffanlnfaaDoorW.PrintWords Go.Proofs.YthnafgffanlnfaaDoorW.PrintLast Go.Proofs.YthnafgffanlnfaaDoorW.PrintMore
set_option linter.unusedVariables false
set_option linter.unusedSimpArgs false
def numR (l : List UInt8) (m : Nat) : Option Nat := if l.length = m then numN l else none
def NumbPost (r : Option Nat) (w : World) (e : Ending) (w' : World) : Prop :=
  (match r with | some n => e = .returned (.int .i64 (n : Int)) | none => e = .panicked noneP) ∧ Below w.heap.size w w'
set_option maxRecDepth 100000 in
theorem numb_calls (s : ByteArray) (m : Nat) (w : World) : Calls Tryd.prog 117 #[.string s, .int .i64 (m : Int)] w (NumbPost (numR s.data.toList m) w) := by
  cases hn : numN s.data.toList with
  | none =>
    have HP : Aside0 (numR s.data.toList m = none) := ⟨by unfold numR; split <;> first | exact hn | rfl⟩
    have HN := Aside0.mk hn
    clear hn
    go_enter Tryd.func117, Tryd.ntmps117
    go_wp2_with fail
    refine (number_calls _ _).mono ?_
    rintro e w1 ⟨he, hb⟩
    rw [HN.out] at he
    subst he
    have HB := Aside0.mk hb
    clear hb
    simp only [numRes]
    go_wp2_with fail
    refine (must_false _).mono ?_
    rintro e w2 ⟨rfl, rfl⟩
    refine ⟨rfl, ?_⟩
    rw [HP.out]
    exact ⟨rfl, HB.out⟩
  | some n =>
    have HN := Aside0.mk hn
    by_cases hl : s.size = m
    · have HP : Aside0 (numR s.data.toList m = some n) := ⟨by unfold numR; rw [if_pos (by rw [← size_list]; exact hl)]; exact hn⟩
      clear hn
      have q1 : ((s.size : Int) == (m : Int)) = true := by rw [beq_iff_eq]; omega
      have q2 : (s.size == m) = true := by rw [beq_iff_eq]; exact hl
      clear hl
      go_enter Tryd.func117, Tryd.ntmps117
      go_wp2_with fail
      refine (number_calls _ _).mono ?_
      rintro e w1 ⟨he, hb⟩
      rw [HN.out] at he
      subst he
      have HB := Aside0.mk hb
      clear hb
      simp only [numRes]
      go_wp2_with fail
      refine (must_true _).mono ?_
      rintro e w2 ⟨rfl, rfl⟩
      go_wp2_with fail
      go_ret
      rw [HP.out]
      exact ⟨rfl, HB.out⟩
    · have HP : Aside0 (numR s.data.toList m = none) := ⟨by unfold numR; rw [if_neg (by rw [← size_list]; exact hl)]⟩
      clear hn
      have q1 : ((s.size : Int) == (m : Int)) = false := by rw [beq_eq_false_iff_ne]; omega
      have q2 : (s.size == m) = false := by rw [beq_eq_false_iff_ne]; exact hl
      clear hl
      go_enter Tryd.func117, Tryd.ntmps117
      go_wp2_with fail
      refine (number_calls _ _).mono ?_
      rintro e w1 ⟨he, hb⟩
      rw [HN.out] at he
      subst he
      have HB := Aside0.mk hb
      clear hb
      simp only [numRes]
      go_wp2_with fail
      refine (must_false _).mono ?_
      rintro e w2 ⟨rfl, rfl⟩
      refine ⟨rfl, ?_⟩
      rw [HP.out]
      exact ⟨rfl, HB.out⟩
def ItemPost (r : Option S63) (w : World) (e : Ending) (w' : World) : Prop :=
  (match r with
   | some x => ∃ v5 : Value, e = .returned (.agg #[.int .u8 x.f0, .string x.f1, .int .i64 x.f2, .string x.f3, .int .u8 x.f4, v5]) ∧ (Kd.int .u8).R 5 w' w.heap.size (fun _ => True) v5 x.f5
   | none => e = .panicked noneP) ∧ Below w.heap.size w w'
def atR (ws : List (List UInt8)) : Option S63 :=
  match ws with
  | [_, d] => match numR d 4 with | some n => some ⟨4, ⟨#[]⟩, (n : Int), ⟨#[]⟩, 0, []⟩ | none => none
  | _ => none
def addressR (ws : List (List UInt8)) : Option S63 :=
  match ws with
  | [_, d] => some ⟨5, ⟨#[]⟩, 0, mkB d, 0, []⟩
  | _ => none
theorem must_gives (b : Bool) (w : World) : Calls Tryd.prog 95 #[.bool b] w fun e w' => (e = if b then .returned (.tuple #[]) else .panicked noneP) ∧ w' = w := by
  cases b with
  | true => exact must_true w
  | false => exact must_false w
set_option maxRecDepth 100000 in
set_option maxHeartbeats 1000000 in
theorem at_calls (A0 : Option Addr) (c0 : Nat) (ws : List (List UInt8)) (w : World) (hr0 : Kd.C Kd.string w A0 (ws.map mkB).length (ws.map mkB)) (hc0 : (ws.map mkB).length ≤ c0) :
    Calls Tryd.prog 118 #[.slice A0 (ws.map mkB).length c0] w (ItemPost (atR ws) w) := by
  by_cases hl : ws.length = 2
  · obtain ⟨a, d, rfl⟩ : ∃ a d, ws = [a, d] := by
      match ws, hl with
      | [a, d], _ => exact ⟨a, d, rfl⟩
    have HR := Aside0.mk hr0
    clear hr0 hl
    obtain ⟨ad, e1, hx⟩ := Kd.at_string HR.out 1 (by decide) (by simp)
    subst e1
    clear HR
    simp only [List.map_cons, List.map_nil, List.length_cons, List.length_nil] at hx hc0 ⊢
    replace hx : w.cell? ⟨ad.block, ad.off + 1, none⟩ = some (.string (mkB d)) := hx
    have hlx : ad.block < w.heap.size := World.block_lt_of_cell? w ⟨ad.block, ad.off + 1, none⟩ hx
    cases hn : numR d 4 with
    | none =>
      have HP : Aside0 (atR [a, d] = none) := ⟨by unfold atR; simp only [hn]⟩
      have HN := Aside0.mk hn
      clear hn
      go_enter Tryd.func118, Tryd.ntmps118
      go_wp2_with fail
      refine (must_true _).mono ?_
      rintro e w1 ⟨rfl, rfl⟩
      go_wp2_with fail
      refine (numb_calls (mkB d) 4 _).mono ?_
      rintro e w2 ⟨he, hb⟩
      rw [show numR (mkB d).data.toList 4 = none from HN.out] at he
      subst he
      refine ⟨rfl, ?_⟩
      rw [HP.out]
      exact ⟨rfl, below_step (below_alloc (Below.refl _ w) _) hb⟩
    | some n =>
      have HP : Aside0 (atR [a, d] = some ⟨4, ⟨#[]⟩, (n : Int), ⟨#[]⟩, 0, []⟩) := ⟨by unfold atR; simp only [hn]⟩
      have HN := Aside0.mk hn
      clear hn
      go_enter Tryd.func118, Tryd.ntmps118
      go_wp2_with fail
      refine (must_true _).mono ?_
      rintro e w1 ⟨rfl, rfl⟩
      go_wp2_with fail
      refine (numb_calls (mkB d) 4 _).mono ?_
      rintro e w2 ⟨he, hb⟩
      rw [show numR (mkB d).data.toList 4 = some n from HN.out] at he
      subst he
      have HB : Aside0 (Below w.heap.size w w2) := ⟨below_step (below_alloc (Below.refl _ w) _) hb⟩
      have B2 : Aside0 (w2.heap[w.heap.size]? = some (.cells #[.int .u8 0, .string (⟨#[]⟩ : ByteArray), .int .i64 0, .string (⟨#[]⟩ : ByteArray), .int .u8 0, .slice none 0 0] 63 (0, 0))) := ⟨blk_below (blk_new w _) hb⟩
      clear hb
      have l2 := blk_lt B2.out
      have cc0 := (blk_cell B2.out 0).trans rfl
      have ff0 := blk_frozen B2.out 0
      have cc1 := (blk_cell B2.out 1).trans rfl
      have ff1 := blk_frozen B2.out 1
      have cc2 := (blk_cell B2.out 2).trans rfl
      have ff2 := blk_frozen B2.out 2
      have cc3 := (blk_cell B2.out 3).trans rfl
      have ff3 := blk_frozen B2.out 3
      have cc4 := (blk_cell B2.out 4).trans rfl
      have ff4 := blk_frozen B2.out 4
      have cc5 := (blk_cell B2.out 5).trans rfl
      have ff5 := blk_frozen B2.out 5
      go_wp2_with fail
      refine bodyPost_ret (results_cell_row rfl _ _ w.heap.size 63 #[.int .u8 4, .string (⟨#[]⟩ : ByteArray), .int .i64 (n : Int), .string (⟨#[]⟩ : ByteArray), .int .u8 0, .slice none 0 0] (0, 0) _ rfl (by (with_reducible repeat (first | refine blk_drewN ?_ _ | refine blk_drew ?_ | refine blk_alloc ?_ _)); refine blk_put (cs := #[.int .u8 4, .string (⟨#[]⟩ : ByteArray), .int .i64 (n : Int), .string (⟨#[]⟩ : ByteArray), .int .u8 0, .slice none 0 0]) ?_ 5 _ rfl; (with_reducible repeat (first | refine blk_drewN ?_ _ | refine blk_drew ?_ | refine blk_alloc ?_ _)); refine blk_put (cs := #[.int .u8 4, .string (⟨#[]⟩ : ByteArray), .int .i64 (n : Int), .string (⟨#[]⟩ : ByteArray), .int .u8 0, .slice none 0 0]) ?_ 4 _ rfl; (with_reducible repeat (first | refine blk_drewN ?_ _ | refine blk_drew ?_ | refine blk_alloc ?_ _)); refine blk_put (cs := #[.int .u8 4, .string (⟨#[]⟩ : ByteArray), .int .i64 (n : Int), .string (⟨#[]⟩ : ByteArray), .int .u8 0, .slice none 0 0]) ?_ 3 _ rfl; (with_reducible repeat (first | refine blk_drewN ?_ _ | refine blk_drew ?_ | refine blk_alloc ?_ _)); refine blk_put (cs := #[.int .u8 4, .string (⟨#[]⟩ : ByteArray), .int .i64 0, .string (⟨#[]⟩ : ByteArray), .int .u8 0, .slice none 0 0]) ?_ 2 _ rfl; (with_reducible repeat (first | refine blk_drewN ?_ _ | refine blk_drew ?_ | refine blk_alloc ?_ _)); refine blk_put (cs := #[.int .u8 4, .string (⟨#[]⟩ : ByteArray), .int .i64 0, .string (⟨#[]⟩ : ByteArray), .int .u8 0, .slice none 0 0]) ?_ 1 _ rfl; (with_reducible repeat (first | refine blk_drewN ?_ _ | refine blk_drew ?_ | refine blk_alloc ?_ _)); refine blk_put (cs := #[.int .u8 0, .string (⟨#[]⟩ : ByteArray), .int .i64 0, .string (⟨#[]⟩ : ByteArray), .int .u8 0, .slice none 0 0]) ?_ 0 _ rfl; (with_reducible repeat (first | refine blk_drewN ?_ _ | refine blk_drew ?_ | refine blk_alloc ?_ _)); exact B2.out) Tryd.underlying63 rfl (by kernel_rfl)) rfl ?_
      rw [HP.out]
      refine ⟨⟨_, rfl, Kd.R_nil _ _ _ _ _⟩, ?_⟩
      repeat (with_reducible first | exact HB.out | apply below_alloc | refine below_set ?_ (Nat.le_refl _))
  · have HP : Aside0 (atR ws = none) := ⟨by
      unfold atR
      split
      · simp at hl
      · rfl⟩
    rw [List.length_map] at hc0 ⊢
    have q1 : ((ws.length : Int) == 2) = false := by rw [beq_eq_false_iff_ne]; omega
    have q2 : (ws.length == 2) = false := by rw [beq_eq_false_iff_ne]; exact hl
    clear hl hr0
    go_enter Tryd.func118, Tryd.ntmps118
    go_wp2_with fail
    refine (must_false _).mono ?_
    rintro e w1 ⟨rfl, rfl⟩
    refine ⟨rfl, ?_⟩
    rw [HP.out]
    exact ⟨rfl, below_alloc (Below.refl _ w) _⟩
set_option maxRecDepth 100000 in
set_option maxHeartbeats 1000000 in
theorem address_calls (A0 : Option Addr) (c0 : Nat) (ws : List (List UInt8)) (w : World) (hr0 : Kd.C Kd.string w A0 (ws.map mkB).length (ws.map mkB)) (hc0 : (ws.map mkB).length ≤ c0) :
    Calls Tryd.prog 119 #[.slice A0 (ws.map mkB).length c0] w (ItemPost (addressR ws) w) := by
  by_cases hl : ws.length = 2
  · obtain ⟨a, d, rfl⟩ : ∃ a d, ws = [a, d] := by
      match ws, hl with
      | [a, d], _ => exact ⟨a, d, rfl⟩
    have HR := Aside0.mk hr0
    clear hr0 hl
    obtain ⟨ad, e1, hx⟩ := Kd.at_string HR.out 1 (by decide) (by simp)
    subst e1
    clear HR
    simp only [List.map_cons, List.map_nil, List.length_cons, List.length_nil] at hx hc0 ⊢
    replace hx : w.cell? ⟨ad.block, ad.off + 1, none⟩ = some (.string (mkB d)) := hx
    have hlx : ad.block < w.heap.size := World.block_lt_of_cell? w ⟨ad.block, ad.off + 1, none⟩ hx
    have HP : Aside0 (addressR [a, d] = some ⟨5, ⟨#[]⟩, 0, mkB d, 0, []⟩) := ⟨rfl⟩
    generalize mkB d = dd at *
    go_enter Tryd.func119, Tryd.ntmps119
    go_wp2_with fail
    refine (must_true _).mono ?_
    rintro e w1 ⟨rfl, rfl⟩
    have HB : Aside0 (Below w.heap.size w (w.alloc (.cells #[.int .u8 0, .string (⟨#[]⟩ : ByteArray), .int .i64 0, .string (⟨#[]⟩ : ByteArray), .int .u8 0, .slice none 0 0] 63))) := ⟨below_alloc (Below.refl _ w) _⟩
    have B2 : Aside0 ((w.alloc (.cells #[.int .u8 0, .string (⟨#[]⟩ : ByteArray), .int .i64 0, .string (⟨#[]⟩ : ByteArray), .int .u8 0, .slice none 0 0] 63)).heap[w.heap.size]? = some (.cells #[.int .u8 0, .string (⟨#[]⟩ : ByteArray), .int .i64 0, .string (⟨#[]⟩ : ByteArray), .int .u8 0, .slice none 0 0] 63 (0, 0))) := ⟨blk_new w _⟩
    go_wp2_with fail
    refine bodyPost_ret (results_cell_row rfl _ _ w.heap.size 63 #[.int .u8 5, .string (⟨#[]⟩ : ByteArray), .int .i64 0, .string dd, .int .u8 0, .slice none 0 0] (0, 0) _ rfl (blk_new w _) Tryd.underlying63 rfl (by kernel_rfl)) rfl ?_
    rw [HP.out]
    refine ⟨⟨_, rfl, Kd.R_nil _ _ _ _ _⟩, ?_⟩
    repeat (with_reducible first | exact below_alloc (Below.refl _ w) _ | apply below_alloc | refine below_set ?_ (Nat.le_refl _))
  · have HP : Aside0 (addressR ws = none) := ⟨by
      unfold addressR
      split
      · simp at hl
      · rfl⟩
    rw [List.length_map] at hc0 ⊢
    have q1 : ((ws.length : Int) == 2) = false := by rw [beq_eq_false_iff_ne]; omega
    have q2 : (ws.length == 2) = false := by rw [beq_eq_false_iff_ne]; exact hl
    clear hl hr0
    go_enter Tryd.func119, Tryd.ntmps119
    go_wp2_with fail
    refine (must_false _).mono ?_
    rintro e w1 ⟨rfl, rfl⟩
    refine ⟨rfl, ?_⟩
    rw [HP.out]
    exact ⟨rfl, below_alloc (Below.refl _ w) _⟩
end Go.Proofs.YthnafgffanlnfaaDoor.PSrc
namespace Go.Proofs.YthnafgffanlnfaaDoor.PSrc
open Go.RowKit Go.Proofs.YthnafgffanlnfaaDoorW.PrintWords Go.Proofs.YthnafgffanlnfaaDoorW.PrintLast Go.Proofs.YthnafgffanlnfaaDoorW.PrintMore
attribute [local go_sem] max2_int min2_int max_two min_two max_three min_three max_four min_four   -- for this text's walks alone
set_option linter.unusedVariables false
set_option linter.unusedSimpArgs false
def bytesR : List ByteArray → Option (List Int)
  | [] => some []
  | d :: r => match numR d.data.toList 2 with
    | some n => (bytesR r).map (fun z => ((n : Int) % 256) :: z)
    | none => none
def dataR (l0 : List ByteArray) : Option S63 := (bytesR (l0.drop 1)).map fun bs => ⟨3, ⟨#[]⟩, 0, ⟨#[]⟩, 0, bs⟩
theorem bytesR_some {l : List ByteArray} {i : Nat} {n : Nat} (hi : i < l.length) (h : numR (rdOf ByteArray.empty l (i : Int)).data.toList 2 = some n) : bytesR (l.drop i) = (bytesR (l.drop (i + 1))).map (fun z => ((n : Int) % 256) :: z) := by
  rw [List.drop_eq_getElem_cons hi, bytesR]
  have e : rdOf ByteArray.empty l (i : Int) = l[i] := by unfold rdOf; rw [Int.toNat_natCast, List.getD_eq_getElem?_getD, List.getElem?_eq_getElem hi]; rfl
  rw [e] at h
  rw [h]
theorem bytesR_none {l : List ByteArray} {i : Nat} (hi : i < l.length) (h : numR (rdOf ByteArray.empty l (i : Int)).data.toList 2 = none) : bytesR (l.drop i) = none := by
  rw [List.drop_eq_getElem_cons hi, bytesR]
  have e : rdOf ByteArray.empty l (i : Int) = l[i] := by unfold rdOf; rw [Int.toNat_natCast, List.getD_eq_getElem?_getD, List.getElem?_eq_getElem hi]; rfl
  rw [e] at h
  rw [h]
theorem goesP_ {P : Program} {ops : Array Oper} {Q : Exit → Act → World → Prop} {oi : Oper} {N : Option Tmp} {a : Act} {w : World} {K : Act → World → Prop} {f : FuncId} {fn : Func} {aso : Array Operand} {ts : Array TypeId} (hf : P.funcs[f]? = some fn) (hname : (fn.name == "runtime.NumGoroutine") = false) (hb : fn.body.isSome = true) (args : Array Value)
    (hw : Region.wanted oi (yielded ops a.tmps) = true) (hN : oi.dst = N) (hop : oi.op = .call { callee := .value (.func f), args := aso, argTypes := ts }) (hargs : aso.map a.eval = args)
    (h : Calls P f args w fun e w' => ∃ c, e = .panicked c ∧ Q (.panic c) a w') : if Region.wanted oi (yielded ops a.tmps) = true then Oper.wp P oi a w K Q else K (a.put N undef) w := by
  have he := enters_ hf hname hb args w
  have hrun : (execOp a.eval oi).run P w = .ok (.enter f args) w := by
    unfold execOp
    simp [hop, resolve, Deferred.ofValue, invoke, Act.eval, hargs, he]
  rw [if_pos hw]
  unfold Oper.wp
  rw [hrun, Oper.upon_enter]
  refine h.mono fun e w'' hh => ?_
  obtain ⟨c, rfl, hk⟩ := hh
  exact hk
def dataW.T5 : Bool × List (List Nat × List Nat) := (true, [([], []), ([0], [0]), ([], []), ([2], [2]), ([3], [3]), ([4], [4]), ([1, 5, 3], [1, 5]), ([0, 1, 2, 3, 4, 5, 6], []), ([7, 6, 6, 0, 1, 2, 3, 4, 5, 6], [6, 7])])
def dataW.B5 : List Nat := [0, 1, 0, 4, 12, 28, 63, 127, 255]
theorem dataW.tab5 : rtab .any (opsOf Tryd.f116 5) = dataW.T5 := by kernel_rfl
theorem dataW.bits5 : waitsOk dataW.T5.2 dataW.B5 = true := by kernel_rfl
set_option maxHeartbeats 8000000 in
set_option maxRecDepth 100000 in
theorem data_calls (A0 : Option Addr) (c0 : Nat) (l0 : List ByteArray) (w : World) (hr0 : Kd.C Kd.string w A0 l0.length l0) (hc0 : l0.length ≤ c0) (h1 : 1 ≤ l0.length) (hlen : l0.length ≤ 1000000) :
    Calls Tryd.prog 116 #[.slice A0 l0.length c0] w (ItemPost (dataR l0) w) := by
  have hu63 := Tryd.underlying63
  have HR0 := Aside0.mk hr0
  have HC0 := Aside0.mk hc0
  clear hr0 hc0
  have HB := Aside0.mk (Below.refl w.heap.size w)
  have c2b0 := eq_true (show 1 ≤ (l0.length : Int) by omega)
  have c2b1 : decide (1 ≤ (l0.length : Int)) = true := decide_eq_true (by omega)
  obtain ⟨k, hk⟩ : ∃ k, k = (l0.drop 1).length + 1 := ⟨_, rfl⟩
  have HKK := Aside0.mk hk
  have HLL := Aside0.mk hlen
  clear hk hlen h1
  go_enter Tryd.func116, Tryd.ntmps116
  go_wp2_with (first | ((with_reducible refine gate_dst (N := 2) rfl ?_); refine box_event ?hg (N := 2) ?hd (cs := #[.int .u8 0, .string (⟨#[]⟩ : ByteArray), .int .i64 0, .string (⟨#[]⟩ : ByteArray), .int .u8 0, .slice none 0 0]) (t := 63) ?hr ?_; (case hd => rfl); (case hg => rfl); (case hr => first | (go_simp; done) | (go_simp; rfl)); intro gb101 hg w3 hbox hb; have n0_ := Aside0.mk (below_step (by repeat (first | (with_reducible first | exact HB.out | apply below_alloc | apply pw_below_drewN | apply below_drew1) | exact HB.out)) hb); have n1_ := Aside0.mk (hbox); have n2_ := Aside0.mk ((by rw [hg]; exact (below_size (by repeat (first | (with_reducible first | exact HB.out | apply below_alloc | apply pw_below_drewN | apply below_drew1) | exact HB.out))) : w.heap.size ≤ gb101)); have n3_ := Aside0.mk ((by rw [hg]; exact (below_size (by repeat (first | (with_reducible first | exact HB.out | apply below_alloc | apply pw_below_drewN | apply below_drew1) | exact HB.out))) : w.heap.size ≤ gb101)); clear HB; have HB := n0_; have BK101 := n1_; have GW101 := n2_; have GE101 := n3_; clear n0_ n1_ n2_ n3_; clear hb hbox hg) | ((with_reducible refine gate_dst (N := 3) rfl ?_); refine box_event ?hg (N := 3) ?hd (cs := #[.int .u8 0, .string (⟨#[]⟩ : ByteArray), .int .i64 0, .string (⟨#[]⟩ : ByteArray), .int .u8 0, .slice none 0 0]) (t := 63) ?hr ?_; (case hd => rfl); (case hg => rfl); (case hr => first | (go_simp; done) | (go_simp; rfl)); intro gb102 hg w4 hbox hb; have n0_ := Aside0.mk (blk_below (g := gb101) (o := .cells #[.int .u8 0, .string (⟨#[]⟩ : ByteArray), .int .i64 0, .string (⟨#[]⟩ : ByteArray), .int .u8 0, .slice none 0 0] 63 (0, 0)) (by (with_reducible repeat (first | refine blk_drewN ?_ _ | refine blk_drew ?_ | refine blk_alloc ?_ _)); exact BK101.out) hb); have n1_ := Aside0.mk (below_step (by repeat (first | (with_reducible first | exact HB.out | apply below_alloc | apply pw_below_drewN | apply below_drew1 | refine below_set ?_ GE101.out) | exact HB.out)) hb); have n2_ := Aside0.mk (hbox); have n3_ := Aside0.mk ((by rw [hg]; exact (below_size (by repeat (first | (with_reducible first | exact HB.out | apply below_alloc | apply pw_below_drewN | apply below_drew1 | refine below_set ?_ GE101.out) | exact HB.out))) : w.heap.size ≤ gb102)); have n4_ := Aside0.mk ((by rw [hg]; exact (below_size (by repeat (first | (with_reducible first | exact HB.out | apply below_alloc | apply pw_below_drewN | apply below_drew1 | refine below_set ?_ GE101.out) | exact HB.out))) : w.heap.size ≤ gb102)); have n5_ := Aside0.mk ((by rw [hg]; exact Nat.ne_of_lt (blk_lt (g := gb101) (o := .cells #[.int .u8 0, .string (⟨#[]⟩ : ByteArray), .int .i64 0, .string (⟨#[]⟩ : ByteArray), .int .u8 0, .slice none 0 0] 63 (0, 0)) (by (with_reducible repeat (first | refine blk_drewN ?_ _ | refine blk_drew ?_ | refine blk_alloc ?_ _)); exact BK101.out)) : gb101 ≠ gb102)); have n6_ := Aside0.mk ((by rw [hg]; exact Nat.ne_of_gt (blk_lt (g := gb101) (o := .cells #[.int .u8 0, .string (⟨#[]⟩ : ByteArray), .int .i64 0, .string (⟨#[]⟩ : ByteArray), .int .u8 0, .slice none 0 0] 63 (0, 0)) (by (with_reducible repeat (first | refine blk_drewN ?_ _ | refine blk_drew ?_ | refine blk_alloc ?_ _)); exact BK101.out)) : gb102 ≠ gb101)); clear BK101; clear HB; have BK101 := n0_; have HB := n1_; have BK102 := n2_; have GW102 := n3_; have GE102 := n4_; have NB101_102 := n5_; have NB102_101 := n6_; clear n0_ n1_ n2_ n3_ n4_ n5_ n6_; clear hb hbox hg; have hnb5 := NB102_101.out; have hnc5 := NB101_102.out; have hcz6_0 : w4.cell? ⟨gb102, 0, none⟩ = some (.int .u8 0) := (blk_cell BK102.out 0).trans rfl; have hcz6_1 : w4.cell? ⟨gb102, 1, none⟩ = some (.string (⟨#[]⟩ : ByteArray)) := (blk_cell BK102.out 1).trans rfl; have hcz6_2 : w4.cell? ⟨gb102, 2, none⟩ = some (.int .i64 0) := (blk_cell BK102.out 2).trans rfl; have hcz6_3 : w4.cell? ⟨gb102, 3, none⟩ = some (.string (⟨#[]⟩ : ByteArray)) := (blk_cell BK102.out 3).trans rfl; have hcz6_4 : w4.cell? ⟨gb102, 4, none⟩ = some (.int .u8 0) := (blk_cell BK102.out 4).trans rfl; have hcz6_5 : w4.cell? ⟨gb102, 5, none⟩ = some (.slice none 0 0) := (blk_cell BK102.out 5).trans rfl; have hfz6_0 := blk_frozen BK102.out 0; have hfz6_1 := blk_frozen BK102.out 1; have hfz6_2 := blk_frozen BK102.out 2; have hfz6_3 := blk_frozen BK102.out 3; have hfz6_4 := blk_frozen BK102.out 4; have hfz6_5 := blk_frozen BK102.out 5; obtain ⟨i07, hi07, _, hsz7, _⟩ := info_parts info9; obtain ⟨A7, hcut7, hA7, hC7⟩ := print_drop_of (P := Tryd.prog) Value.string (⟨#[]⟩ : ByteArray) 104 9 .i64 Tryd.underlying104 hi07 hsz7 A0 c0 l0 1 (by omega) (of_decide_eq_true (by first | (with_reducible assumption) | assumption)) HC0.out; have HR103 := Aside0.mk (Kd.C_of_reads (h1 := fun _ => rfl) (hA7 _ (Kd.reads_of_C HR0.out))); have HC103 := Aside0.mk hC7; clear hA7 hC7 hi07 hsz7))
  go_loopg [10] k (fun kq v10 w' => ∃ (x10_1 : Int) (x103005_1 : List Int) (u103005 : Value), v10 = .int .i64 x10_1 ∧ Aside0 (∃ i : Nat, x10_1 = (i : Int) ∧ i ≤ (l0.drop 1).length ∧ x103005_1.length = i ∧ bytesR (l0.drop 1) = (bytesR ((l0.drop 1).drop i)).map (fun z => x103005_1 ++ z) ∧ (l0.drop 1).length + 1 ≤ kq + i) ∧ Aside0 (kq ≤ k) ∧ Aside0 (Kd.R (Kd.int .u8) 5 w' w.heap.size (fun _ => True) u103005 x103005_1) ∧ Aside0 (w'.heap[gb101]? = some (.cells #[.int .u8 0, .string (⟨#[]⟩ : ByteArray), .int .i64 0, .string (⟨#[]⟩ : ByteArray), .int .u8 0, (.slice none 0 0)] 63 (0, 0))) ∧ Aside0 (w'.heap[gb102]? = some (.cells #[.int .u8 3, .string (⟨#[]⟩ : ByteArray), .int .i64 0, .string (⟨#[]⟩ : ByteArray), .int .u8 0, u103005] 63 (0, 0))) ∧ Aside0 (Below w.heap.size w w'))
  case atStart => exact ⟨(0), (([] : List Int)), (.slice none 0 0), (by first | rfl | (simp; done) | (simp [*]; done)), ⟨⟨0, rfl, Nat.zero_le _, rfl, by simp, by have := HKK.out; omega⟩⟩, ⟨Nat.le_refl _⟩, ⟨by first | exact Kd.R_nil _ _ _ _ _ | exact Kd.N_nil _ _ _ _ _ | exact Kd.V_nil _ _ _ _ _ | exact Kd.Q_nil _ _ _ _ _ | exact Kd.S_nil _ _ _ _ _⟩, ⟨by (with_reducible repeat (first | refine blk_drewN ?_ _ | refine blk_drew ?_ | refine blk_alloc ?_ _)); refine blk_far ?_ NB101_102.out _; (with_reducible repeat (first | refine blk_drewN ?_ _ | refine blk_drew ?_ | refine blk_alloc ?_ _)); refine blk_far ?_ NB101_102.out _; (with_reducible repeat (first | refine blk_drewN ?_ _ | refine blk_drew ?_ | refine blk_alloc ?_ _)); refine blk_far ?_ NB101_102.out _; (with_reducible repeat (first | refine blk_drewN ?_ _ | refine blk_drew ?_ | refine blk_alloc ?_ _)); refine blk_far ?_ NB101_102.out _; (with_reducible repeat (first | refine blk_drewN ?_ _ | refine blk_drew ?_ | refine blk_alloc ?_ _)); refine blk_far ?_ NB101_102.out _; (with_reducible repeat (first | refine blk_drewN ?_ _ | refine blk_drew ?_ | refine blk_alloc ?_ _)); refine blk_far ?_ NB101_102.out _; (with_reducible repeat (first | refine blk_drewN ?_ _ | refine blk_drew ?_ | refine blk_alloc ?_ _)); exact BK101.out⟩, ⟨by (with_reducible repeat (first | refine blk_drewN ?_ _ | refine blk_drew ?_ | refine blk_alloc ?_ _)); refine blk_put (cs := #[.int .u8 3, .string (⟨#[]⟩ : ByteArray), .int .i64 0, .string (⟨#[]⟩ : ByteArray), .int .u8 0, .slice none 0 0]) ?_ 5 _ rfl; (with_reducible repeat (first | refine blk_drewN ?_ _ | refine blk_drew ?_ | refine blk_alloc ?_ _)); refine blk_put (cs := #[.int .u8 3, .string (⟨#[]⟩ : ByteArray), .int .i64 0, .string (⟨#[]⟩ : ByteArray), .int .u8 0, .slice none 0 0]) ?_ 4 _ rfl; (with_reducible repeat (first | refine blk_drewN ?_ _ | refine blk_drew ?_ | refine blk_alloc ?_ _)); refine blk_put (cs := #[.int .u8 3, .string (⟨#[]⟩ : ByteArray), .int .i64 0, .string (⟨#[]⟩ : ByteArray), .int .u8 0, .slice none 0 0]) ?_ 3 _ rfl; (with_reducible repeat (first | refine blk_drewN ?_ _ | refine blk_drew ?_ | refine blk_alloc ?_ _)); refine blk_put (cs := #[.int .u8 3, .string (⟨#[]⟩ : ByteArray), .int .i64 0, .string (⟨#[]⟩ : ByteArray), .int .u8 0, .slice none 0 0]) ?_ 2 _ rfl; (with_reducible repeat (first | refine blk_drewN ?_ _ | refine blk_drew ?_ | refine blk_alloc ?_ _)); refine blk_put (cs := #[.int .u8 3, .string (⟨#[]⟩ : ByteArray), .int .i64 0, .string (⟨#[]⟩ : ByteArray), .int .u8 0, .slice none 0 0]) ?_ 1 _ rfl; (with_reducible repeat (first | refine blk_drewN ?_ _ | refine blk_drew ?_ | refine blk_alloc ?_ _)); refine blk_put (cs := #[.int .u8 0, .string (⟨#[]⟩ : ByteArray), .int .i64 0, .string (⟨#[]⟩ : ByteArray), .int .u8 0, .slice none 0 0]) ?_ 0 _ rfl; (with_reducible repeat (first | refine blk_drewN ?_ _ | refine blk_drew ?_ | refine blk_alloc ?_ _)); exact BK102.out⟩, ⟨by repeat (first | (with_reducible first | exact HB.out | apply below_alloc | apply pw_below_drewN | apply below_drew1 | refine below_set ?_ GE101.out | refine below_set ?_ GE102.out) | exact HB.out)⟩⟩
  case round =>
    try clear c1
    try clear c2
    try clear c2b0
    try clear c2b1
    try clear p2
    try clear c5
    try clear hcz6_0
    try clear hcz6_1
    try clear hcz6_2
    try clear hcz6_3
    try clear hcz6_4
    try clear hcz6_5
    try clear hfz6_0
    try clear hfz6_1
    try clear hfz6_2
    try clear hfz6_3
    try clear hfz6_4
    try clear hfz6_5
    obtain ⟨x10_1, x103005_1, u103005, rfl, HA, HK1, HO_103005, BK101, BK102, HB⟩ := hrel
    cases gk with
    | zero => exact absurd HA.out (by rintro ⟨i, _, h2, _, _, h5⟩; omega)
    | succ k1 =>
      obtain ⟨i, hx, hi, hxl, hrec, hkk⟩ := HA.out
      clear HA
      by_cases c8 : i < (l0.drop 1).length
      · have c8b0 : decide (x10_1 < ((l0.drop 1).length : Int)) = true := decide_eq_true (by omega)
        have c8q : decide (x10_1 < ((l0.length - 1 : Nat) : Int)) = true := by rw [List.length_drop] at c8b0; exact c8b0
        have c8r : (x10_1 < ((l0.length - 1 : Nat) : Int)) = True := eq_true (of_decide_eq_true c8q)
        have c9b0 : decide (0 ≤ x10_1) = true := decide_eq_true (by omega)
        have LM : Aside0 (x103005_1.length < 140737488355328) := ⟨by have := HLL.out; have e : (l0.drop 1).length = l0.length - 1 := List.length_drop; omega⟩
        cases hn : numR ((rdOf ByteArray.empty (l0.drop 1) x10_1)).data.toList 2 with
        | some nn =>
          have HN := Aside0.mk hn
          obtain ⟨y106, hy⟩ : ∃ y_ : List Int, y_ = (x103005_1 ++ [((nn : Int)) % 256]) := ⟨_, rfl⟩
          have Ny106 := Aside0.mk hy
          have H' : Aside0 (∃ i : Nat, wrap64 (x10_1 + 1) = (i : Int) ∧ i ≤ (l0.drop 1).length ∧ y106.length = i ∧ bytesR (l0.drop 1) = (bytesR ((l0.drop 1).drop i)).map (fun z => y106 ++ z) ∧ (l0.drop 1).length + 1 ≤ k1 + i) := ⟨i + 1, by
            have := HLL.out
            have e : (l0.drop 1).length = l0.length - 1 := List.length_drop
            rw [hx]; unfold wrap64; omega, by omega, by rw [hy, List.length_append, hxl]; rfl, by
            rw [hx] at hn
            rw [hrec, bytesR_some c8 hn, hy, Option.map_map]
            congr 1
            funext z
            simp, by omega⟩
          clear hy hn hx hi hxl hrec hkk c8
          have p104 : 0 ≤ (x10_1 : Int) := of_decide_eq_true (by first | (with_reducible assumption) | assumption)
          have q104 : x10_1 < ((l0.drop 1).length : Int) := of_decide_eq_true (by first | (with_reducible assumption) | assumption)
          obtain ⟨ad104, e104, hx104_0⟩ := Kd.at_string HR103.out x10_1 p104 q104
          cases e104
          replace hx104_0 := (HB.out.cell (World.block_lt_of_cell? w _ hx104_0)).trans hx104_0
          replace p104 := eq_true p104
          replace q104 := eq_true q104
          try go_wp2
          have n0_ := Aside0.mk (Kd.R_drew HO_103005.out)
          have n1_ := Aside0.mk (blk_drew BK101.out)
          have n2_ := Aside0.mk (blk_drew BK102.out)
          have n3_ := Aside0.mk (below_drew1 HB.out)
          clear HO_103005
          clear BK101
          clear BK102
          clear HB
          have HO_103005 := n0_
          have BK101 := n1_
          have BK102 := n2_
          have HB := n3_
          clear n0_ n1_ n2_ n3_
          refine start_ (n := 9) (S := fun w' => w'.cell? ⟨gb102, 0, none⟩ = some (.int .u8 3) ∧ w'.cell? ⟨gb102, 1, none⟩ = some (.string (⟨#[]⟩ : ByteArray)) ∧ w'.cell? ⟨gb102, 2, none⟩ = some (.int .i64 0) ∧ w'.cell? ⟨gb102, 3, none⟩ = some (.string (⟨#[]⟩ : ByteArray)) ∧ w'.cell? ⟨gb102, 4, none⟩ = some (.int .u8 0) ∧ w'.cell? ⟨gb102, 5, none⟩ = some (u103005)) (ds := [8]) #[false, false, false, false, false, false, false, false, false] (by kernel_rfl) rfl rfl ⟨(blk_cell BK102.out 0).trans rfl, (blk_cell BK102.out 1).trans rfl, (blk_cell BK102.out 2).trans rfl, (blk_cell BK102.out 3).trans rfl, (blk_cell BK102.out 4).trans rfl, (blk_cell BK102.out 5).trans rfl⟩ (fun hHeld => ?_); refine with_tabW dataW.tab5 dataW.bits5 (fun HT_ HW_ => ?_)
          generalize wr.drew = w13 at HO_103005 BK101 BK102 HB hHeld ⊢
          refine pure_ (i := 0) (N := some 14) (v := ?_) (a' := ?_) #[true, false, false, false, false, false, false, false, false] rfl rfl (any_of HT_.out (by kernel_rfl)) (fun _ _ _ h => h) (Or.inl ⟨by rfl, ?_⟩) ?_ ?_
          rotate_left
          · intro w'
            go_simp
            with_reducible rfl
          rotate_left
          · simp only [Act.put, List.setIfInBounds_toArray, List.set_cons_zero, List.set_cons_succ, i64_w, i32_w]
            rfl
          refine pure_ (i := 2) (N := some 16) (v := ?_) (a' := ?_) #[true, false, true, false, false, false, false, false, false] rfl rfl (any_of HT_.out (by kernel_rfl)) (fun _ _ _ h => h) (Or.inl ⟨by rfl, ?_⟩) ?_ ?_
          rotate_left
          · intro w'
            go_simp
            with_reducible rfl
          rotate_left
          · simp only [Act.put, List.setIfInBounds_toArray, List.set_cons_zero, List.set_cons_succ, i64_w, i32_w]
            rfl
          refine take_ (i := 1) (N := some 15) (v := ?_) (a' := ?_) #[true, true, true, false, false, false, false, false, false] rfl rfl (take_ofW HT_.out HW_.out (by kernel_rfl)) (fun _ _ _ h => h) (Or.inl ⟨by rfl, ?_⟩) hHeld ?_ ?_
          rotate_left
          · rintro w' ⟨s0, s1, s2, s3, s4, s5⟩
            go_simp
            with_reducible rfl
          rotate_left
          · simp only [Act.put, List.setIfInBounds_toArray, List.set_cons_zero, List.set_cons_succ, i64_w, i32_w]
            rfl
          refine one_ (i := 3) (N := some 17) #[true, true, true, true, false, false, false, false, false] rfl rfl (one_of HT_.out (by kernel_rfl)) (by decide) (fun K hK => ?_)
          refine goes_ Tryd.func117 (by kernel_rfl) rfl #[.string (rdOf ByteArray.empty (l0.drop 1) x10_1), .int .i64 2] (by rfl) rfl rfl (by (try simp only [List.map_toArray, List.map_cons, List.map_nil]); first | done | rfl | (simp only [← List.drop_one]; rfl) | (simp only [List.length_drop, List.length_take]; rfl)) ?_
          refine (numb_calls (rdOf ByteArray.empty (l0.drop 1) x10_1) 2 _).mono ?_
          rintro e w14 ⟨he, hb⟩; rw [show numR ((rdOf ByteArray.empty (l0.drop 1) x10_1)).data.toList 2 = some nn from HN.out] at he; replace he : e = .returned (.int .i64 (nn : Int)) := he; subst he
          refine ⟨_, rfl, ?_⟩
          have n0_ := Aside0.mk (Kd.R_below (by (with_reducible repeat (first | apply Kd.R_alloc | apply Kd.R_drewN | apply Kd.R_drew)); exact HO_103005.out) hb)
          have n1_ := Aside0.mk (blk_below (g := gb101) (o := .cells #[.int .u8 0, .string (⟨#[]⟩ : ByteArray), .int .i64 0, .string (⟨#[]⟩ : ByteArray), .int .u8 0, .slice none 0 0] 63 (0, 0)) (by (with_reducible repeat (first | refine blk_drewN ?_ _ | refine blk_drew ?_ | refine blk_alloc ?_ _)); exact BK101.out) hb)
          have n2_ := Aside0.mk (blk_below (g := gb102) (o := .cells #[.int .u8 3, .string (⟨#[]⟩ : ByteArray), .int .i64 0, .string (⟨#[]⟩ : ByteArray), .int .u8 0, u103005] 63 (0, 0)) (by (with_reducible repeat (first | refine blk_drewN ?_ _ | refine blk_drew ?_ | refine blk_alloc ?_ _)); exact BK102.out) hb)
          have n3_ := Aside0.mk (below_step (by repeat (first | (with_reducible first | exact HB.out | apply below_alloc | apply pw_below_drewN | apply below_drew1 | refine below_set ?_ GE101.out | refine below_set ?_ GE102.out) | exact HB.out)) hb)
          clear HO_103005
          clear BK101
          clear BK102
          clear HB
          have HO_103005 := n0_
          have BK101 := n1_
          have BK102 := n2_
          have HB := n3_
          clear n0_ n1_ n2_ n3_
          (try clear hb)
          (try clear hb2)
          (try clear hk)
          (try clear hi)
          refine hK.out _ _ ⟨(blk_cell BK102.out 0).trans rfl, (blk_cell BK102.out 1).trans rfl, (blk_cell BK102.out 2).trans rfl, (blk_cell BK102.out 3).trans rfl, (blk_cell BK102.out 4).trans rfl, (blk_cell BK102.out 5).trans rfl⟩ (fun hHeld => ?_)
          clear hK K
          refine norm_ (a' := ?_) ?_ ?_
          rotate_left
          · show Act.put _ (some 17) _ = _
            simp only [Act.put, List.setIfInBounds_toArray, List.set_cons_zero, List.set_cons_succ, i64_w, i32_w]
            rfl
          refine pure_ (i := 4) (N := some 18) (v := ?_) (a' := ?_) #[true, true, true, true, true, false, false, false, false] rfl rfl (any_of HT_.out (by kernel_rfl)) (fun _ _ _ h => h) (Or.inl ⟨by rfl, ?_⟩) ?_ ?_
          rotate_left
          · intro w'
            go_simp
            with_reducible rfl
          rotate_left
          · simp only [Act.put, List.setIfInBounds_toArray, List.set_cons_zero, List.set_cons_succ, i64_w, i32_w]
            rfl
          refine one_ (i := 5) (N := some 19) #[true, true, true, true, true, true, false, false, false] rfl rfl (one_of HT_.out (by kernel_rfl)) (by decide) (fun K hK => ?_)
          refine value_ (w1 := ?_) (v := ?_) (by rfl) rfl ?_ ?_
          rotate_left 2
          · go_simp
            constructor
            · rfl
            · rfl
          refine hK.out _ _ ⟨(blk_cell (blk_alloc BK102.out _) 0).trans rfl, (blk_cell (blk_alloc BK102.out _) 1).trans rfl, (blk_cell (blk_alloc BK102.out _) 2).trans rfl, (blk_cell (blk_alloc BK102.out _) 3).trans rfl, (blk_cell (blk_alloc BK102.out _) 4).trans rfl, (blk_cell (blk_alloc BK102.out _) 5).trans rfl⟩ (fun hHeld => ?_)
          clear hK K
          refine norm_ (a' := ?_) ?_ ?_
          rotate_left
          · show Act.put _ (some 19) _ = _
            simp only [Act.put, List.setIfInBounds_toArray, List.set_cons_zero, List.set_cons_succ, i64_w, i32_w]
            rfl
          refine one_ (i := 6) (N := some 20) #[true, true, true, true, true, true, true, false, false] rfl rfl (one_of HT_.out (by kernel_rfl)) (by decide) (fun K hK => ?_)
          refine Kd.R_append_step (Kd.int .u8) (w0 := w) w.heap.size (by rfl) (.tmp 15) (.tmp 19) 33 5 (.int .u8 0) 1 rfl Tryd.underlying33 info5 rfl (by decide) (by omega) u103005 x103005_1 (((nn : Int)) % 256) [.int .u8 (((nn : Int)) % 256)] (fun _ => True) (fun _ => False) rfl rfl ?aP (fun _ hk => hk.elim) ?aF ?aO ?aB ?aS ?aL ?_
          (case aP => exact rfl)
          (case aB => exact (by repeat (first | (with_reducible first | exact HB.out | apply below_alloc | apply pw_below_drewN | apply below_drew1 | refine below_set ?_ GE101.out | refine below_set ?_ GE102.out) | exact HB.out)))
          (case aF => exact (fun _ _ => trivial))
          (case aO => exact (by (with_reducible repeat (first | apply Kd.R_alloc | apply Kd.R_drewN | apply Kd.R_drew)); exact HO_103005.out))
          (case aS => exact (below_size (by repeat (first | (with_reducible first | exact HB.out | apply below_alloc | apply pw_below_drewN | apply below_drew1 | refine below_set ?_ GE101.out | refine below_set ?_ GE102.out) | exact HB.out))))
          (case aL => have := LM.out; omega)
          intro v107 w15 ho hb hg hat
          rw [← Ny106.out] at ho
          have n0_ := Aside0.mk (blk_grown (g := gb101) (o := .cells #[.int .u8 0, .string (⟨#[]⟩ : ByteArray), .int .i64 0, .string (⟨#[]⟩ : ByteArray), .int .u8 0, .slice none 0 0] 63 (0, 0)) (by (with_reducible repeat (first | refine blk_drewN ?_ _ | refine blk_drew ?_ | refine blk_alloc ?_ _)); exact BK101.out) hg (Kd.R_ne HO_103005.out BK101.out (by decide)))
          have n1_ := Aside0.mk (blk_grown (g := gb102) (o := .cells #[.int .u8 3, .string (⟨#[]⟩ : ByteArray), .int .i64 0, .string (⟨#[]⟩ : ByteArray), .int .u8 0, u103005] 63 (0, 0)) (by (with_reducible repeat (first | refine blk_drewN ?_ _ | refine blk_drew ?_ | refine blk_alloc ?_ _)); exact BK102.out) hg (Kd.R_ne HO_103005.out BK102.out (by decide)))
          have n2_ := Aside0.mk (hb)
          have n3_ := Aside0.mk (ho)
          clear BK101
          clear BK102
          clear HB
          clear HO_103005
          have BK101 := n0_
          have BK102 := n1_
          have HB := n2_
          have HO108 := n3_
          clear n0_ n1_ n2_ n3_
          clear ho hb hg hat
          obtain ⟨Ao16, co16, eo16⟩ := Kd.R_slice HO108.out
          (first | subst eo16 | (injection eo16 with f1_ f2_ f3_; have f4_ := f1_.symm; have f5_ := f3_.symm; clear f1_ f2_ f3_; subst f4_; subst f5_))
          refine hK.out _ _ ⟨(blk_cell BK102.out 0).trans rfl, (blk_cell BK102.out 1).trans rfl, (blk_cell BK102.out 2).trans rfl, (blk_cell BK102.out 3).trans rfl, (blk_cell BK102.out 4).trans rfl, (blk_cell BK102.out 5).trans rfl⟩ (fun hHeld => ?_)
          clear hK K
          refine norm_ (a' := ?_) ?_ ?_
          rotate_left
          · show Act.put _ (some 20) _ = _
            simp only [Act.put, List.setIfInBounds_toArray, List.set_cons_zero, List.set_cons_succ, i64_w, i32_w]
            rfl
          refine pure_ (i := 7) (N := some 21) (v := ?_) (a' := ?_) #[true, true, true, true, true, true, true, true, false] rfl rfl (any_of HT_.out (by kernel_rfl)) (fun _ _ _ h => h) (Or.inl ⟨by rfl, ?_⟩) ?_ ?_
          rotate_left
          · intro w'
            go_simp
            with_reducible rfl
          rotate_left
          · simp only [Act.put, List.setIfInBounds_toArray, List.set_cons_zero, List.set_cons_succ, i64_w, i32_w]
            rfl
          refine last_ (i := 8) (N := none) #[true, true, true, true, true, true, true, true, true] rfl rfl (one_of HT_.out (by kernel_rfl)) (by decide) (fun K hK => ?_)
          have hs17 : w15.cell? ⟨gb102, 5, none⟩ = some (u103005) := (blk_cell BK102.out 5).trans rfl
          have hfs17 := blk_frozen BK102.out 5
          have hns17_0 := NB101_102.out
          have hms17_0 := NB102_101.out
          refine skip_ (w1 := ?_) (by rfl) rfl ?_ ?_
          rotate_left
          · go_simp
            rfl
          refine hK.out _ _ ?_
          clear hK K
          refine done_ (done_of HT_.out (by kernel_rfl)) ?_
          try go_wp2
          go_roundg k1
          case measure => have := HK1.out; omega
          case rel => exact ⟨(wrap64 (x10_1 + 1)), (y106), (.slice Ao16 y106.length co16), (by first | rfl | (simp; done) | (simp [*]; done)), H', ⟨by have := HK1.out; omega⟩, ⟨by (with_reducible repeat (first | apply Kd.R_alloc | apply Kd.R_drewN | apply Kd.R_drew)); exact Kd.R_mono (Kd.R_far (p := ⟨gb102, 5, none⟩) (Kd.R_types HO108.out BK102.out (by decide)) (fun _ hk => hk.2) (.slice Ao16 y106.length co16)) (fun _ hk => trivial)⟩, ⟨by (with_reducible repeat (first | refine blk_drewN ?_ _ | refine blk_drew ?_ | refine blk_alloc ?_ _)); refine blk_far ?_ NB101_102.out _; (with_reducible repeat (first | refine blk_drewN ?_ _ | refine blk_drew ?_ | refine blk_alloc ?_ _)); exact BK101.out⟩, ⟨by (with_reducible repeat (first | refine blk_drewN ?_ _ | refine blk_drew ?_ | refine blk_alloc ?_ _)); refine blk_put (cs := #[.int .u8 3, .string (⟨#[]⟩ : ByteArray), .int .i64 0, .string (⟨#[]⟩ : ByteArray), .int .u8 0, u103005]) ?_ 5 _ rfl; (with_reducible repeat (first | refine blk_drewN ?_ _ | refine blk_drew ?_ | refine blk_alloc ?_ _)); exact BK102.out⟩, ⟨by repeat (first | (with_reducible first | exact HB.out | apply below_alloc | apply pw_below_drewN | apply below_drew1 | refine below_set ?_ GE101.out | refine below_set ?_ GE102.out) | exact HB.out)⟩⟩
        | none =>
          have HN := Aside0.mk hn
          have HP : Aside0 (dataR l0 = none) := ⟨by
            rw [hx] at hn
            unfold dataR
            rw [hrec, bytesR_none c8 hn]; rfl⟩
          clear hn hx hi hxl hrec hkk c8
          have p104 : 0 ≤ (x10_1 : Int) := of_decide_eq_true (by first | (with_reducible assumption) | assumption)
          have q104 : x10_1 < ((l0.drop 1).length : Int) := of_decide_eq_true (by first | (with_reducible assumption) | assumption)
          obtain ⟨ad104, e104, hx104_0⟩ := Kd.at_string HR103.out x10_1 p104 q104
          cases e104
          replace hx104_0 := (HB.out.cell (World.block_lt_of_cell? w _ hx104_0)).trans hx104_0
          replace p104 := eq_true p104
          replace q104 := eq_true q104
          try go_wp2
          have n0_ := Aside0.mk (Kd.R_drew HO_103005.out)
          have n1_ := Aside0.mk (blk_drew BK101.out)
          have n2_ := Aside0.mk (blk_drew BK102.out)
          have n3_ := Aside0.mk (below_drew1 HB.out)
          clear HO_103005
          clear BK101
          clear BK102
          clear HB
          have HO_103005 := n0_
          have BK101 := n1_
          have BK102 := n2_
          have HB := n3_
          clear n0_ n1_ n2_ n3_
          refine start_ (n := 9) (S := fun w' => w'.cell? ⟨gb102, 0, none⟩ = some (.int .u8 3) ∧ w'.cell? ⟨gb102, 1, none⟩ = some (.string (⟨#[]⟩ : ByteArray)) ∧ w'.cell? ⟨gb102, 2, none⟩ = some (.int .i64 0) ∧ w'.cell? ⟨gb102, 3, none⟩ = some (.string (⟨#[]⟩ : ByteArray)) ∧ w'.cell? ⟨gb102, 4, none⟩ = some (.int .u8 0) ∧ w'.cell? ⟨gb102, 5, none⟩ = some (u103005)) (ds := [8]) #[false, false, false, false, false, false, false, false, false] (by kernel_rfl) rfl rfl ⟨(blk_cell BK102.out 0).trans rfl, (blk_cell BK102.out 1).trans rfl, (blk_cell BK102.out 2).trans rfl, (blk_cell BK102.out 3).trans rfl, (blk_cell BK102.out 4).trans rfl, (blk_cell BK102.out 5).trans rfl⟩ (fun hHeld => ?_); refine with_tabW dataW.tab5 dataW.bits5 (fun HT_ HW_ => ?_)
          generalize wr.drew = w13 at HO_103005 BK101 BK102 HB hHeld ⊢
          refine pure_ (i := 0) (N := some 14) (v := ?_) (a' := ?_) #[true, false, false, false, false, false, false, false, false] rfl rfl (any_of HT_.out (by kernel_rfl)) (fun _ _ _ h => h) (Or.inl ⟨by rfl, ?_⟩) ?_ ?_
          rotate_left
          · intro w'
            go_simp
            with_reducible rfl
          rotate_left
          · simp only [Act.put, List.setIfInBounds_toArray, List.set_cons_zero, List.set_cons_succ, i64_w, i32_w]
            rfl
          refine pure_ (i := 2) (N := some 16) (v := ?_) (a' := ?_) #[true, false, true, false, false, false, false, false, false] rfl rfl (any_of HT_.out (by kernel_rfl)) (fun _ _ _ h => h) (Or.inl ⟨by rfl, ?_⟩) ?_ ?_
          rotate_left
          · intro w'
            go_simp
            with_reducible rfl
          rotate_left
          · simp only [Act.put, List.setIfInBounds_toArray, List.set_cons_zero, List.set_cons_succ, i64_w, i32_w]
            rfl
          refine take_ (i := 1) (N := some 15) (v := ?_) (a' := ?_) #[true, true, true, false, false, false, false, false, false] rfl rfl (take_ofW HT_.out HW_.out (by kernel_rfl)) (fun _ _ _ h => h) (Or.inl ⟨by rfl, ?_⟩) hHeld ?_ ?_
          rotate_left
          · rintro w' ⟨s0, s1, s2, s3, s4, s5⟩
            go_simp
            with_reducible rfl
          rotate_left
          · simp only [Act.put, List.setIfInBounds_toArray, List.set_cons_zero, List.set_cons_succ, i64_w, i32_w]
            rfl
          refine one_ (i := 3) (N := some 17) #[true, true, true, true, false, false, false, false, false] rfl rfl (one_of HT_.out (by kernel_rfl)) (by decide) (fun K hK => ?_)
          refine goesP_ Tryd.func117 (by kernel_rfl) rfl #[.string (rdOf ByteArray.empty (l0.drop 1) x10_1), .int .i64 2] (by rfl) rfl rfl (by (try simp only [List.map_toArray, List.map_cons, List.map_nil]); first | done | rfl | (simp only [← List.drop_one]; rfl) | (simp only [List.length_drop, List.length_take]; rfl)) ?_
          refine (numb_calls (rdOf ByteArray.empty (l0.drop 1) x10_1) 2 _).mono ?_
          rintro e w14 ⟨he, hb⟩
          rw [show numR ((rdOf ByteArray.empty (l0.drop 1) x10_1)).data.toList 2 = none from HN.out] at he
          replace he : e = .panicked noneP := he
          subst he
          refine ⟨_, rfl, ?_⟩
          refine ⟨rfl, ?_⟩
          rw [HP.out]
          exact ⟨rfl, below_step HB.out hb⟩
      · have c8b0 : decide (x10_1 < ((l0.drop 1).length : Int)) = false := decide_eq_false (by omega)
        have c8q : decide (x10_1 < ((l0.length - 1 : Nat) : Int)) = false := by rw [List.length_drop] at c8b0; exact c8b0
        have HP : Aside0 (dataR l0 = some ⟨3, ⟨#[]⟩, 0, ⟨#[]⟩, 0, x103005_1⟩) := ⟨by
          unfold dataR
          rw [hrec, List.drop_of_length_le (by omega)]
          simp [bytesR]⟩
        clear hx hi hxl hrec hkk c8
        have hnb18 := NB102_101.out
        have hnc18 := NB101_102.out
        have hcz19_0 : wr.cell? ⟨gb102, 0, none⟩ = some (.int .u8 3) := (blk_cell BK102.out 0).trans rfl
        have hcz19_1 : wr.cell? ⟨gb102, 1, none⟩ = some (.string (⟨#[]⟩ : ByteArray)) := (blk_cell BK102.out 1).trans rfl
        have hcz19_2 : wr.cell? ⟨gb102, 2, none⟩ = some (.int .i64 0) := (blk_cell BK102.out 2).trans rfl
        have hcz19_3 : wr.cell? ⟨gb102, 3, none⟩ = some (.string (⟨#[]⟩ : ByteArray)) := (blk_cell BK102.out 3).trans rfl
        have hcz19_4 : wr.cell? ⟨gb102, 4, none⟩ = some (.int .u8 0) := (blk_cell BK102.out 4).trans rfl
        have hcz19_5 : wr.cell? ⟨gb102, 5, none⟩ = some (u103005) := (blk_cell BK102.out 5).trans rfl
        have hfz19_0 := blk_frozen BK102.out 0
        have hfz19_1 := blk_frozen BK102.out 1
        have hfz19_2 := blk_frozen BK102.out 2
        have hfz19_3 := blk_frozen BK102.out 3
        have hfz19_4 := blk_frozen BK102.out 4
        have hfz19_5 := blk_frozen BK102.out 5
        have hcz20_0 : wr.cell? ⟨gb101, 0, none⟩ = some (.int .u8 0) := (blk_cell BK101.out 0).trans rfl
        have hcz20_1 : wr.cell? ⟨gb101, 1, none⟩ = some (.string (⟨#[]⟩ : ByteArray)) := (blk_cell BK101.out 1).trans rfl
        have hcz20_2 : wr.cell? ⟨gb101, 2, none⟩ = some (.int .i64 0) := (blk_cell BK101.out 2).trans rfl
        have hcz20_3 : wr.cell? ⟨gb101, 3, none⟩ = some (.string (⟨#[]⟩ : ByteArray)) := (blk_cell BK101.out 3).trans rfl
        have hcz20_4 : wr.cell? ⟨gb101, 4, none⟩ = some (.int .u8 0) := (blk_cell BK101.out 4).trans rfl
        have hcz20_5 : wr.cell? ⟨gb101, 5, none⟩ = some (.slice none 0 0) := (blk_cell BK101.out 5).trans rfl
        have hfz20_0 := blk_frozen BK101.out 0
        have hfz20_1 := blk_frozen BK101.out 1
        have hfz20_2 := blk_frozen BK101.out 2
        have hfz20_3 := blk_frozen BK101.out 3
        have hfz20_4 := blk_frozen BK101.out 4
        have hfz20_5 := blk_frozen BK101.out 5
        obtain ⟨Ao21, co21, eo21⟩ := Kd.R_slice HO_103005.out
        subst eo21
        go_wp2
        refine bodyPost_ret (results_cell_row rfl _ _ gb101 63 #[.int .u8 3, .string (⟨#[]⟩ : ByteArray), .int .i64 0, .string (⟨#[]⟩ : ByteArray), .int .u8 0, .slice Ao21 x103005_1.length co21] (0, 0) _ rfl (by (with_reducible repeat (first | refine blk_drewN ?_ _ | refine blk_drew ?_ | refine blk_alloc ?_ _)); refine blk_put (cs := #[.int .u8 3, .string (⟨#[]⟩ : ByteArray), .int .i64 0, .string (⟨#[]⟩ : ByteArray), .int .u8 0, .slice none 0 0]) ?_ 5 _ rfl; (with_reducible repeat (first | refine blk_drewN ?_ _ | refine blk_drew ?_ | refine blk_alloc ?_ _)); refine blk_put (cs := #[.int .u8 3, .string (⟨#[]⟩ : ByteArray), .int .i64 0, .string (⟨#[]⟩ : ByteArray), .int .u8 0, .slice none 0 0]) ?_ 4 _ rfl; (with_reducible repeat (first | refine blk_drewN ?_ _ | refine blk_drew ?_ | refine blk_alloc ?_ _)); refine blk_put (cs := #[.int .u8 3, .string (⟨#[]⟩ : ByteArray), .int .i64 0, .string (⟨#[]⟩ : ByteArray), .int .u8 0, .slice none 0 0]) ?_ 3 _ rfl; (with_reducible repeat (first | refine blk_drewN ?_ _ | refine blk_drew ?_ | refine blk_alloc ?_ _)); refine blk_put (cs := #[.int .u8 3, .string (⟨#[]⟩ : ByteArray), .int .i64 0, .string (⟨#[]⟩ : ByteArray), .int .u8 0, .slice none 0 0]) ?_ 2 _ rfl; (with_reducible repeat (first | refine blk_drewN ?_ _ | refine blk_drew ?_ | refine blk_alloc ?_ _)); refine blk_put (cs := #[.int .u8 3, .string (⟨#[]⟩ : ByteArray), .int .i64 0, .string (⟨#[]⟩ : ByteArray), .int .u8 0, .slice none 0 0]) ?_ 1 _ rfl; (with_reducible repeat (first | refine blk_drewN ?_ _ | refine blk_drew ?_ | refine blk_alloc ?_ _)); refine blk_put (cs := #[.int .u8 0, .string (⟨#[]⟩ : ByteArray), .int .i64 0, .string (⟨#[]⟩ : ByteArray), .int .u8 0, .slice none 0 0]) ?_ 0 _ rfl; (with_reducible repeat (first | refine blk_drewN ?_ _ | refine blk_drew ?_ | refine blk_alloc ?_ _)); exact BK101.out) Tryd.underlying63 rfl (by kernel_rfl)) rfl ?_
        rw [HP.out]
        exact ⟨⟨_, rfl, by (with_reducible repeat (first | apply Kd.R_alloc | apply Kd.R_drewN | apply Kd.R_drew)); exact Kd.R_mono (Kd.R_far (p := ⟨gb101, 5, none⟩) (Kd.R_far (p := ⟨gb101, 4, none⟩) (Kd.R_far (p := ⟨gb101, 3, none⟩) (Kd.R_far (p := ⟨gb101, 2, none⟩) (Kd.R_far (p := ⟨gb101, 1, none⟩) (Kd.R_far (p := ⟨gb101, 0, none⟩) (Kd.R_types HO_103005.out BK101.out (by decide)) (fun _ hk => hk.2) (.int .u8 3)) (fun _ hk => hk.2) (.string (⟨#[]⟩ : ByteArray))) (fun _ hk => hk.2) (.int .i64 0)) (fun _ hk => hk.2) (.string (⟨#[]⟩ : ByteArray))) (fun _ hk => hk.2) (.int .u8 0)) (fun _ hk => hk.2) (.slice Ao21 x103005_1.length co21)) (fun _ hk => trivial)⟩, by repeat (first | (with_reducible first | exact HB.out | apply below_alloc | apply pw_below_drewN | apply below_drew1 | refine below_set ?_ GE101.out | refine below_set ?_ GE102.out) | exact HB.out)⟩
end Go.Proofs.YthnafgffanlnfaaDoor.PSrc
namespace Go.Proofs.YthnafgffanlnfaaDoor.PSrc
open Go.RowKit Go.Proofs.YthnafgffanlnfaaDoorW.PrintWords Go.Proofs.YthnafgffanlnfaaDoorW.PrintLast Go.Proofs.YthnafgffanlnfaaDoorW.PrintMore
set_option linter.unusedVariables false
set_option linter.unusedSimpArgs false
def wTo : ByteArray := ⟨#[116, 111]⟩
def wHigh : ByteArray := ⟨#[104, 105, 103, 104]⟩
def wLow : ByteArray := ⟨#[108, 111, 119]⟩
def partOf (b : List UInt8) : Nat := if b = [116, 111] then 1 else if b = [104, 105, 103, 104] then 2 else if b = [108, 111, 119] then 3 else 0
def partUp (b : List UInt8) (k : Nat) : Nat := if partOf b < k then partOf b else 0
theorem partOf_le (b : List UInt8) : partOf b ≤ 3 := by
  unfold partOf; repeat' split
  all_goals omega
theorem partOf_1 (b : List UInt8) : partOf b = 1 ↔ b = [116, 111] := by
  unfold partOf
  constructor
  · intro h; split at h
    · assumption
    · split at h
      · omega
      · split at h <;> omega
  · rintro rfl; rfl
theorem partOf_2 (b : List UInt8) : partOf b = 2 ↔ b = [104, 105, 103, 104] := by
  unfold partOf
  constructor
  · intro h; split at h
    · omega
    · split at h
      · assumption
      · split at h <;> omega
  · rintro rfl; rfl
theorem partOf_3 (b : List UInt8) : partOf b = 3 ↔ b = [108, 111, 119] := by
  unfold partOf
  constructor
  · intro h; split at h
    · omega
    · split at h
      · omega
      · split at h
        · assumption
        · omega
  · rintro rfl; rfl
theorem partUp_succ (b : List UInt8) (k : Nat) (hk : 1 ≤ k) : partUp b (k + 1) = if partOf b = k then k else partUp b k := by
  unfold partUp
  by_cases h : partOf b = k
  · rw [if_pos (by omega), if_pos h, h]
  · rw [if_neg h]
    by_cases h2 : partOf b < k
    · rw [if_pos (by omega), if_pos h2]
    · rw [if_neg (by omega), if_neg h2]
def ord3R (a b d : ByteArray) : Option S63 := if partOf b.data.toList = 0 then none else some ⟨2, a, 0, d, (partOf b.data.toList : Int), []⟩
set_option maxRecDepth 100000 in
set_option maxHeartbeats 4000000 in
theorem ordered3 (A0 : Option Addr) (c0 : Nat) (a b d : ByteArray) (w : World) (hr0 : Kd.C Kd.string w A0 3 [a, b, d]) :
    Calls Tryd.prog 96 #[.slice A0 3 c0] w (ItemPost (ord3R a b d) w) := by
  obtain ⟨ad, e1, hx0⟩ := Kd.at_string hr0 0 (by decide) (by decide)
  obtain ⟨ad', e1', hx1⟩ := Kd.at_string hr0 1 (by decide) (by decide)
  obtain ⟨ad'', e1'', hx2⟩ := Kd.at_string hr0 2 (by decide) (by decide)
  subst e1
  cases e1'
  cases e1''
  clear hr0
  replace hx0 : w.cell? ad = some (.string a) := hx0
  replace hx1 : w.cell? ⟨ad.block, ad.off + 1, none⟩ = some (.string b) := hx1
  replace hx2 : w.cell? ⟨ad.block, ad.off + 2, none⟩ = some (.string d) := hx2
  have hlx : ad.block < w.heap.size := World.block_lt_of_cell? w ⟨ad.block, ad.off + 1, none⟩ hx1
  go_enter Tryd.func96, Tryd.ntmps96
  go_wp2_with fail
  go_loopw [4] (fun p wr => ∃ k : Nat, 1 ≤ k ∧ k ≤ 4 ∧ p = .int .u8 (k : Int) ∧ Aside0 (wr.heap[w.heap.size + 1]? = some (.cells #[.int .u8 2, .string a, .int .i64 0, .string (⟨#[]⟩ : ByteArray), .int .u8 (partUp b.data.toList k : Int), .slice none 0 0] 63 (0, 0))) ∧ Aside0 (wr.heap[w.heap.size]? = some (.cells #[.int .u8 0, .string (⟨#[]⟩ : ByteArray), .int .i64 0, .string (⟨#[]⟩ : ByteArray), .int .u8 0, .slice none 0 0] 63 (0, 0))) ∧ Aside0 (Below w.heap.size w wr)) (fun p _ => 4 - (intOf p).toNat)
  case atStart =>
    refine ⟨1, by omega, by omega, rfl, ⟨?_⟩, ⟨blk_alloc (blk_new w _) _⟩, ⟨below_alloc (below_alloc (Below.refl _ w) _) _⟩⟩
    have e : partUp b.data.toList 1 = 0 := by unfold partUp; split <;> omega
    rw [e]
    have := blk_new (w.alloc (.cells #[.int .u8 0, .string (⟨#[]⟩ : ByteArray), .int .i64 0, .string (⟨#[]⟩ : ByteArray), .int .u8 0, .slice none 0 0] 63)) (.cells #[.int .u8 2, .string a, .int .i64 0, .string (⟨#[]⟩ : ByteArray), .int .u8 0, .slice none 0 0] 63)
    rw [World.size_alloc] at this
    exact this
  case round =>
    obtain ⟨k, k1, k4, rfl, B3, B2, HB⟩ := hrel
    have l3 := blk_lt B3.out
    have hx1r : wr.cell? ⟨ad.block, ad.off + 1, none⟩ = some (.string b) := (HB.out.cell (p := ⟨ad.block, ad.off + 1, none⟩) hlx).trans hx1
    have hx2r : wr.cell? ⟨ad.block, ad.off + 2, none⟩ = some (.string d) := (HB.out.cell (p := ⟨ad.block, ad.off + 2, none⟩) hlx).trans hx2
    by_cases hk4 : k = 4
    · subst hk4
      have hs : partUp b.data.toList 4 = partOf b.data.toList := by
        have := partOf_le b.data.toList
        unfold partUp; rw [if_pos (by omega)]
      rw [hs] at B3
      clear hs
      generalize hpo : partOf b.data.toList = po at *
      have HPO := Aside0.mk hpo
      have xc0 := (blk_cell B3.out 0).trans rfl
      have xf0 := blk_frozen B3.out 0
      have xc1 := (blk_cell B3.out 1).trans rfl
      have xf1 := blk_frozen B3.out 1
      have xc2 := (blk_cell B3.out 2).trans rfl
      have xf2 := blk_frozen B3.out 2
      have xc3 := (blk_cell B3.out 3).trans rfl
      have xf3 := blk_frozen B3.out 3
      have xc4 := (blk_cell B3.out 4).trans rfl
      have xf4 := blk_frozen B3.out 4
      have xc5 := (blk_cell B3.out 5).trans rfl
      have xf5 := blk_frozen B3.out 5
      have yc0 := (blk_cell B2.out 0).trans rfl
      have yf0 := blk_frozen B2.out 0
      have yc1 := (blk_cell B2.out 1).trans rfl
      have yf1 := blk_frozen B2.out 1
      have yc2 := (blk_cell B2.out 2).trans rfl
      have yf2 := blk_frozen B2.out 2
      have yc3 := (blk_cell B2.out 3).trans rfl
      have yf3 := blk_frozen B2.out 3
      have yc4 := (blk_cell B2.out 4).trans rfl
      have yf4 := blk_frozen B2.out 4
      have yc5 := (blk_cell B2.out 5).trans rfl
      have yf5 := blk_frozen B2.out 5
      by_cases h0 : po = 0
      · have HP : Aside0 (ord3R a b d = none) := ⟨by unfold ord3R; rw [hpo, if_pos h0]⟩
        clear hpo
        subst h0
        go_wp2_with fail
        refine (must_false _).mono ?_
        rintro e w2 ⟨rfl, rfl⟩
        refine ⟨rfl, ?_⟩
        rw [HP.out]
        exact ⟨rfl, HB.out⟩
      · have HP : Aside0 (ord3R a b d = some ⟨2, a, 0, d, (po : Int), []⟩) := ⟨by unfold ord3R; rw [hpo, if_neg h0]⟩
        have q0 : ((po : Int) == 0) = false := by rw [beq_eq_false_iff_ne]; omega
        have q2 : ((po : Int) != 0) = true := by rw [bne_iff_ne]; omega
        have q3 : (po == 0) = false := by rw [beq_eq_false_iff_ne]; omega
        clear hpo h0
        go_wp2_with fail
        refine (must_true _).mono ?_
        rintro e w2 ⟨rfl, rfl⟩
        go_wp2_with fail
        refine bodyPost_ret (results_cell_row rfl _ _ w.heap.size 63 #[.int .u8 2, .string a, .int .i64 0, .string d, .int .u8 (po : Int), .slice none 0 0] (0, 0) _ rfl (by (with_reducible repeat (first | refine blk_drewN ?_ _ | refine blk_drew ?_ | refine blk_alloc ?_ _)); refine blk_put (cs := #[.int .u8 2, .string a, .int .i64 0, .string d, .int .u8 (po : Int), .slice none 0 0]) ?_ 5 _ rfl; (with_reducible repeat (first | refine blk_drewN ?_ _ | refine blk_drew ?_ | refine blk_alloc ?_ _)); refine blk_put (cs := #[.int .u8 2, .string a, .int .i64 0, .string d, .int .u8 0, .slice none 0 0]) ?_ 4 _ rfl; (with_reducible repeat (first | refine blk_drewN ?_ _ | refine blk_drew ?_ | refine blk_alloc ?_ _)); refine blk_put (cs := #[.int .u8 2, .string a, .int .i64 0, .string (⟨#[]⟩ : ByteArray), .int .u8 0, .slice none 0 0]) ?_ 3 _ rfl; (with_reducible repeat (first | refine blk_drewN ?_ _ | refine blk_drew ?_ | refine blk_alloc ?_ _)); refine blk_put (cs := #[.int .u8 2, .string a, .int .i64 0, .string (⟨#[]⟩ : ByteArray), .int .u8 0, .slice none 0 0]) ?_ 2 _ rfl; (with_reducible repeat (first | refine blk_drewN ?_ _ | refine blk_drew ?_ | refine blk_alloc ?_ _)); refine blk_put (cs := #[.int .u8 2, .string (⟨#[]⟩ : ByteArray), .int .i64 0, .string (⟨#[]⟩ : ByteArray), .int .u8 0, .slice none 0 0]) ?_ 1 _ rfl; (with_reducible repeat (first | refine blk_drewN ?_ _ | refine blk_drew ?_ | refine blk_alloc ?_ _)); refine blk_put (cs := #[.int .u8 0, .string (⟨#[]⟩ : ByteArray), .int .i64 0, .string (⟨#[]⟩ : ByteArray), .int .u8 0, .slice none 0 0]) ?_ 0 _ rfl; (with_reducible repeat (first | refine blk_drewN ?_ _ | refine blk_drew ?_ | refine blk_alloc ?_ _)); refine blk_far ?_ (by simp) _; (with_reducible repeat (first | refine blk_drewN ?_ _ | refine blk_drew ?_ | refine blk_alloc ?_ _)); exact B2.out) Tryd.underlying63 rfl (by kernel_rfl)) rfl ?_
        rw [HP.out]
        refine ⟨⟨_, rfl, Kd.R_nil _ _ _ _ _⟩, ?_⟩
        repeat (with_reducible first | exact HB.out | apply below_alloc | apply pw_below_drewN | apply below_drew1 | refine below_set ?_ (Nat.le_refl _) | refine below_set ?_ (Nat.le_succ _))
    · have hk3 : k = 1 ∨ k = 2 ∨ k = 3 := by omega
      clear hk4
      rcases hk3 with rfl | rfl | rfl
      · have hs := partUp_succ b.data.toList 1 (by omega)
        by_cases hb : b.data.toList = [116, 111]
        · have q1 : (b.toList == ([116, 111] : List UInt8)) = true := by rw [beq_iff_eq, ByteArray.toList_eq]; exact hb
          have hp : partOf b.data.toList = 1 := (partOf_1 _).2 hb
          rw [if_pos hp] at hs
          have HS := Aside0.mk hs
          clear hs hp hb
          have c4 := (blk_cell B3.out 4).trans rfl
          have f4 := blk_frozen B3.out 4
          generalize hpu : partUp b.data.toList 1 = pu at *
          clear hpu
          go_wp2_with fail
          go_quiet ((go_at_call 87; exact Calls.quiet_of_same (parts_same 1 _ _ rfl)))
          go_wp2_with fail
          go_roundw
          case rel => exact ⟨1 + 1, by omega, by omega, rfl, ⟨by rw [HS.out]; (with_reducible repeat (first | refine blk_drewN ?_ _ | refine blk_drew ?_ | refine blk_alloc ?_ _)); refine blk_put (cs := #[.int .u8 2, .string a, .int .i64 0, .string (⟨#[]⟩ : ByteArray), .int .u8 (pu : Int), .slice none 0 0]) ?_ 4 _ rfl; (with_reducible repeat (first | refine blk_drewN ?_ _ | refine blk_drew ?_ | refine blk_alloc ?_ _)); exact B3.out⟩, ⟨by (with_reducible repeat (first | refine blk_drewN ?_ _ | refine blk_drew ?_ | refine blk_alloc ?_ _)); refine blk_far ?_ (by simp) _; (with_reducible repeat (first | refine blk_drewN ?_ _ | refine blk_drew ?_ | refine blk_alloc ?_ _)); exact B2.out⟩, ⟨by repeat (with_reducible first | exact HB.out | apply below_alloc | apply pw_below_drewN | apply below_drew1 | refine below_set ?_ (by simp))⟩⟩
          case measure => simp [intOf]
        · have q1 : (b.toList == ([116, 111] : List UInt8)) = false := by rw [beq_eq_false_iff_ne, ne_eq, ByteArray.toList_eq]; exact hb
          rw [if_neg (fun h => hb ((partOf_1 _).1 h))] at hs
          have HS := Aside0.mk hs
          clear hs hb
          generalize hpu : partUp b.data.toList 1 = pu at *
          clear hpu
          go_wp2_with fail
          go_quiet ((go_at_call 87; exact Calls.quiet_of_same (parts_same 1 _ _ rfl)))
          go_wp2_with fail
          go_roundw
          case rel => exact ⟨1 + 1, by omega, by omega, rfl, ⟨by rw [HS.out]; (with_reducible repeat (first | refine blk_drewN ?_ _ | refine blk_drew ?_ | refine blk_alloc ?_ _)); exact B3.out⟩, ⟨by (with_reducible repeat (first | refine blk_drewN ?_ _ | refine blk_drew ?_ | refine blk_alloc ?_ _)); exact B2.out⟩, ⟨by repeat (with_reducible first | exact HB.out | apply below_alloc | apply pw_below_drewN | apply below_drew1 | refine below_set ?_ (by simp))⟩⟩
          case measure => simp [intOf]
      · have hs := partUp_succ b.data.toList 2 (by omega)
        by_cases hb : b.data.toList = [104, 105, 103, 104]
        · have q1 : (b.toList == ([104, 105, 103, 104] : List UInt8)) = true := by rw [beq_iff_eq, ByteArray.toList_eq]; exact hb
          have hp : partOf b.data.toList = 2 := (partOf_2 _).2 hb
          rw [if_pos hp] at hs
          have HS := Aside0.mk hs
          clear hs hp hb
          have c4 := (blk_cell B3.out 4).trans rfl
          have f4 := blk_frozen B3.out 4
          generalize hpu : partUp b.data.toList 2 = pu at *
          clear hpu
          go_wp2_with fail
          go_quiet ((go_at_call 87; exact Calls.quiet_of_same (parts_same 2 _ _ rfl)))
          go_wp2_with fail
          go_roundw
          case rel => exact ⟨2 + 1, by omega, by omega, rfl, ⟨by rw [HS.out]; (with_reducible repeat (first | refine blk_drewN ?_ _ | refine blk_drew ?_ | refine blk_alloc ?_ _)); refine blk_put (cs := #[.int .u8 2, .string a, .int .i64 0, .string (⟨#[]⟩ : ByteArray), .int .u8 (pu : Int), .slice none 0 0]) ?_ 4 _ rfl; (with_reducible repeat (first | refine blk_drewN ?_ _ | refine blk_drew ?_ | refine blk_alloc ?_ _)); exact B3.out⟩, ⟨by (with_reducible repeat (first | refine blk_drewN ?_ _ | refine blk_drew ?_ | refine blk_alloc ?_ _)); refine blk_far ?_ (by simp) _; (with_reducible repeat (first | refine blk_drewN ?_ _ | refine blk_drew ?_ | refine blk_alloc ?_ _)); exact B2.out⟩, ⟨by repeat (with_reducible first | exact HB.out | apply below_alloc | apply pw_below_drewN | apply below_drew1 | refine below_set ?_ (by simp))⟩⟩
          case measure => simp [intOf]
        · have q1 : (b.toList == ([104, 105, 103, 104] : List UInt8)) = false := by rw [beq_eq_false_iff_ne, ne_eq, ByteArray.toList_eq]; exact hb
          rw [if_neg (fun h => hb ((partOf_2 _).1 h))] at hs
          have HS := Aside0.mk hs
          clear hs hb
          generalize hpu : partUp b.data.toList 2 = pu at *
          clear hpu
          go_wp2_with fail
          go_quiet ((go_at_call 87; exact Calls.quiet_of_same (parts_same 2 _ _ rfl)))
          go_wp2_with fail
          go_roundw
          case rel => exact ⟨2 + 1, by omega, by omega, rfl, ⟨by rw [HS.out]; (with_reducible repeat (first | refine blk_drewN ?_ _ | refine blk_drew ?_ | refine blk_alloc ?_ _)); exact B3.out⟩, ⟨by (with_reducible repeat (first | refine blk_drewN ?_ _ | refine blk_drew ?_ | refine blk_alloc ?_ _)); exact B2.out⟩, ⟨by repeat (with_reducible first | exact HB.out | apply below_alloc | apply pw_below_drewN | apply below_drew1 | refine below_set ?_ (by simp))⟩⟩
          case measure => simp [intOf]
      · have hs := partUp_succ b.data.toList 3 (by omega)
        by_cases hb : b.data.toList = [108, 111, 119]
        · have q1 : (b.toList == ([108, 111, 119] : List UInt8)) = true := by rw [beq_iff_eq, ByteArray.toList_eq]; exact hb
          have hp : partOf b.data.toList = 3 := (partOf_3 _).2 hb
          rw [if_pos hp] at hs
          have HS := Aside0.mk hs
          clear hs hp hb
          have c4 := (blk_cell B3.out 4).trans rfl
          have f4 := blk_frozen B3.out 4
          generalize hpu : partUp b.data.toList 3 = pu at *
          clear hpu
          go_wp2_with fail
          go_quiet ((go_at_call 87; exact Calls.quiet_of_same (parts_same 3 _ _ rfl)))
          go_wp2_with fail
          go_roundw
          case rel => exact ⟨3 + 1, by omega, by omega, rfl, ⟨by rw [HS.out]; (with_reducible repeat (first | refine blk_drewN ?_ _ | refine blk_drew ?_ | refine blk_alloc ?_ _)); refine blk_put (cs := #[.int .u8 2, .string a, .int .i64 0, .string (⟨#[]⟩ : ByteArray), .int .u8 (pu : Int), .slice none 0 0]) ?_ 4 _ rfl; (with_reducible repeat (first | refine blk_drewN ?_ _ | refine blk_drew ?_ | refine blk_alloc ?_ _)); exact B3.out⟩, ⟨by (with_reducible repeat (first | refine blk_drewN ?_ _ | refine blk_drew ?_ | refine blk_alloc ?_ _)); refine blk_far ?_ (by simp) _; (with_reducible repeat (first | refine blk_drewN ?_ _ | refine blk_drew ?_ | refine blk_alloc ?_ _)); exact B2.out⟩, ⟨by repeat (with_reducible first | exact HB.out | apply below_alloc | apply pw_below_drewN | apply below_drew1 | refine below_set ?_ (by simp))⟩⟩
          case measure => simp [intOf]
        · have q1 : (b.toList == ([108, 111, 119] : List UInt8)) = false := by rw [beq_eq_false_iff_ne, ne_eq, ByteArray.toList_eq]; exact hb
          rw [if_neg (fun h => hb ((partOf_3 _).1 h))] at hs
          have HS := Aside0.mk hs
          clear hs hb
          generalize hpu : partUp b.data.toList 3 = pu at *
          clear hpu
          go_wp2_with fail
          go_quiet ((go_at_call 87; exact Calls.quiet_of_same (parts_same 3 _ _ rfl)))
          go_wp2_with fail
          go_roundw
          case rel => exact ⟨3 + 1, by omega, by omega, rfl, ⟨by rw [HS.out]; (with_reducible repeat (first | refine blk_drewN ?_ _ | refine blk_drew ?_ | refine blk_alloc ?_ _)); exact B3.out⟩, ⟨by (with_reducible repeat (first | refine blk_drewN ?_ _ | refine blk_drew ?_ | refine blk_alloc ?_ _)); exact B2.out⟩, ⟨by repeat (with_reducible first | exact HB.out | apply below_alloc | apply pw_below_drewN | apply below_drew1 | refine below_set ?_ (by simp))⟩⟩
          case measure => simp [intOf]
def joinW (ws : List (List UInt8)) : List UInt8 := Lib.join ws [32]
def ordPR (ws : List (List UInt8)) : Option S63 :=
  if (parseR (joinW ws)).2.2 = 0 then some ⟨2, mkB (ws.headD []), (parseR (joinW ws)).2.1, ⟨#[]⟩, 0, []⟩ else none
set_option maxRecDepth 100000 in
set_option maxHeartbeats 4000000 in
theorem orderedP (bk o c0 : Nat) (ws : List (List UInt8)) (w : World) (hr0 : Kd.C Kd.string w (some ⟨bk, o, none⟩) (ws.map mkB).length (ws.map mkB)) (hc0 : (ws.map mkB).length ≤ c0) (h1 : 1 ≤ ws.length) (h3 : ws.length ≠ 3) (hl : ws.length ≤ 1000000) (hj : (joinW ws).length ≤ 140737488351232) (HG0 : Gd w) :
    Calls Tryd.prog 96 #[.slice (some ⟨bk, o, none⟩) (ws.map mkB).length c0] w (ItemPost (ordPR ws) w) := by
  have HG := Aside0.mk HG0
  clear HG0
  have hcell : ∀ (j : Nat) x, (ws.map mkB)[j]? = some x → w.cell? ⟨bk, o + j, none⟩ = some (.string x) := by
    intro j x hx
    have hlt := (List.getElem?_eq_some_iff.1 hx).1
    obtain ⟨ad, e1, h⟩ := Kd.at_string hr0 (j : Int) (by omega) (by omega)
    cases e1
    rw [Int.toNat_natCast, add_at] at h
    rw [h]
    congr 2
    unfold rdOf
    rw [Int.toNat_natCast, List.getD_eq_getElem?_getD, hx]; rfl
  have hx0 : w.cell? ⟨bk, o, none⟩ = some (.string (mkB (ws.headD []))) := by
    cases ws with
    | nil => simp at h1
    | cons a r => exact hcell 0 (mkB a) rfl
  have hlx : bk < w.heap.size := World.block_lt_of_cell? w ⟨bk, o, none⟩ hx0
  have HC := Aside0.mk hcell
  clear hcell hr0
  have HJ := Aside0.mk hj
  clear hj
  have HC0 := Aside0.mk hc0
  rw [List.length_map] at hc0 ⊢
  have q1 : ((ws.length : Int) == 3) = false := by rw [beq_eq_false_iff_ne]; omega
  have q2 : (ws.length == 3) = false := by rw [beq_eq_false_iff_ne]; exact h3
  clear h3
  obtain ⟨nm, hnm⟩ : ∃ nm, nm = mkB (ws.headD []) := ⟨_, rfl⟩
  rw [← hnm] at hx0
  have HNM := Aside0.mk hnm
  clear hnm
  go_enter Tryd.func96, Tryd.ntmps96
  go_wp2_with fail
  have hJ := Tryd.strings_Join bk o c0 (ws.map mkB) ⟨#[32]⟩ ((w.alloc (.cells #[.int .u8 0, .string (⟨#[]⟩ : ByteArray), .int .i64 0, .string (⟨#[]⟩ : ByteArray), .int .u8 0, .slice none 0 0] 63)).alloc (.cells #[.int .u8 2, .string nm, .int .i64 0, .string (⟨#[]⟩ : ByteArray), .int .u8 0, .slice none 0 0] 63)) (fun j x hx => by
    have h := HC.out j x hx
    have hb : Below w.heap.size w ((w.alloc (.cells #[.int .u8 0, .string (⟨#[]⟩ : ByteArray), .int .i64 0, .string (⟨#[]⟩ : ByteArray), .int .u8 0, .slice none 0 0] 63)).alloc (.cells #[.int .u8 2, .string nm, .int .i64 0, .string (⟨#[]⟩ : ByteArray), .int .u8 0, .slice none 0 0] 63)) := below_alloc (below_alloc (Below.refl _ w) _) _
    exact (hb.cell (p := ⟨bk, o + j, none⟩) hlx).trans h) (by rw [World.size_alloc, World.size_alloc]; omega) (by rw [List.length_map]; omega) HC0.out (by
      rw [List.map_map]
      have e : (ws.map ((fun x : ByteArray => x.data.toList) ∘ mkB)) = ws := by
        conv => rhs; rw [← List.map_id ws]
        apply List.map_congr_left
        intro x _; rfl
      rw [e]
      exact Nat.le_trans HJ.out (by decide))
  rw [List.length_map, List.map_map] at hJ
  have e : (ws.map ((fun x : ByteArray => x.data.toList) ∘ mkB)) = ws := by
    conv => rhs; rw [← List.map_id ws]
    apply List.map_congr_left
    intro x _; rfl
  rw [e] at hJ
  clear e
  refine hJ.mono ?_
  clear hJ
  rintro e w1 ⟨rfl, hb1⟩
  have HB1 : Aside0 (Below w.heap.size w w1) := ⟨below_step (below_alloc (below_alloc (Below.refl _ w) _) _) hb1⟩
  have B2 : Aside0 (w1.heap[w.heap.size]? = some (.cells #[.int .u8 0, .string (⟨#[]⟩ : ByteArray), .int .i64 0, .string (⟨#[]⟩ : ByteArray), .int .u8 0, .slice none 0 0] 63 (0, 0))) := ⟨blk_below (blk_alloc (blk_new w _) _) hb1⟩
  have B3 : Aside0 (w1.heap[w.heap.size + 1]? = some (.cells #[.int .u8 2, .string nm, .int .i64 0, .string (⟨#[]⟩ : ByteArray), .int .u8 0, .slice none 0 0] 63 (0, 0))) := ⟨blk_below (by have := blk_new (w.alloc (.cells #[.int .u8 0, .string (⟨#[]⟩ : ByteArray), .int .i64 0, .string (⟨#[]⟩ : ByteArray), .int .u8 0, .slice none 0 0] 63)) (.cells #[.int .u8 2, .string nm, .int .i64 0, .string (⟨#[]⟩ : ByteArray), .int .u8 0, .slice none 0 0] 63); rw [World.size_alloc] at this; exact this) hb1⟩
  clear hb1
  obtain ⟨ln, hln⟩ : ∃ ln : ByteArray, ln = ⟨(Lib.join ws (ByteArray.data ⟨#[32]⟩).toList).toArray⟩ := ⟨_, rfl⟩
  rw [← hln]
  have hln2 : ln.data.toList = joinW ws := by rw [hln]; rfl
  have HL := Aside0.mk hln2
  clear hln hln2
  go_wp2_with fail
  refine (parse_calls ln _ (by rw [size_list, HL.out]; exact HJ.out) (HG.out.below HB1.out)).mono ?_
  rintro e w2 ⟨he, hb2⟩
  rw [HL.out] at he
  have HB2 : Aside0 (Below w.heap.size w w2) := ⟨below_step HB1.out hb2⟩
  have B2' : Aside0 (w2.heap[w.heap.size]? = some (.cells #[.int .u8 0, .string (⟨#[]⟩ : ByteArray), .int .i64 0, .string (⟨#[]⟩ : ByteArray), .int .u8 0, .slice none 0 0] 63 (0, 0))) := ⟨blk_below B2.out hb2⟩
  have B3' : Aside0 (w2.heap[w.heap.size + 1]? = some (.cells #[.int .u8 2, .string nm, .int .i64 0, .string (⟨#[]⟩ : ByteArray), .int .u8 0, .slice none 0 0] 63 (0, 0))) := ⟨blk_below B3.out hb2⟩
  clear hb2 B2 B3 HB1
  obtain ⟨pr, hpr⟩ : ∃ pr, pr = parseR (joinW ws) := ⟨_, rfl⟩
  rw [← hpr] at he
  obtain ⟨pn, pa, pe⟩ := pr
  have HPR := Aside0.mk hpr
  clear hpr
  subst he
  have l2 := blk_lt B2'.out
  have l3 := blk_lt B3'.out
  have yc0 := (blk_cell B2'.out 0).trans rfl
  have yf0 := blk_frozen B2'.out 0
  have yc1 := (blk_cell B2'.out 1).trans rfl
  have yf1 := blk_frozen B2'.out 1
  have yc2 := (blk_cell B2'.out 2).trans rfl
  have yf2 := blk_frozen B2'.out 2
  have yc3 := (blk_cell B2'.out 3).trans rfl
  have yf3 := blk_frozen B2'.out 3
  have yc4 := (blk_cell B2'.out 4).trans rfl
  have yf4 := blk_frozen B2'.out 4
  have yc5 := (blk_cell B2'.out 5).trans rfl
  have yf5 := blk_frozen B2'.out 5
  have xc0 := (blk_cell B3'.out 0).trans rfl
  have xf0 := blk_frozen B3'.out 0
  have xc1 := (blk_cell B3'.out 1).trans rfl
  have xf1 := blk_frozen B3'.out 1
  have xc2 := (blk_cell B3'.out 2).trans rfl
  have xf2 := blk_frozen B3'.out 2
  have xc3 := (blk_cell B3'.out 3).trans rfl
  have xf3 := blk_frozen B3'.out 3
  have xc4 := (blk_cell B3'.out 4).trans rfl
  have xf4 := blk_frozen B3'.out 4
  have xc5 := (blk_cell B3'.out 5).trans rfl
  have xf5 := blk_frozen B3'.out 5
  by_cases hz : pe = 0
  · subst hz
    have HP : Aside0 (ordPR ws = some ⟨2, nm, pa, ⟨#[]⟩, 0, []⟩) := ⟨by unfold ordPR; rw [← HPR.out, if_pos rfl, ← HNM.out]⟩
    go_wp2_with fail
    refine (must_true _).mono ?_
    rintro e w3 ⟨rfl, rfl⟩
    go_wp2_with fail
    refine bodyPost_ret (results_cell_row rfl _ _ w.heap.size 63 #[.int .u8 2, .string nm, .int .i64 pa, .string (⟨#[]⟩ : ByteArray), .int .u8 0, .slice none 0 0] (0, 0) _ rfl (by (with_reducible repeat (first | refine blk_drewN ?_ _ | refine blk_drew ?_ | refine blk_alloc ?_ _)); refine blk_put (cs := #[.int .u8 2, .string nm, .int .i64 pa, .string (⟨#[]⟩ : ByteArray), .int .u8 0, .slice none 0 0]) ?_ 5 _ rfl; (with_reducible repeat (first | refine blk_drewN ?_ _ | refine blk_drew ?_ | refine blk_alloc ?_ _)); refine blk_put (cs := #[.int .u8 2, .string nm, .int .i64 pa, .string (⟨#[]⟩ : ByteArray), .int .u8 0, .slice none 0 0]) ?_ 4 _ rfl; (with_reducible repeat (first | refine blk_drewN ?_ _ | refine blk_drew ?_ | refine blk_alloc ?_ _)); refine blk_put (cs := #[.int .u8 2, .string nm, .int .i64 pa, .string (⟨#[]⟩ : ByteArray), .int .u8 0, .slice none 0 0]) ?_ 3 _ rfl; (with_reducible repeat (first | refine blk_drewN ?_ _ | refine blk_drew ?_ | refine blk_alloc ?_ _)); refine blk_put (cs := #[.int .u8 2, .string nm, .int .i64 0, .string (⟨#[]⟩ : ByteArray), .int .u8 0, .slice none 0 0]) ?_ 2 _ rfl; (with_reducible repeat (first | refine blk_drewN ?_ _ | refine blk_drew ?_ | refine blk_alloc ?_ _)); refine blk_put (cs := #[.int .u8 2, .string (⟨#[]⟩ : ByteArray), .int .i64 0, .string (⟨#[]⟩ : ByteArray), .int .u8 0, .slice none 0 0]) ?_ 1 _ rfl; (with_reducible repeat (first | refine blk_drewN ?_ _ | refine blk_drew ?_ | refine blk_alloc ?_ _)); refine blk_put (cs := #[.int .u8 0, .string (⟨#[]⟩ : ByteArray), .int .i64 0, .string (⟨#[]⟩ : ByteArray), .int .u8 0, .slice none 0 0]) ?_ 0 _ rfl; (with_reducible repeat (first | refine blk_drewN ?_ _ | refine blk_drew ?_ | refine blk_alloc ?_ _)); refine blk_far ?_ (by simp) _; (with_reducible repeat (first | refine blk_drewN ?_ _ | refine blk_drew ?_ | refine blk_alloc ?_ _)); exact B2'.out) Tryd.underlying63 rfl (by kernel_rfl)) rfl ?_
    rw [HP.out]
    refine ⟨⟨_, rfl, Kd.R_nil _ _ _ _ _⟩, ?_⟩
    repeat (with_reducible first | exact HB2.out | apply below_alloc | apply pw_below_drewN | apply below_drew1 | refine below_set ?_ (Nat.le_refl _) | refine below_set ?_ (Nat.le_succ _))
  · have HP : Aside0 (ordPR ws = none) := ⟨by unfold ordPR; rw [← HPR.out, if_neg hz]⟩
    have q4 : (pe == 0) = false := by rw [beq_eq_false_iff_ne]; exact hz
    have q5 : (pe != 0) = true := by rw [bne_iff_ne]; exact hz
    go_wp2_with fail
    refine (must_false _).mono ?_
    rintro e w3 ⟨rfl, rfl⟩
    refine ⟨rfl, ?_⟩
    rw [HP.out]
    exact ⟨rfl, below_alloc HB2.out _⟩
end Go.Proofs.YthnafgffanlnfaaDoor.PSrc
namespace Go.Proofs.YthnafgffanlnfaaDoor.PSrc
open Go.RowKit Go.Proofs.YthnafgffanlnfaaDoorW.PrintWords Go.Proofs.YthnafgffanlnfaaDoorW.PrintLast Go.Proofs.YthnafgffanlnfaaDoorW.PrintMore
set_option linter.unusedVariables false
set_option linter.unusedSimpArgs false
theorem push_set {α : Type} (xs : Array α) (a b : α) : (xs.push a).setIfInBounds xs.size b = xs.push b := by
  apply Array.ext'
  simp
theorem run_insert_new (w : World) (es : Array MapEntry) (clock : Nat) (k : ByteArray) (v : Value) (hf : Instr.findNow .string (.string k) es.toList 0 = some none) :
    (Instr.mapUpdate 141 (.map (some w.heap.size)) (.string k) v).run Tryd.prog (w.alloc (.map es clock)) = .ok () (w.alloc (.map (es.push { key := .string k, val := v, born := clock }) (clock + 1))) := by
  have h0 : (w.alloc (.map es clock)).heap[w.heap.size]? = some (.map es clock) := blk_new w _
  have hc : (Instr.checkKey false 10000 9 (.string k)).run Tryd.prog (w.alloc (.map es clock)) = .ok () (w.alloc (.map es clock)) := MapKept.run_checkKey (k := .string k) Tryd.underlying9 (by simp [MapKept.IsKey]) false 9999
  simp [Instr.mapUpdate, run_underlying Tryd.underlying141, MapKept.run_getObj_map h0, hc, MapKept.run_findKey Tryd.underlying9 hf, MapKept.run_setObj_map _ h0, Result.andThen]
  exact congrArg (fun h => ({ w with heap := h } : World)) (push_set w.heap _ _)
def eData : MapEntry := { key := .string ⟨#[100, 97, 116, 97]⟩, val := .func (.func 116) #[] #[], born := 0 }
def eAt : MapEntry := { key := .string ⟨#[97, 116]⟩, val := .func (.func 118) #[] #[], born := 1 }
def eAddress : MapEntry := { key := .string ⟨#[97, 100, 100, 114, 101, 115, 115]⟩, val := .func (.func 119) #[] #[], born := 2 }
set_option maxRecDepth 100000 in
theorem readers_calls (w : World) : Calls Tryd.prog 93 #[] w fun e w' => e = .returned (.map (some w.heap.size)) ∧ w' = w.alloc (.map #[eData, eAt, eAddress] 3) := by
  have hmm := @run_makeMap Tryd.prog
  have i1 := run_insert_new w #[] 0 ⟨#[100, 97, 116, 97]⟩ (.func (.func 116) #[] #[]) (by kernel_rfl)
  have i2 := run_insert_new w #[eData] 1 ⟨#[97, 116]⟩ (.func (.func 118) #[] #[]) (by kernel_rfl)
  have i3 := run_insert_new w #[eData, eAt] 2 ⟨#[97, 100, 100, 114, 101, 115, 115]⟩ (.func (.func 119) #[] #[]) (by kernel_rfl)
  change _ = Result.ok () (w.alloc (.map #[eData] 1)) at i1
  change _ = Result.ok () (w.alloc (.map #[eData, eAt] 2)) at i2
  change _ = Result.ok () (w.alloc (.map #[eData, eAt, eAddress] 3)) at i3
  go_enter Tryd.func93, Tryd.ntmps93
  go_wp2
  go_ret
  exact ⟨rfl, rfl⟩
def readerOf (k : List UInt8) : Option Nat :=
  if k = [100, 97, 116, 97] then some 116 else if k = [97, 116] then some 118 else if k = [97, 100, 100, 114, 101, 115, 115] then some 119 else none
theorem zero_fn (W : World) : (zeroValue 139).run Tryd.prog W = .ok (.nilFunc) W := by kernel_rfl
theorem beq_str (a b : ByteArray) : (a == b) = decide (a.data.toList = b.data.toList) := by
  rw [beq_toListBytes, ByteArray.toList_eq, ByteArray.toList_eq, Bool.eq_iff_iff]
  simp
def readerV (k : List UInt8) : Value := match readerOf k with | some f => .tuple #[.func (.func f) #[] #[], .bool true] | none => .tuple #[.nilFunc, .bool false]
theorem find_step (k : ByteArray) (e : MapEntry) (es : List MapEntry) (i : Nat) (x : ByteArray) (he : e.key = .string x) :
    Instr.findNow .string (.string k) (e :: es) i = if k.data.toList = x.data.toList then some (some (i, e.val)) else Instr.findNow .string (.string k) es (i + 1) := by
  rw [Instr.findNow, he]
  show (match some (k == x) with | some true => _ | some false => _ | none => _) = _
  rw [beq_str]
  by_cases h : k.data.toList = x.data.toList
  · rw [if_pos h, decide_eq_true h]
  · rw [if_neg h, decide_eq_false h]
theorem run_reader (W : World) (b : Nat) (k : ByteArray) (hb : W.heap[b]? = some (.map #[eData, eAt, eAddress] 3)) :
    (Instr.lookup 141 (.map (some b)) (.string k) true).run Tryd.prog W = .ok (readerV k.data.toList) W := by
  have hc : (Instr.checkKey false 10000 9 (.string k)).run Tryd.prog W = .ok () W := MapKept.run_checkKey (k := .string k) Tryd.underlying9 (by simp [MapKept.IsKey]) false 9999
  have hz := zero_fn W
  unfold readerV readerOf
  by_cases h1 : k.data.toList = [100, 97, 116, 97]
  · have hf : Instr.findNow .string (.string k) [eData, eAt, eAddress] 0 = some (some (0, eData.val)) := by rw [find_step k eData _ 0 _ rfl, if_pos h1]
    simp [Instr.lookup, run_underlying Tryd.underlying141, MapKept.run_getObj_map hb, hc, MapKept.run_findKey Tryd.underlying9 hf, Result.andThen, h1]
    rfl
  · by_cases h2 : k.data.toList = [97, 116]
    · have hf : Instr.findNow .string (.string k) [eData, eAt, eAddress] 0 = some (some (1, eAt.val)) := by rw [find_step k eData _ 0 _ rfl, if_neg h1, find_step k eAt _ 1 _ rfl, if_pos h2]
      simp [Instr.lookup, run_underlying Tryd.underlying141, MapKept.run_getObj_map hb, hc, MapKept.run_findKey Tryd.underlying9 hf, Result.andThen, h2]
      rfl
    · by_cases h3 : k.data.toList = [97, 100, 100, 114, 101, 115, 115]
      · have hf : Instr.findNow .string (.string k) [eData, eAt, eAddress] 0 = some (some (2, eAddress.val)) := by rw [find_step k eData _ 0 _ rfl, if_neg h1, find_step k eAt _ 1 _ rfl, if_neg h2, find_step k eAddress _ 2 _ rfl, if_pos h3]
        simp [Instr.lookup, run_underlying Tryd.underlying141, MapKept.run_getObj_map hb, hc, MapKept.run_findKey Tryd.underlying9 hf, Result.andThen, h3]
        rfl
      · have hf : Instr.findNow .string (.string k) [eData, eAt, eAddress] 0 = some none := by rw [find_step k eData _ 0 _ rfl, if_neg h1, find_step k eAt _ 1 _ rfl, if_neg h2, find_step k eAddress _ 2 _ rfl, if_neg h3]; rfl
        simp [Instr.lookup, run_underlying Tryd.underlying141, MapKept.run_getObj_map hb, hc, MapKept.run_findKey Tryd.underlying9 hf, Result.andThen, hz, h1, h2, h3]
theorem wp_named {P : Program} {c : Code} {Q : Exit → Act → World → Prop} {a : Act} {w : World} (h : ∀ Q' : Exit → Act → World → Prop, Aside0 (Q' = Q) → Code.wp P c Q' a w) : Code.wp P c Q a w := h Q ⟨rfl⟩
def zeroI : Array Value := #[.int .u8 0, .string (⟨#[]⟩ : ByteArray), .int .i64 0, .string (⟨#[]⟩ : ByteArray), .int .u8 0, .slice none 0 0]
set_option maxRecDepth 100000 in
theorem catch_idle (p q : Addr) (w : World) :
    CallsD Tryd.prog 92 #[.pointer (some p), .pointer (some q)] .returning w fun e u' w' => e = .returned (.tuple #[]) ∧ u' = .returning ∧ w' = w := by
  have ln : ∀ w, (binOp .neq 20 .nilIface .nilIface).run Tryd.prog w = .ok (.bool false) w := fun _ => by kernel_rfl
  refine callsD_of_wpS Tryd.func92 rfl fun c₀ cs hu => ?_
  apply wpS_seq
  apply wpS_region
  simp [wpOpsS, go_sem, recoverD, hu, Tryd.ntmps92, Exit.thenS]
  refine wpS_of_wp ?_
  have ht : (#[Value.pointer (some p), Value.pointer (some q)] ++ ((Array.replicate 15 undef).setIfInBounds 3 Value.nilIface).setIfInBounds 0 Value.nilIface) = #[Value.pointer (some p), Value.pointer (some q), Value.nilIface, undef, undef, Value.nilIface, undef, undef, undef, undef, undef, undef, undef, undef, undef, undef, undef] := rfl
  rw [ht]
  clear ht
  go_wp2
  cases c₀
  simp_all [bodyPostS, results, Tryd.results92]
set_option maxRecDepth 100000 in
theorem catch_none (g1 g2 : Nat) (cs1 : Array Value) (b : Value) (w : World) (h1 : w.heap[g1]? = some (.cells cs1 63 (0, 0))) (hs : cs1.size = 6) (h2 : w.heap[g2]? = some (.cells #[b] 4 (0, 0))) (hne : g1 ≠ g2) :
    CallsD Tryd.prog 92 #[.pointer (some ⟨g1, 0, none⟩), .pointer (some ⟨g2, 0, none⟩)] (.panicking noneP) w fun e u' w' => e = .returned (.tuple #[]) ∧ u' = .panicking [{ v := .iface 137 (.agg #[]), recovered := true }] ∧
      w'.heap[g1]? = some (.cells #[.int .u8 0, .string (⟨#[]⟩ : ByteArray), .int .i64 0, .string (⟨#[]⟩ : ByteArray), .int .u8 0, .slice none 0 0] 63 (0, 0)) ∧ w'.heap[g2]? = some (.cells #[.bool false] 4 (0, 0)) ∧ (∀ B, B ≤ g1 → B ≤ g2 → Below B w w') := by
  have li : ∀ w, (binOp .neq 20 (.iface 137 (.agg #[])) .nilIface).run Tryd.prog w = .ok (.bool true) w := fun _ => by kernel_rfl
  have lt : ∀ w, (Instr.typeAssert (.iface 137 (.agg #[])) 20 137 true).run Tryd.prog w = .ok (.tuple #[.agg #[], .bool true]) w := fun _ => by kernel_rfl
  refine callsD_of_wpS Tryd.func92 rfl fun c₀ cs hu => ?_
  apply wpS_seq
  apply wpS_region
  unfold noneP at hu
  simp [wpOpsS, go_sem, recoverD, hu, Tryd.ntmps92, Exit.thenS]
  refine wpS_of_wp ?_
  have ht : (#[Value.pointer (some ⟨g1, 0, none⟩), Value.pointer (some ⟨g2, 0, none⟩)] ++ ((Array.replicate 15 undef).setIfInBounds 3 (Value.iface 137 (.agg #[]))).setIfInBounds 0 (Value.iface 137 (.agg #[]))) = #[Value.pointer (some ⟨g1, 0, none⟩), Value.pointer (some ⟨g2, 0, none⟩), Value.iface 137 (.agg #[]), undef, undef, Value.iface 137 (.agg #[]), undef, undef, undef, undef, undef, undef, undef, undef, undef, undef, undef] := rfl
  rw [ht]
  clear ht hu
  have p1 := blk_alloc h1 (.cells #[] 137 (0, 0))
  have p2 := blk_alloc h2 (.cells #[] 137 (0, 0))
  have q1 := setRow_heap (w.alloc (.cells #[] 137 (0, 0))) g1 cs1 zeroI 63 (0, 0) p1
  have q2 := (setRow_other (w.alloc (.cells #[] 137 (0, 0))) g1 g2 zeroI (Ne.symm hne)).trans p2
  have c2 : ((w.alloc (.cells #[] 137 (0, 0))).setRow g1 zeroI).cell? ⟨g2, 0, none⟩ = some b := (blk_cell q2 0).trans rfl
  have z2 : ((w.alloc (.cells #[] 137 (0, 0))).setRow g1 zeroI).frozen? ⟨g2, 0, none⟩ = false := blk_frozen q2 0
  unfold zeroI at q1 q2 c2 z2
  go_wp2_with (refine wpList_store_row (P := Tryd.prog) rfl 63 _ _ rfl g1 #[.int .u8 0, .string (⟨#[]⟩ : ByteArray), .int .i64 0, .string (⟨#[]⟩ : ByteArray), .int .u8 0, .slice none 0 0] rfl rfl 63 cs1 p1 (by kernel_rfl) (hs.trans (by kernel_rfl)) (by kernel_rfl) ?_)
  cases c₀
  refine ⟨rfl, ?_⟩
  refine ⟨_, rfl, .tuple #[], by simp [results, Tryd.results92], rfl, rfl, blk_far q1 (p := ⟨g2, 0, none⟩) hne _, blk_put q2 0 _ rfl, fun B hB1 hB2 => ?_⟩
  exact (below_setRow ((Below.refl B w).alloc (Nat.le_trans hB1 (Nat.le_of_lt (blk_lt h1))) _) hB1 _).setCell hB2 _
end Go.Proofs.YthnafgffanlnfaaDoor.PSrc
namespace Go.Proofs.YthnafgffanlnfaaDoor.PSrc
open Go.RowKit Go.Proofs.YthnafgffanlnfaaDoorW.PrintWords Go.Proofs.YthnafgffanlnfaaDoorW.PrintLast Go.Proofs.YthnafgffanlnfaaDoorW.PrintMore
attribute [local go_sem] max2_int min2_int max_two min_two max_three min_three max_four min_four   -- for this text's walks alone
set_option linter.unusedVariables false
set_option linter.unusedSimpArgs false
def stringslite_HasSuffix.f (a0 : ByteArray) (a1 : ByteArray) : Option (Bool) := if (a0.size : Int) ≥ (a1.size : Int) then (if 0 ≤ (wrap64 ((a0.size : Int) - (a1.size : Int))) then (if (wrap64 ((a0.size : Int) - (a1.size : Int))) ≤ (a0.size : Int) then (some ((a0.extract ((wrap64 ((a0.size : Int) - (a1.size : Int))) : Int).toNat a0.size).toList == a1.toList)) else (none)) else (none)) else (some false)
set_option maxHeartbeats 8000000 in
set_option maxRecDepth 100000 in
theorem stringslite_HasSuffix.calls (a0 : ByteArray) (a1 : ByteArray) (r : Bool) (w : World) (h : stringslite_HasSuffix.f a0 a1 = some r) :
    Calls Tryd.prog 135 #[.string a0, .string a1] w fun e w' => e = .returned (.bool r) ∧ Drawn0 w w' := by
  have H : (if (a0.size : Int) ≥ (a1.size : Int) then (if 0 ≤ (wrap64 ((a0.size : Int) - (a1.size : Int))) then (if (wrap64 ((a0.size : Int) - (a1.size : Int))) ≤ (a0.size : Int) then (some ((a0.extract ((wrap64 ((a0.size : Int) - (a1.size : Int))) : Int).toNat a0.size).toList == a1.toList)) else (none)) else (none)) else (some false)) = some r := h
  clear h
  by_cases c3 : (a0.size : Int) ≥ (a1.size : Int)
  · rw [if_pos c3] at H
    have c3b0 : decide ((a1.size : Int) ≤ (a0.size : Int)) = true := decide_eq_true c3
    have c3b1 : decide (a1.size ≤ a0.size) = true := decide_eq_true (Int.ofNat_le.mp c3)
    clear c3
    obtain ⟨ji4, hji4⟩ : ∃ j_ : Int, (wrap64 ((a0.size : Int) - (a1.size : Int))) = j_ := ⟨_, rfl⟩
    replace H : (if 0 ≤ (ji4) then (if (ji4) ≤ (a0.size : Int) then (some ((a0.extract ((ji4) : Int).toNat a0.size).toList == a1.toList)) else (none)) else (none)) = some r := by first | (rw [hji4] at H; exact H) | (simp only [hji4] at H ⊢; exact H)
    have hji4w : (IntKind.i64.wrap ((a0.size : Int) - (a1.size : Int))) = ji4 := (i64_w _).trans hji4
    by_cases c5 : 0 ≤ (ji4)
    · rw [if_pos c5] at H
      have c5b0 := eq_true c5
      have c5b1 : decide (0 ≤ (ji4)) = true := decide_eq_true c5
      clear c5
      by_cases c6 : (ji4) ≤ (a0.size : Int)
      · rw [if_pos c6] at H
        have c6b0 := eq_true c6
        have c6b1 : decide ((ji4) ≤ (a0.size : Int)) = true := decide_eq_true c6
        clear c6
        obtain rfl := Option.some.inj H
        go_enter Tryd.func135, Tryd.ntmps135
        go_wp2
        go_ret
        exact ⟨by first | rfl | (simp; done) | (simp only [← hji4] <;> (first | rfl | simp)) | (simp [*]; done), by repeat (first | exact Drawn0.refl _ | apply Drawn0.step)⟩
      · rw [if_neg c6] at H
        exact absurd H (by simp)
    · rw [if_neg c5] at H
      exact absurd H (by simp)
  · rw [if_neg c3] at H
    have c3b0 : decide ((a1.size : Int) ≤ (a0.size : Int)) = false := decide_eq_false c3
    have c3b1 : decide (a1.size ≤ a0.size) = false := decide_eq_false (fun h => c3 (Int.ofNat_le.mpr h))
    clear c3
    obtain rfl := Option.some.inj H
    go_enter Tryd.func135, Tryd.ntmps135
    go_wp2
    go_ret
    exact ⟨by first | rfl | (simp; done) | (simp [*]; done), by repeat (first | exact Drawn0.refl _ | apply Drawn0.step)⟩
end Go.Proofs.YthnafgffanlnfaaDoor.PSrc
namespace Go.Proofs.YthnafgffanlnfaaDoor.PSrc
open Go.RowKit Go.Proofs.YthnafgffanlnfaaDoorW.PrintWords Go.Proofs.YthnafgffanlnfaaDoorW.PrintLast Go.Proofs.YthnafgffanlnfaaDoorW.PrintMore
attribute [local go_sem] max2_int min2_int max_two min_two max_three min_three max_four min_four   -- for this text's walks alone
set_option linter.unusedVariables false
set_option linter.unusedSimpArgs false
def stringslite_CutSuffix.f (a0 : ByteArray) (a1 : ByteArray) : Option (ByteArray × Bool) := (stringslite_HasSuffix.f a0 a1).bind fun t101 => (if t101 = true then (if 0 ≤ (wrap64 ((a0.size : Int) - (a1.size : Int))) then (if (wrap64 ((a0.size : Int) - (a1.size : Int))) ≤ (a0.size : Int) then (some (a0.extract 0 ((wrap64 ((a0.size : Int) - (a1.size : Int))) : Int).toNat, true)) else (none)) else (none)) else (some (a0, false)))
set_option maxHeartbeats 8000000 in
set_option maxRecDepth 100000 in
theorem stringslite_CutSuffix.calls (a0 : ByteArray) (a1 : ByteArray) (r1 : ByteArray) (r2 : Bool) (w : World) (h : stringslite_CutSuffix.f a0 a1 = some (r1, r2)) :
    Calls Tryd.prog 120 #[.string a0, .string a1] w fun e w' => e = .returned (.tuple #[.string r1, .bool r2]) ∧ Drawn0 w w' := by
  have H : ((stringslite_HasSuffix.f a0 a1).bind fun t101 => (if t101 = true then (if 0 ≤ (wrap64 ((a0.size : Int) - (a1.size : Int))) then (if (wrap64 ((a0.size : Int) - (a1.size : Int))) ≤ (a0.size : Int) then (some (a0.extract 0 ((wrap64 ((a0.size : Int) - (a1.size : Int))) : Int).toNat, true)) else (none)) else (none)) else (some (a0, false)))) = some (r1, r2) := h
  clear h
  replace H := Option.bind_eq_some_iff.mp H
  obtain ⟨t101, A30, H⟩ := H
  replace H : (if t101 = true then (if 0 ≤ (wrap64 ((a0.size : Int) - (a1.size : Int))) then (if (wrap64 ((a0.size : Int) - (a1.size : Int))) ≤ (a0.size : Int) then (some (a0.extract 0 ((wrap64 ((a0.size : Int) - (a1.size : Int))) : Int).toNat, true)) else (none)) else (none)) else (some (a0, false))) = some (r1, r2) := H
  have A3 := Aside0.mk A30
  clear A30
  by_cases c4 : t101 = true
  · subst c4
    have H1 : (if 0 ≤ (wrap64 ((a0.size : Int) - (a1.size : Int))) then (if (wrap64 ((a0.size : Int) - (a1.size : Int))) ≤ (a0.size : Int) then (some (a0.extract 0 ((wrap64 ((a0.size : Int) - (a1.size : Int))) : Int).toNat, true)) else (none)) else (none)) = some (r1, r2) := by rw [if_pos rfl] at H; exact H
    clear H
    have H := H1
    clear H1
    obtain ⟨ji5, hji5⟩ : ∃ j_ : Int, (wrap64 ((a0.size : Int) - (a1.size : Int))) = j_ := ⟨_, rfl⟩
    replace H : (if 0 ≤ (ji5) then (if (ji5) ≤ (a0.size : Int) then (some (a0.extract 0 ((ji5) : Int).toNat, true)) else (none)) else (none)) = some (r1, r2) := by first | (rw [hji5] at H; exact H) | (simp only [hji5] at H ⊢; exact H)
    (try rw [hji5] at A3)
    have hji5w : (IntKind.i64.wrap ((a0.size : Int) - (a1.size : Int))) = ji5 := (i64_w _).trans hji5
    by_cases c6 : 0 ≤ (ji5)
    · rw [if_pos c6] at H
      have c6b0 := eq_true c6
      have c6b1 : decide (0 ≤ (ji5)) = true := decide_eq_true c6
      clear c6
      by_cases c7 : (ji5) ≤ (a0.size : Int)
      · rw [if_pos c7] at H
        have c7b0 := eq_true c7
        have c7b1 : decide ((ji5) ≤ (a0.size : Int)) = true := decide_eq_true c7
        clear c7
        simp only [Option.some.injEq, Prod.mk.injEq] at H
        obtain ⟨rfl, rfl⟩ := H
        go_enter Tryd.func120, Tryd.ntmps120
        go_wp2_with (first | ((with_reducible refine gate_callee (f := 135) rfl ?_); refine goesL_ (some 8) rfl rfl Tryd.func135 (by kernel_rfl) rfl #[.string a0, .string a1] rfl (by (try simp only [List.map_toArray, List.map_cons, List.map_nil]); first | done | rfl | (simp only [List.length_drop, List.length_take]; rfl)) ?_; (with_reducible refine (stringslite_HasSuffix.calls a0 a1 true _ A3.out).mono ?_); rintro e w' ⟨rfl, ⟨nd, rfl⟩⟩; refine ⟨_, rfl, ?_⟩))
        go_ret2
        exact ⟨by first | rfl | (simp; done) | (simp only [← hji5] <;> (first | rfl | simp)) | (simp [*]; done), by repeat (first | exact Drawn0.refl _ | apply Drawn0.step)⟩
      · rw [if_neg c7] at H
        exact absurd H (by simp)
    · rw [if_neg c6] at H
      exact absurd H (by simp)
  · replace c4 := Bool.eq_false_iff.mpr c4
    subst c4
    have H1 : (some (a0, false)) = some (r1, r2) := by rw [if_neg (show ¬ (false = true) by decide)] at H; exact H
    clear H
    have H := H1
    clear H1
    simp only [Option.some.injEq, Prod.mk.injEq] at H
    obtain ⟨rfl, rfl⟩ := H
    go_enter Tryd.func120, Tryd.ntmps120
    go_wp2_with (first | ((with_reducible refine gate_callee (f := 135) rfl ?_); refine goesL_ (some 8) rfl rfl Tryd.func135 (by kernel_rfl) rfl #[.string a0, .string a1] rfl (by (try simp only [List.map_toArray, List.map_cons, List.map_nil]); first | done | rfl | (simp only [List.length_drop, List.length_take]; rfl)) ?_; (with_reducible refine (stringslite_HasSuffix.calls a0 a1 false _ A3.out).mono ?_); rintro e w' ⟨rfl, ⟨nd, rfl⟩⟩; refine ⟨_, rfl, ?_⟩))
    go_ret2
    exact ⟨by first | rfl | (simp; done) | (simp [*]; done), by repeat (first | exact Drawn0.refl _ | apply Drawn0.step)⟩
end Go.Proofs.YthnafgffanlnfaaDoor.PSrc
namespace Go.Proofs.YthnafgffanlnfaaDoor.PSrc
open Go.RowKit Go.Proofs.YthnafgffanlnfaaDoorW.PrintWords Go.Proofs.YthnafgffanlnfaaDoorW.PrintLast Go.Proofs.YthnafgffanlnfaaDoorW.PrintMore
attribute [local go_sem] max2_int min2_int max_two min_two max_three min_three max_four min_four   -- for this text's walks alone
set_option linter.unusedVariables false
set_option linter.unusedSimpArgs false
def strings_CutSuffix.f (a0 : ByteArray) (a1 : ByteArray) : Option (ByteArray × Bool) := (stringslite_CutSuffix.f a0 a1).bind fun bt101 => (some (bt101.1, bt101.2))
set_option maxHeartbeats 8000000 in
set_option maxRecDepth 100000 in
theorem strings_CutSuffix.calls (a0 : ByteArray) (a1 : ByteArray) (r1 : ByteArray) (r2 : Bool) (w : World) (h : strings_CutSuffix.f a0 a1 = some (r1, r2)) :
    Calls Tryd.prog 94 #[.string a0, .string a1] w fun e w' => e = .returned (.tuple #[.string r1, .bool r2]) ∧ Drawn0 w w' := by
  have H : ((stringslite_CutSuffix.f a0 a1).bind fun bt101 => (some (bt101.1, bt101.2))) = some (r1, r2) := h
  clear h
  replace H := Option.bind_eq_some_iff.mp H
  obtain ⟨⟨t101, t102⟩, A30, H⟩ := H
  replace H : (some (t101, t102)) = some (r1, r2) := H
  have A3 := Aside0.mk A30
  clear A30
  simp only [Option.some.injEq, Prod.mk.injEq] at H
  obtain ⟨rfl, rfl⟩ := H
  go_enter Tryd.func94, Tryd.ntmps94
  go_wp2_with (first | ((with_reducible refine gate_callee (f := 120) rfl ?_); refine goesL_ (some 8) rfl rfl Tryd.func120 (by kernel_rfl) rfl #[.string a0, .string a1] rfl (by (try simp only [List.map_toArray, List.map_cons, List.map_nil]); first | done | rfl | (simp only [List.length_drop, List.length_take]; rfl)) ?_; (with_reducible refine (stringslite_CutSuffix.calls a0 a1 t101 t102 _ A3.out).mono ?_); rintro e w' ⟨rfl, ⟨nd, rfl⟩⟩; refine ⟨_, rfl, ?_⟩))
  go_ret2
  exact ⟨by first | rfl | (simp; done) | (simp [*]; done), by repeat (first | exact Drawn0.refl _ | apply Drawn0.step)⟩
end Go.Proofs.YthnafgffanlnfaaDoor.PSrc
namespace Go.Proofs.YthnafgffanlnfaaDoor.PSrc
open Go.RowKit Go.Proofs.YthnafgffanlnfaaDoorW.PrintWords Go.Proofs.YthnafgffanlnfaaDoorW.PrintLast Go.Proofs.YthnafgffanlnfaaDoorW.PrintMore
set_option linter.unusedVariables false
set_option linter.unusedSimpArgs false
section
variable {P : Program}
theorem results_cs {fn : Func} {p p' : Tmp} {ty ty' : TypeId} (h : fn.results = #[.cell p ty, .cell p' ty']) (tmps : Array Value) (w : World) (g g' : Nat) (t : TypeId) (cs : Array Value) (fr : Nat × Nat) (d : TypeDesc) (v : Value)
    (hp : tmps.getD p undef = .pointer (some ⟨g, 0, none⟩)) (hg : w.heap[g]? = some (.cells cs t fr))
    (hu : P.underlying ty = some d) (hd : (match d with | .struct _ | .array _ _ => true | _ => false) = true) (hi : (P.info? ty).map (·.size) = some cs.size)
    (hp' : tmps.getD p' undef = .pointer (some ⟨g', 0, none⟩)) (hl : (loadVar ty' ⟨g', 0, none⟩).run P w = .ok v w) :
    (results fn tmps).run P w = .ok (.tuple #[.agg cs, v]) w := by
  have h1 : tmps[p]?.getD undef = .pointer (some ⟨g, 0, none⟩) := by simpa using hp
  have h2 : tmps[p']?.getD undef = .pointer (some ⟨g', 0, none⟩) := by simpa using hp'
  simp [results, h, h1, h2, asAddr, run_loadVar_row w g t ty cs fr d hg hu hd hi, hl]
end
theorem load_bool (w : World) (g : Nat) (b : Bool) (h : w.heap[g]? = some (.cells #[.bool b] 4 (0, 0))) : (loadVar 4 ⟨g, 0, none⟩).run Tryd.prog w = .ok (.bool b) w := by
  have hc : w.cell? ⟨g, 0, none⟩ = some (.bool b) := (blk_cell h 0).trans rfl
  simp [go_sem, hc]
def LinePost (r : Option S63) (w : World) (e : Ending) (w' : World) : Prop :=
  (match r with
   | some x => ∃ v5 : Value, e = .returned (.tuple #[.agg #[.int .u8 x.f0, .string x.f1, .int .i64 x.f2, .string x.f3, .int .u8 x.f4, v5], .bool true]) ∧ (Kd.int .u8).R 5 w' w.heap.size (fun _ => True) v5 x.f5
   | none => e = .returned (.tuple #[.agg zeroI, .bool false])) ∧ Below w.heap.size w w'
theorem door_none (tmps : Array Value) (g1 g2 : Nat) (cs1 : Array Value) (b : Bool) (w W : World) (hg1 : w.heap.size ≤ g1) (hg2 : w.heap.size ≤ g2) (hne : g1 ≠ g2)
    (h4 : tmps.getD 4 undef = .pointer (some ⟨g1, 0, none⟩)) (h5 : tmps.getD 5 undef = .pointer (some ⟨g2, 0, none⟩))
    (h1 : W.heap[g1]? = some (.cells cs1 63 (0, 0))) (hs : cs1.size = 6) (h2 : W.heap[g2]? = some (.cells #[.bool b] 4 (0, 0))) (hb : Below w.heap.size w W) :
    bodyPostD Tryd.prog Tryd.f59 (LinePost none w) (Exit.panic noneP) ⟨tmps, [{ target := .fn (.func 92) #[.pointer (some ⟨g1, 0, none⟩), .pointer (some ⟨g2, 0, none⟩)], args := #[] }]⟩ W := by
  refine leaves_cons (f := 92) (args := #[.pointer (some ⟨g1, 0, none⟩), .pointer (some ⟨g2, 0, none⟩)]) (by simp) (by simp [go_sem]) ?_
  refine (catch_none g1 g2 cs1 (.bool b) W h1 hs h2 hne).mono ?_
  rintro e u' w'' ⟨rfl, rfl, q1, q2, q3⟩
  refine ⟨_, results_cs rfl _ _ g1 g2 63 zeroI (0, 0) _ _ h4 q1 Tryd.underlying63 rfl (by kernel_rfl) h5 (load_bool _ _ _ q2), ?_⟩
  exact ⟨rfl, hb.trans (q3 _ hg1 hg2)⟩
theorem door_some (tmps : Array Value) (g1 g2 : Nat) (x : S63) (v5 : Value) (w W : World) 
    (h4 : tmps.getD 4 undef = .pointer (some ⟨g1, 0, none⟩)) (h5 : tmps.getD 5 undef = .pointer (some ⟨g2, 0, none⟩))
    (h1 : W.heap[g1]? = some (.cells #[.int .u8 x.f0, .string x.f1, .int .i64 x.f2, .string x.f3, .int .u8 x.f4, v5] 63 (0, 0))) (h2 : W.heap[g2]? = some (.cells #[.bool true] 4 (0, 0))) (hb : Below w.heap.size w W)
    (hR : (Kd.int .u8).R 5 W w.heap.size (fun _ => True) v5 x.f5) :
    bodyPostD Tryd.prog Tryd.f59 (LinePost (some x) w) Exit.ret ⟨tmps, [{ target := .fn (.func 92) #[.pointer (some ⟨g1, 0, none⟩), .pointer (some ⟨g2, 0, none⟩)], args := #[] }]⟩ W := by
  refine leaves_cons (f := 92) (args := #[.pointer (some ⟨g1, 0, none⟩), .pointer (some ⟨g2, 0, none⟩)]) (by simp) (by simp [go_sem]) ?_
  refine (catch_idle _ _ W).mono ?_
  rintro e u' w'' ⟨rfl, rfl, rfl⟩
  refine ⟨_, results_cs rfl _ _ g1 g2 63 _ (0, 0) _ _ h4 h1 Tryd.underlying63 rfl (by kernel_rfl) h5 (load_bool _ _ _ h2), ?_⟩
  exact ⟨⟨v5, rfl, hR⟩, hb⟩
def labelR (ws : List (List UInt8)) : Option S63 :=
  match ws with
  | [a] => if Lib.hasSuffix a [58] then some ⟨1, ⟨(Lib.trimSuffix a [58]).toArray⟩, 0, ⟨#[]⟩, 0, []⟩ else none
  | _ => none
def orderR (ws : List (List UInt8)) : Option S63 :=
  match ws with
  | [a, b, d] => ord3R (mkB a) (mkB b) (mkB d)
  | _ => ordPR ws
def anyR (f : Nat) (ws : List (List UInt8)) : Option S63 :=
  if f = 116 then dataR (ws.map mkB) else if f = 118 then atR ws else addressR ws
def itemR (s0 : UInt8) (ws : List (List UInt8)) : Option S63 :=
  if s0 ≠ 32 ∧ s0 ≠ 9 then labelR ws else match readerOf (ws.headD []) with | some f => anyR f ws | none => orderR ws
def lineR (s0 : UInt8) (ws : List (List UInt8)) : Option S63 :=
  match itemR s0 ws with
  | some x => if mayB x.f0 x.f1.data.toList x.f2 x.f3.data.toList x.f4 x.f5.length then some x else none
  | none => none
theorem head_join (ws : List (List UInt8)) : (ws.headD []).length ≤ (joinW ws).length := by
  match ws with
  | [] => exact Nat.zero_le _
  | [a] => simp [joinW, Lib.join]
  | a :: b :: r =>
    unfold joinW Lib.join
    simp
theorem order_calls (bk o c0 : Nat) (ws : List (List UInt8)) (w : World) (hr0 : Kd.C Kd.string w (some ⟨bk, o, none⟩) (ws.map mkB).length (ws.map mkB)) (hc0 : (ws.map mkB).length ≤ c0) (h1 : 1 ≤ ws.length) (hl : ws.length ≤ 1000000) (hj : (joinW ws).length ≤ 140737488351232) (HG0 : Gd w) :
    Calls Tryd.prog 96 #[.slice (some ⟨bk, o, none⟩) (ws.map mkB).length c0] w (ItemPost (orderR ws) w) := by
  by_cases h3 : ws.length = 3
  · obtain ⟨a, b, d, rfl⟩ : ∃ a b d, ws = [a, b, d] := by
      match ws, h3 with
      | [a, b, d], _ => exact ⟨a, b, d, rfl⟩
    exact ordered3 (some ⟨bk, o, none⟩) c0 (mkB a) (mkB b) (mkB d) w hr0
  · have e : orderR ws = ordPR ws := by
      unfold orderR
      match ws, h3 with
      | [], _ | [_], _ | [_, _], _ | _ :: _ :: _ :: _ :: _, _ => rfl
    rw [e]
    exact orderedP bk o c0 ws w hr0 hc0 h1 h3 hl hj HG0
theorem reader_calls (f : Nat) (A0 : Option Addr) (c0 : Nat) (ws : List (List UInt8)) (w : World) (hf : readerOf (ws.headD []) = some f) (hr0 : Kd.C Kd.string w A0 (ws.map mkB).length (ws.map mkB)) (hc0 : (ws.map mkB).length ≤ c0) (h1 : 1 ≤ ws.length) (hl : ws.length ≤ 1000000) :
    Calls Tryd.prog f #[.slice A0 (ws.map mkB).length c0] w (ItemPost (anyR f ws) w) := by
  unfold readerOf at hf
  split at hf
  · cases hf
    exact data_calls A0 c0 (ws.map mkB) w hr0 hc0 (by rw [List.length_map]; exact h1) (by rw [List.length_map]; exact hl)
  · split at hf
    · cases hf
      exact at_calls A0 c0 ws w hr0 hc0
    · split at hf
      · cases hf
        exact address_calls A0 c0 ws w hr0 hc0
      · cases hf
theorem R_setRow {w : World} {base : Nat} {ok : Nat → Prop} {v : Value} {xs : List Int} (h : (Kd.int .u8).R 5 w base ok v xs) {g t : Nat} {cells : Array Value} (hb : w.heap[g]? = some (.cells cells t (0, 0))) (ht : t ≠ 5) (cs : Array Value) : (Kd.int .u8).R 5 (w.setRow g cs) base ok v xs :=
  Kd.R_mono (Kd.R_move (Kd.R_types h hb (by intro q hq; rcases List.mem_cons.1 hq with rfl | hq; exact Ne.symm ht; cases hq)) (fun k hk => setRow_other w g k cs hk.2)) (fun _ hk => hk.1)
theorem R_setC {w : World} {base : Nat} {ok : Nat → Prop} {v : Value} {xs : List Int} (h : (Kd.int .u8).R 5 w base ok v xs) {g t : Nat} {cells : Array Value} (hb : w.heap[g]? = some (.cells cells t (0, 0))) (ht : t ≠ 5) (u : Value) : (Kd.int .u8).R 5 (w.setCell ⟨g, 0, none⟩ u) base ok v xs :=
  Kd.R_set h hb (by intro q hq; rcases List.mem_cons.1 hq with rfl | hq; exact Ne.symm ht; cases hq) 0 u
def onlyN (K : Act → World → Prop) : Exit → Act → World → Prop
  | .normal, a, w => K a w
  | _, _, _ => False
set_option maxRecDepth 100000 in
set_option maxHeartbeats 4000000 in
theorem read_calls (s : ByteArray) (bk o c0 : Nat) (ws : List (List UInt8)) (w : World) (hr0 : Kd.C Kd.string w (some ⟨bk, o, none⟩) (ws.map mkB).length (ws.map mkB)) (hc0 : (ws.map mkB).length ≤ c0) (h1 : 1 ≤ ws.length) (hs : 1 ≤ s.size) (hl : ws.length ≤ 1000000) (hj : (joinW ws).length ≤ 140737488351232) (HG0 : Gd w) :
    Calls Tryd.prog 59 #[.string s, .slice (some ⟨bk, o, none⟩) (ws.map mkB).length c0] w (LinePost (lineR (s.data.toList.headD 0) ws) w) := by
  have HG := Aside0.mk HG0
  clear HG0
  have HR := Aside0.mk hr0
  clear hr0
  have hmf : ∀ (fn : Fn) (first cap : Array Value) (w : World), (Instr.makeFunc fn first cap).run Tryd.prog w = .ok (.func fn first cap) w := fun _ _ _ _ => rfl
  obtain ⟨k, hk⟩ : ∃ k, k = ws.headD [] := ⟨_, rfl⟩
  obtain ⟨ad, e1, hx0⟩ := Kd.at_string HR.out 0 (by decide) (by rw [List.length_map]; omega)
  cases e1
  have ek : rdOf ByteArray.empty (ws.map mkB) 0 = mkB k := by
    cases ws with
    | nil => simp at h1
    | cons a r => rw [hk]; rfl
  rw [ek] at hx0
  replace hx0 : w.cell? ⟨bk, o, none⟩ = some (.string (mkB k)) := hx0
  have hlx : bk < w.heap.size := World.block_lt_of_cell? w ⟨bk, o, none⟩ hx0
  clear ek
  obtain ⟨fv, rb, hrv⟩ : ∃ fv rb, readerV k = .tuple #[fv, .bool rb] := by
    unfold readerV
    split
    · exact ⟨_, _, rfl⟩
    · exact ⟨_, _, rfl⟩
  have hlk : ∀ W : World, W.heap.size = w.heap.size + 1 + 1 → (Instr.lookup 141 (.map (some (w.heap.size + 1 + 1))) (.string (mkB k)) true).run Tryd.prog (W.alloc (.map #[eData, eAt, eAddress] 3)) = .ok (.tuple #[fv, .bool rb]) (W.alloc (.map #[eData, eAt, eAddress] 3)) := by
    intro W hW
    rw [← hrv]
    exact run_reader _ _ (mkB k) (by rw [← hW]; exact blk_new W _)
  have HK := Aside0.mk hk
  have HRV := Aside0.mk hrv
  have HJ := Aside0.mk hj
  clear hk hrv hj
  go_enter_defers Tryd.func59, Tryd.ntmps59
  go_wp2_with fail
  obtain ⟨W0, hW0⟩ : ∃ W0, W0 = (w.alloc (.cells zeroI 63 (0, 0))).alloc (.cells #[.bool false] 4 (0, 0)) := ⟨_, rfl⟩
  have hz : W0.heap.size = w.heap.size + 1 + 1 := by rw [hW0, World.size_alloc, World.size_alloc]
  have d1 : W0.cell? ⟨bk, o, none⟩ = some (.string (mkB k)) := by
    have hb : Below w.heap.size w W0 := by rw [hW0]; exact below_alloc (below_alloc (Below.refl _ w) _) _
    exact (hb.cell (p := ⟨bk, o, none⟩) hlx).trans hx0
  have d2 : (W0.alloc (.map #[eData, eAt, eAddress] 3)).cell? ⟨bk, o, none⟩ = some (.string (mkB k)) := by
    have hb : Below w.heap.size w W0 := by rw [hW0]; exact below_alloc (below_alloc (Below.refl _ w) _) _
    exact ((below_alloc hb _).cell (p := ⟨bk, o, none⟩) hlx).trans hx0
  have hlk' := hlk W0.drew hz
  replace hlk' : (Instr.lookup 141 (.map (some (w.heap.size + 1 + 1))) (.string (mkB k)) true).run Tryd.prog (W0.alloc (.map #[eData, eAt, eAddress] 3)).drew = .ok (.tuple #[fv, .bool rb]) (W0.alloc (.map #[eData, eAt, eAddress] 3)).drew := hlk'
  have HW0 := Aside0.mk hW0
  unfold zeroI at hW0
  rw [← hW0]
  have hx1 := hx0
  clear hW0 hlk hx0
  have hrd := readers_calls W0.drew
  rw [show W0.drew.heap.size = w.heap.size + 1 + 1 from hz] at hrd
  rename_i K hK
  suffices key : K { tmps := #[Value.string s, Value.slice (some ⟨bk, o, none⟩) ws.length c0, undef, undef, Value.pointer (some ⟨w.heap.size, 0, none⟩), Value.pointer (some ⟨w.heap.size + 1, 0, none⟩), fv, Value.bool rb, undef, undef, Value.func (Fn.func 92) #[] #[Value.pointer (some ⟨w.heap.size, 0, none⟩), Value.pointer (some ⟨w.heap.size + 1, 0, none⟩)], Value.tuple #[fv, Value.bool rb], Value.map (some (w.heap.size + 1 + 1)), Value.slice (some ⟨bk, o, none⟩) ws.length c0, Value.pointer (some ⟨bk, o, none⟩), Value.string (mkB k), Value.tuple #[fv, Value.bool rb], fv, Value.bool rb, undef, undef, undef, undef, undef, undef, undef, undef, undef, undef, undef, undef, undef, undef, undef, undef, undef, undef, undef, undef, undef, undef, undef, undef, undef, undef, undef, undef, undef, undef, undef, undef, undef, undef, undef, undef], defers := [{ target := .fn (.func 92) #[Value.pointer (some ⟨w.heap.size, 0, none⟩), Value.pointer (some ⟨w.heap.size + 1, 0, none⟩)], args := #[] }] } (W0.alloc (.map #[eData, eAt, eAddress] 3)).drew by
    refine wp_mono (Q := onlyN K) ?_ (by intro e a w h; cases e <;> first | exact h | exact h.elim)
    go_region_with (go_at_call 93; refine hrd.mono ?_; rintro e w' ⟨rfl, rfl⟩)
    all_goals exact key
  dsimp only
  refine hK _ _ ?_
  clear hK K hrd hlk' d1 d2 hmf
  have HB : Aside0 (Below w.heap.size w (W0.alloc (.map #[eData, eAt, eAddress] 3)).drew) := ⟨by
    rw [HW0.out]; exact below_drew1 (below_alloc (below_alloc (below_alloc (Below.refl _ w) _) _) _)⟩
  have B4 : Aside0 ((W0.alloc (.map #[eData, eAt, eAddress] 3)).drew.heap[w.heap.size]? = some (.cells zeroI 63 (0, 0))) := ⟨by
    rw [HW0.out]; exact blk_drew (blk_alloc (blk_alloc (blk_new w _) _) _)⟩
  have B5 : Aside0 ((W0.alloc (.map #[eData, eAt, eAddress] 3)).drew.heap[w.heap.size + 1]? = some (.cells #[.bool false] 4 (0, 0))) := ⟨by
    rw [HW0.out]
    have := blk_new (w.alloc (.cells zeroI 63 (0, 0))) (.cells #[.bool false] 4 (0, 0))
    rw [World.size_alloc] at this
    exact blk_drew (blk_alloc this _)⟩
  obtain ⟨W, hW⟩ : ∃ W, W = (W0.alloc (.map #[eData, eAt, eAddress] 3)).drew := ⟨_, rfl⟩
  rw [← hW] at HB B4 B5 ⊢
  clear hW HW0 hz W0
  have hW0 : W.cell? ⟨bk, o, none⟩ = some (.string (mkB k)) := (HB.out.cell (p := ⟨bk, o, none⟩) hlx).trans hx1
  obtain ⟨lr, elr⟩ : ∃ lr, lr = lineR (s.data.toList.headD 0) ws := ⟨_, rfl⟩
  rw [← elr]
  have ELR := Aside0.mk elr
  clear elr
  go_upto_block 0 with fail
  go_cut [] from 11 to 54 (fun wx => ∃ (x : S63) (v5 : Value), itemR (s.data.toList.headD 0) ws = some x ∧ Aside0 (Below w.heap.size w wx) ∧ Aside0 (wx.heap[w.heap.size]? = some (.cells #[.int .u8 x.f0, .string x.f1, .int .i64 x.f2, .string x.f3, .int .u8 x.f4, v5] 63 (0, 0))) ∧ Aside0 (wx.heap[w.heap.size + 1]? = some (.cells #[.bool false] 4 (0, 0))) ∧ Aside0 ((Kd.int .u8).R 5 wx w.heap.size (fun _ => True) v5 x.f5))
  case first =>
    have hs' : 0 < s.size := hs
    have e0 : s.data.toList.headD 0 = s[0]'hs' := by
      rcases s with ⟨⟨l⟩⟩
      cases l with
      | nil => cases hs'
      | cons a r => rfl
    have hrw := HR.out
    have HRW := Aside0.mk (Kd.C_below hrw HB.out)
    clear hrw
    by_cases hf : (s[0]'hs' ≠ 32 ∧ s[0]'hs' ≠ 9)
    · have hit : itemR (s.data.toList.headD 0) ws = labelR ws := by
        unfold itemR; rw [e0, if_pos hf]
      have g1 : ¬ ((s[0]'hs').toNat : Int) = 32 := fun h => hf.1 (UInt8.toNat_inj.1 (by show (s[0]'hs').toNat = 32; omega))
      have g1' : ¬ ((s[0]'hs').toNat : Int) = 9 := fun h => hf.2 (UInt8.toNat_inj.1 (by show (s[0]'hs').toNat = 9; omega))
      have g2 : (((s[0]'hs').toNat : Int) != 32) = true := bne_iff_ne.2 g1
      have g3 : (((s[0]'hs').toNat : Int) != 9) = true := bne_iff_ne.2 g1'
      clear g1'
      have hsz : (mkB k).size ≤ 9223372036854775807 := by
        rw [size_list]
        have := head_join ws
        rw [← HK.out] at this
        have := HJ.out
        show k.length ≤ _
        omega
      have hC := Tryd.strings_CutSuffix (mkB k) ⟨#[58]⟩ W hsz
      obtain ⟨sb, esb⟩ : ∃ sb, sb = Lib.hasSuffix (mkB k).data.toList (ByteArray.data ⟨#[58]⟩).toList := ⟨_, rfl⟩
      obtain ⟨st, est⟩ : ∃ st : ByteArray, st = ⟨(Lib.trimSuffix (mkB k).data.toList (ByteArray.data ⟨#[58]⟩).toList).toArray⟩ := ⟨_, rfl⟩
      rw [← esb, ← est] at hC
      have HC' := Aside0.mk hC
      have ESB := Aside0.mk esb
      have EST := Aside0.mk est
      clear hC esb est hf e0 hsz
      by_cases hok : sb = true ∧ ws.length = 1
      · obtain ⟨rfl, hl1⟩ := hok
        have hl1b : ((ws.length : Int) == 1) = true := by rw [hl1]; rfl
        have hit2 : itemR (s.data.toList.headD 0) ws = some ⟨1, st, 0, ⟨#[]⟩, 0, []⟩ := by
          rw [hit]
          match ws, hl1, HK.out with
          | [a], _, ek =>
            have ek : k = a := ek
            subst ek
            unfold labelR
            dsimp only
            rw [if_pos (show Lib.hasSuffix k [58] = true from ESB.out.symm), EST.out]
            rfl
        clear hit
        have HIT := Aside0.mk hit2
        clear hit2 hl1
        go_wp2_with fail
        refine HC'.out.mono ?_
        rintro e w1 ⟨rfl, rfl⟩
        go_wp2_with fail
        refine (must_true _).mono ?_
        rintro e w2 ⟨rfl, rfl⟩
        go_wp2_with (first | (refine wpList_store_row (P := Tryd.prog) rfl 63 _ _ rfl w.heap.size #[.int .u8 1, .string st, .int .i64 0, .string (⟨#[]⟩ : ByteArray), .int .u8 0, .slice none 0 0] rfl rfl 63 _ B4.out (by kernel_rfl) (by kernel_rfl) (by kernel_rfl) ?_))
        go_meet
        case rel =>
          exact ⟨⟨1, st, 0, ⟨#[]⟩, 0, []⟩, .slice none 0 0, HIT.out, ⟨below_setRow HB.out (Nat.le_refl _) _⟩, ⟨setRow_heap _ w.heap.size _ _ 63 (0, 0) B4.out⟩, ⟨(setRow_other _ w.heap.size (w.heap.size + 1) _ (by omega)).trans B5.out⟩, ⟨Kd.R_nil _ _ _ _ _⟩⟩
      · have hnone : lr = none := by
          rw [ELR.out]; unfold lineR; rw [hit]
          match ws, hok, HK.out with
          | [a], hok, ek =>
            have ek : k = a := ek
            subst ek
            unfold labelR
            dsimp only
            rw [if_neg (show ¬ (Lib.hasSuffix k [58] = true) from fun h => hok ⟨ESB.out.trans h, rfl⟩)]
          | [], _, _ => rfl
          | _ :: _ :: _, _, _ => rfl
        subst hnone
        have hok' : sb = false ∨ (sb = true ∧ ((ws.length : Int) == 1) = false) := by
          cases sb
          · exact .inl rfl
          · refine .inr ⟨rfl, beq_eq_false_iff_ne.2 (fun h => hok ⟨rfl, by omega⟩)⟩
        clear hok hit
        rcases hok' with rfl | ⟨rfl, hl1b⟩
        all_goals
          go_wp2_with fail
        all_goals
          refine HC'.out.mono ?_
          rintro e w1 ⟨rfl, rfl⟩
          go_wp2_with fail
          refine (must_false _).mono ?_
          rintro e w2 ⟨rfl, rfl⟩
          exact door_none _ w.heap.size (w.heap.size + 1) _ false w _ (Nat.le_refl _) (Nat.le_succ _) (by omega) rfl rfl B4.out rfl B5.out HB.out
    · have hitn : itemR (s.data.toList.headD 0) ws = match readerOf k with | some f => anyR f ws | none => orderR ws := by
        unfold itemR; rw [e0, if_neg hf, ← HK.out]
      have h329 : ((s[0]'hs').toNat : Int) = 32 ∨ (¬ ((s[0]'hs').toNat : Int) = 32 ∧ (((s[0]'hs').toNat : Int) != 32) = true ∧ (((s[0]'hs').toNat : Int) != 9) = false) := by
        by_cases h32 : s[0]'hs' = 32
        · left; rw [h32]; rfl
        · right
          have h9 : s[0]'hs' = 9 := Classical.byContradiction fun h9 => hf ⟨h32, h9⟩
          rw [h9]
          exact ⟨by decide, by decide, by decide⟩
      clear hf
      have hrv := HRV.out
      unfold readerV at hrv
      obtain ⟨ro, hro⟩ : ∃ ro, ro = readerOf k := ⟨_, rfl⟩
      rw [← hro] at hrv hitn
      cases ro with
      | none =>
        have hit : itemR (s.data.toList.headD 0) ws = orderR ws := hitn
        clear hitn
        cases hrv
        clear hro
        have HO := Aside0.mk (order_calls bk o c0 ws W HRW.out hc0 h1 hl HJ.out (HG.out.below HB.out))
        rw [List.length_map] at HO
        rcases h329 with h32 | ⟨g1, g2, g3⟩
        all_goals
          go_wp2_with fail
        all_goals
          refine (HO.out).mono ?_
          rintro e w1 ⟨he, hb1⟩
          have HB1 : Aside0 (Below w.heap.size w w1) := ⟨below_step HB.out hb1⟩
          have D4 := Aside0.mk (blk_below B4.out hb1)
          have D5 := Aside0.mk (blk_below B5.out hb1)
          clear hb1
          obtain ⟨r, hr⟩ : ∃ r, r = orderR ws := ⟨_, rfl⟩
          rw [← hr] at he hit
          clear hr
          cases r with
          | none =>
            obtain rfl : e = .panicked noneP := he
            obtain rfl : lr = none := by rw [ELR.out]; unfold lineR; rw [hit]
            exact door_none _ w.heap.size (w.heap.size + 1) _ false w _ (Nat.le_refl _) (Nat.le_succ _) (by omega) rfl rfl D4.out rfl D5.out HB1.out
          | some x =>
            obtain ⟨v5, rfl, hR⟩ := he
            have hR := Aside0.mk hR
            obtain ⟨A5, c5, rfl⟩ := Kd.R_slice hR.out
            go_wp2_with (first | (refine wpList_store_row (P := Tryd.prog) rfl 63 _ _ rfl w.heap.size #[.int .u8 x.f0, .string x.f1, .int .i64 x.f2, .string x.f3, .int .u8 x.f4, .slice A5 x.f5.length c5] rfl rfl 63 _ D4.out (by kernel_rfl) rfl (by kernel_rfl) ?_))
            go_meet
            case rel =>
              have hR' := R_setRow hR.out D4.out (by decide) #[.int .u8 x.f0, .string x.f1, .int .i64 x.f2, .string x.f3, .int .u8 x.f4, .slice A5 x.f5.length c5]
              exact ⟨x, .slice A5 x.f5.length c5, hit, ⟨below_setRow HB1.out (Nat.le_refl _) _⟩, ⟨setRow_heap w1 w.heap.size _ _ 63 (0, 0) D4.out⟩, ⟨(setRow_other w1 w.heap.size (w.heap.size + 1) _ (by omega)).trans D5.out⟩, ⟨Kd.R_lower hR' HB.out.size⟩⟩
      | some f =>
        have hit : itemR (s.data.toList.headD 0) ws = anyR f ws := hitn
        clear hitn
        cases hrv
        have HO := Aside0.mk (reader_calls f (some ⟨bk, o, none⟩) c0 ws W (by rw [← HK.out]; exact hro.symm) HRW.out hc0 h1 hl)
        rw [List.length_map] at HO
        obtain ⟨r, hr⟩ : ∃ r, r = anyR f ws := ⟨_, rfl⟩
        rw [← hr] at HO hit
        clear hr
        have hf3 : f = 116 ∨ f = 118 ∨ f = 119 := by
          unfold readerOf at hro
          split at hro
          · cases hro; exact .inl rfl
          · split at hro
            · cases hro; exact .inr (.inl rfl)
            · split at hro
              · cases hro; exact .inr (.inr rfl)
              · cases hro
        clear hro
        rcases hf3 with rfl | rfl | rfl
        all_goals
          rcases h329 with h32 | ⟨g1, g2, g3⟩
        all_goals
          go_wp2_with fail
        all_goals
          refine (HO.out).mono ?_
          rintro e w1 ⟨he, hb1⟩
          have HB1 : Aside0 (Below w.heap.size w w1) := ⟨below_step HB.out hb1⟩
          have D4 := Aside0.mk (blk_below B4.out hb1)
          have D5 := Aside0.mk (blk_below B5.out hb1)
          clear hb1
          cases r with
          | none =>
            obtain rfl : e = .panicked noneP := he
            obtain rfl : lr = none := by rw [ELR.out]; unfold lineR; rw [hit]
            exact door_none _ w.heap.size (w.heap.size + 1) _ false w _ (Nat.le_refl _) (Nat.le_succ _) (by omega) rfl rfl D4.out rfl D5.out HB1.out
          | some x =>
            obtain ⟨v5, rfl, hR⟩ := he
            have hR := Aside0.mk hR
            obtain ⟨A5, c5, rfl⟩ := Kd.R_slice hR.out
            go_wp2_with (first | (refine wpList_store_row (P := Tryd.prog) rfl 63 _ _ rfl w.heap.size #[.int .u8 x.f0, .string x.f1, .int .i64 x.f2, .string x.f3, .int .u8 x.f4, .slice A5 x.f5.length c5] rfl rfl 63 _ D4.out (by kernel_rfl) rfl (by kernel_rfl) ?_))
            go_meet
            case rel =>
              have hR' := R_setRow hR.out D4.out (by decide) #[.int .u8 x.f0, .string x.f1, .int .i64 x.f2, .string x.f3, .int .u8 x.f4, .slice A5 x.f5.length c5]
              exact ⟨x, .slice A5 x.f5.length c5, hit, ⟨below_setRow HB1.out (Nat.le_refl _) _⟩, ⟨setRow_heap w1 w.heap.size _ _ 63 (0, 0) D4.out⟩, ⟨(setRow_other w1 w.heap.size (w.heap.size + 1) _ (by omega)).trans D5.out⟩, ⟨Kd.R_lower hR' HB.out.size⟩⟩
  case rest =>
    rename_i hK
    apply hK
    clear hK
    obtain ⟨x, v5, hit, HBc, C4, C5, CR⟩ := hcut
    obtain ⟨A5, c5, e5, hl5, hr5⟩ := Kd.R_reads CR.out
    subst e5
    obtain ⟨K0, hev⟩ := may_ev x.f0 x.f1 x.f2 x.f3 x.f4 x.f5
    have hm := hev K0 (Nat.le_refl _)
    clear hev
    have hlr : lineR (s.data.toList.headD 0) ws = if mayB x.f0 x.f1.data.toList x.f2 x.f3.data.toList x.f4 x.f5.length then some x else none := by unfold lineR; rw [hit]
    clear hit
    obtain ⟨mb, hmb⟩ : ∃ mb, mb = mayB x.f0 x.f1.data.toList x.f2 x.f3.data.toList x.f4 x.f5.length := ⟨_, rfl⟩
    rw [← hmb] at hm hlr
    clear hmb
    rw [← ELR.out] at hlr
    have HLR := Aside0.mk hlr
    clear hlr ELR
    go_wp2_with (refine wpList_load_row (P := Tryd.prog) rfl 63 _ rfl w.heap.size rfl 63 _ (0, 0) _ C4.out Tryd.underlying63 rfl (by kernel_rfl) ?_)
    refine (source_may.calls K0 x.f0 x.f1 x.f2 x.f3 x.f4 A5 c5 x.f5 mb wc hr5 hl5 (HG.out.below HBc.out).gl hm).mono ?_
    rintro e w1 ⟨rfl, hb1⟩
    have HB1 : Aside0 (Below w.heap.size w w1) := ⟨below_step HBc.out hb1⟩
    have D4 := Aside0.mk (blk_below C4.out hb1)
    have D5 := Aside0.mk (blk_below C5.out hb1)
    have DR := Aside0.mk (Kd.R_below CR.out hb1)
    clear hb1 C4 C5 CR HBc hr5 hm
    cases mb with
    | false =>
      obtain rfl : lr = none := HLR.out
      go_wp2_with fail
      refine (must_false _).mono ?_
      rintro e w2 ⟨rfl, rfl⟩
      exact door_none _ w.heap.size (w.heap.size + 1) _ false w _ (Nat.le_refl _) (Nat.le_succ _) (by omega) rfl rfl D4.out rfl D5.out HB1.out
    | true =>
      obtain rfl : lr = some x := HLR.out
      go_wp2_with fail
      refine (must_true _).mono ?_
      rintro e w2 ⟨rfl, rfl⟩
      have E4 := setRow_heap w2 w.heap.size _ #[.int .u8 x.f0, .string x.f1, .int .i64 x.f2, .string x.f3, .int .u8 x.f4, .slice A5 x.f5.length c5] 63 (0, 0) D4.out
      have E5 := (setRow_other w2 w.heap.size (w.heap.size + 1) #[.int .u8 x.f0, .string x.f1, .int .i64 x.f2, .string x.f3, .int .u8 x.f4, .slice A5 x.f5.length c5] (by omega)).trans D5.out
      have y5 := (blk_cell E5 0).trans rfl
      have z5 := blk_frozen E5 0
      have ER := R_setRow DR.out D4.out (by decide) #[.int .u8 x.f0, .string x.f1, .int .i64 x.f2, .string x.f3, .int .u8 x.f4, .slice A5 x.f5.length c5]
      have EB := below_setRow HB1.out (Nat.le_refl _) #[.int .u8 x.f0, .string x.f1, .int .i64 x.f2, .string x.f3, .int .u8 x.f4, .slice A5 x.f5.length c5]
      have E4' := Aside0.mk E4
      have E5' := Aside0.mk E5
      have ER' := Aside0.mk ER
      have EB' := Aside0.mk EB
      clear E4 E5 ER EB
      go_wp2_with (first | (refine wpList_load_row (P := Tryd.prog) rfl 63 _ rfl w.heap.size rfl 63 _ (0, 0) _ D4.out Tryd.underlying63 rfl (by kernel_rfl) ?_) | (refine wpList_store_row (P := Tryd.prog) rfl 63 _ _ rfl w.heap.size #[.int .u8 x.f0, .string x.f1, .int .i64 x.f2, .string x.f3, .int .u8 x.f4, .slice A5 x.f5.length c5] rfl rfl 63 _ D4.out (by kernel_rfl) rfl (by kernel_rfl) ?_))
      exact door_some _ w.heap.size (w.heap.size + 1) x _ w _ rfl rfl (blk_far (p := ⟨w.heap.size + 1, 0, none⟩) E4'.out (by show w.heap.size ≠ w.heap.size + 1; omega) _) (blk_put E5'.out 0 _ rfl) (EB'.out.setCell (Nat.le_succ _) _) (R_setC ER'.out E5'.out (by decide) _)
end Go.Proofs.YthnafgffanlnfaaDoor.PSrc
namespace Go.Proofs.YthnafgffanlnfaaDoor.PSrc
open Go.RowKit Go.Proofs.YthnafgffanlnfaaDoorW.PrintWords Go.Proofs.YthnafgffanlnfaaDoorW.PrintLast Go.Proofs.YthnafgffanlnfaaDoorW.PrintMore
set_option linter.unusedVariables false
def source_words.f (s : ByteArray) : Option (List ByteArray) := if s.size < 4294967281 then some ((lineWords s.data.toList).map mkB) else none
theorem source_words.calls (s : ByteArray) (r : List ByteArray) (w : World) (HG0 : Gl w) (h : source_words.f s = some r) :
    Calls Tryd.prog 58 #[.string s] w fun e w' => ∃ v0_ : Value, e = .returned v0_ ∧ Kd.R Kd.string 9 w' w.heap.size (fun _ => True) v0_ r ∧ Below w.heap.size w w' := by
  unfold source_words.f at h
  split at h
  · rename_i hs
    cases h
    exact words_calls s w hs HG0
  · cases h
def wordsOf (l : List ByteArray) : List (List UInt8) := l.map fun b => b.data.toList
theorem wordsOf_mk (l : List ByteArray) : (wordsOf l).map mkB = l := by
  unfold wordsOf
  rw [List.map_map]
  conv => rhs; rw [← List.map_id l]
  exact List.map_congr_left fun x _ => rfl
def lineT (r : Option S63) : Int × ByteArray × Int × ByteArray × Int × List Int × Bool :=
  match r with
  | some x => (x.f0, x.f1, x.f2, x.f3, x.f4, x.f5, true)
  | none => (0, ⟨#[]⟩, 0, ⟨#[]⟩, 0, [], false)
theorem plain_of_cell {w : World} {ad : Addr} {v : Value} (h : w.cell? ad = some v) : ad = ⟨ad.block, ad.off, none⟩ := by
  rcases ad with ⟨b, o, sp⟩
  cases sp with
  | none => rfl
  | some i =>
    unfold World.cell? at h
    split at h
    · simp at h
    · cases h
theorem kd_plain {w : World} {A : Option Addr} {n : Nat} {l : List ByteArray} (h : Kd.C Kd.string w A n l) (hn : 1 ≤ n) : ∃ bk o, A = some ⟨bk, o, none⟩ := by
  obtain ⟨ad, e1, hx0⟩ := Kd.at_string h 0 (by decide) (by omega)
  have hx1 : w.cell? ad = some (.string (rdOf ByteArray.empty l 0)) := hx0
  exact ⟨ad.block, ad.off, by rw [e1]; exact congrArg some (plain_of_cell hx1)⟩
def source_read.f (s : ByteArray) (l : List ByteArray) : Option (Int × ByteArray × Int × ByteArray × Int × List Int × Bool) :=
  if 1 ≤ l.length ∧ 1 ≤ s.size ∧ l.length ≤ 1000000 ∧ (joinW (wordsOf l)).length ≤ 140737488351232 then some (lineT (lineR (s.data.toList.headD 0) (wordsOf l))) else none
theorem source_read.calls (s : ByteArray) (A : Option Addr) (c : Nat) (l : List ByteArray) (r1 : Int) (r2 : ByteArray) (r3 : Int) (r4 : ByteArray) (r5 : Int) (l6 : List Int) (b : Bool) (w : World) (hr0 : Kd.C Kd.string w A l.length l) (hc0 : l.length ≤ c) (HG0 : Gl w) (h : source_read.f s l = some (r1, r2, r3, r4, r5, l6, b)) :
    Calls Tryd.prog 59 #[.string s, .slice A l.length c] w fun e w' => ∃ v0_ : Value, e = .returned (.tuple #[.agg #[.int .u8 r1, .string r2, .int .i64 r3, .string r4, .int .u8 r5, v0_], .bool b]) ∧ (Kd.int .u8).R 5 w' w.heap.size (fun _ => True) v0_ l6 ∧ Below w.heap.size w w' := by
  unfold source_read.f at h
  split at h
  · rename_i hs
    obtain ⟨g1, g2, g3, g4⟩ := hs
    have el := wordsOf_mk l
    obtain ⟨ws, hws⟩ : ∃ ws, ws = wordsOf l := ⟨_, rfl⟩
    rw [← hws] at el h g4
    have hl : l.length = ws.length := by rw [← el, List.length_map]
    have hA : ∃ bk o, A = some ⟨bk, o, none⟩ := kd_plain hr0 (by omega)
    obtain ⟨bk, o, rfl⟩ := hA
    rw [← el] at hr0 hc0 ⊢
    refine (read_calls s bk o c ws w hr0 hc0 (by omega) g2 (by omega) g4 HG0).mono ?_
    rintro e w' ⟨he, hb⟩
    obtain ⟨r, hr⟩ : ∃ r, r = lineR (s.data.toList.headD 0) ws := ⟨_, rfl⟩
    rw [← hr] at he h
    cases r with
    | none =>
      cases h
      exact ⟨.slice none 0 0, he, Kd.R_nil _ _ _ _ _, hb⟩
    | some x =>
      cases h
      obtain ⟨v5, he, hR⟩ := he
      exact ⟨v5, he, hR, hb⟩
  · cases h
end Go.Proofs.YthnafgffanlnfaaDoor.PSrc
namespace Go.Proofs.YthnafgffanlnfaaDoor.PSrc
open Go.RowKit Go.Proofs.YthnafgffanlnfaaDoorW.PrintWords Go.Proofs.YthnafgffanlnfaaDoorW.PrintLast Go.Proofs.YthnafgffanlnfaaDoorW.PrintMore
attribute [local go_sem] max2_int min2_int max_two min_two max_three min_three max_four min_four   -- for this text's walks alone
set_option linter.unusedVariables false
set_option linter.unusedSimpArgs false
def source_Parse.l0 : Nat → ByteArray → List (S63) → Int → Option ((List (S63)) × Int × Int)
  | 0, _, _, _ => none
  | k + 1, x0, x5, x6 => if x0.toList = ([] : List UInt8) then (if (x5.length : Int) > 4096 then (some (([] : List (S63)), 2, 0)) else (some (x5, 0, 0))) else ((strings_Cut.f x0 (⟨#[10]⟩ : ByteArray)).bind fun bt101 => ((source_words.f bt101.1).bind fun t104 => (if (t104.length : Int) = 0 then (source_Parse.l0 k bt101.2.1 x5 (wrap64 (x6 + 1))) else ((source_read.f bt101.1 t104).bind fun bt107 => (if bt107.2.2.2.2.2.2 = true then (if x5.length < 1759218604441 then (source_Parse.l0 k bt101.2.1 (x5 ++ [(⟨bt107.1, bt107.2.1, bt107.2.2.1, bt107.2.2.2.1, bt107.2.2.2.2.1, bt107.2.2.2.2.2.1⟩ : S63)]) (wrap64 (x6 + 1))) else (none)) else (some (([] : List (S63)), 131, x6)))))))
def source_Parse.f (k : Nat) (a0 : ByteArray) : Option ((List (S63)) × Int × Int) := if (a0.size : Int) > 65536 then (some (([] : List (S63)), 2, 0)) else (source_Parse.l0 k a0 ([] : List (S63)) 1)
theorem source_Parse.mono_l : ∀ k, (∀ y0 y1 y2, LeO (source_Parse.l0 k y0 y1 y2) (source_Parse.l0 (k + 1) y0 y1 y2))
  | 0 => fun _ _ _ r h => by simp [source_Parse.l0] at h
  | k + 1 => by
    have ih0 := source_Parse.mono_l k
    · intro y0 y1 y2
      unfold source_Parse.l0
      repeat' first
      | (with_reducible exact ih0 _ _ _)
      | (with_reducible exact LeO.refl _)
      | (with_reducible exact LeO.none _)
      | (with_reducible refine LeO.ite ?_ ?_)
      | (with_reducible refine LeO.bind ?_ (fun _ => ?_))
      | exact ih0 _ _ _
      | exact LeO.none _
      | refine LeO.ite ?_ ?_
      | refine LeO.bind ?_ (fun _ => ?_)
theorem source_Parse.mono : ∀ a0 k, LeO (source_Parse.f k a0) (source_Parse.f (k + 1) a0) := by
  intro a0 k
  have ih0 := source_Parse.mono_l k
  unfold source_Parse.f
  repeat' first
      | (with_reducible exact ih0 _ _ _)
      | (with_reducible exact LeO.refl _)
      | (with_reducible exact LeO.none _)
      | (with_reducible refine LeO.ite ?_ ?_)
      | (with_reducible refine LeO.bind ?_ (fun _ => ?_))
      | exact ih0 _ _ _
      | exact LeO.none _
      | refine LeO.ite ?_ ?_
      | refine LeO.bind ?_ (fun _ => ?_)
set_option maxHeartbeats 8000000 in
set_option maxRecDepth 100000 in
theorem source_Parse.calls (k : Nat) (a0 : ByteArray) (r1 : List (S63)) (r2 : Int) (r3 : Int) (w : World) (HG0 : Gl w) (h : source_Parse.f k a0 = some (r1, r2, r3)) :
    Calls Tryd.prog 29 #[.string a0] w fun e w' => ∃ v0_ : Value, e = .returned (.tuple #[v0_, .int .i64 r2, .int .i64 r3]) ∧ Kd.S k63 63 w' w.heap.size (fun _ => True) v0_ r1 ∧ Below w.heap.size w w' := by
  have hu63 := Tryd.underlying63
  have HG := Aside0.mk HG0
  clear HG0
  have HB := Aside0.mk (Below.refl w.heap.size w)
  have H : (if (a0.size : Int) > 65536 then (some (([] : List (S63)), 2, 0)) else (source_Parse.l0 k a0 ([] : List (S63)) 1)) = some (r1, r2, r3) := h
  clear h
  by_cases c2 : (a0.size : Int) > 65536
  · rw [if_pos c2] at H
    have c2b0 : decide (65536 < (a0.size : Int)) = true := decide_eq_true c2
    have c2b1 : decide (65536 < a0.size) = true := decide_eq_true (by omega)
    clear c2
    simp only [Option.some.injEq, Prod.mk.injEq] at H
    obtain ⟨rfl, rfl, rfl⟩ := H
    go_enter Tryd.func29, Tryd.ntmps29
    go_wp2
    go_ret3
    exact ⟨_, by first | rfl | (simp [errW_none, errW_some] <;> rfl) | (simp [*, errW_none, errW_some] <;> rfl), by first | exact Kd.S_nil _ _ _ _ _ | exact Kd.N_nil _ _ _ _ _ | exact Kd.V_nil _ _ _ _ _ | exact Kd.Q_nil _ _ _ _ _ | exact Kd.R_nil _ _ _ _ _, by repeat (first | (with_reducible first | exact HB.out | apply below_alloc | apply pw_below_drewN | apply below_drew1) | exact HB.out)⟩
  · rw [if_neg c2] at H
    have c2b0 : decide (65536 < (a0.size : Int)) = false := decide_eq_false c2
    have c2b1 : decide (65536 < a0.size) = false := decide_eq_false (by omega)
    clear c2
    have H' := Aside0.mk H
    clear H
    go_enter Tryd.func29, Tryd.ntmps29
    go_wp2
    go_loopg [0, 5, 6] k (fun kq v0 v5 v6 w' => ∃ (x0_1 : ByteArray) (x5_1 : List (S63)) (x6_1 : Int), v0 = .string x0_1 ∧ v6 = .int .i64 x6_1 ∧ Aside0 (source_Parse.l0 kq x0_1 x5_1 x6_1 = some (r1, r2, r3)) ∧ Aside0 (kq ≤ k) ∧ Aside0 (Kd.S k63 63 w' w.heap.size (fun _ => True) v5 x5_1) ∧ Aside0 (Below w.heap.size w w'))
    case atStart => exact ⟨(a0), (([] : List (S63))), (1), (by first | rfl | (simp; done) | (simp [*]; done)), (by first | rfl | (simp; done) | (simp [*]; done)), H', ⟨Nat.le_refl _⟩, ⟨by first | exact Kd.S_nil _ _ _ _ _ | exact Kd.N_nil _ _ _ _ _ | exact Kd.V_nil _ _ _ _ _ | exact Kd.Q_nil _ _ _ _ _ | exact Kd.R_nil _ _ _ _ _⟩, ⟨by repeat (first | (with_reducible first | exact HB.out | apply below_alloc | apply pw_below_drewN | apply below_drew1) | exact HB.out)⟩⟩
    case round =>
      clear H'
      try clear c2
      try clear c2b0
      try clear c2b1
      try clear p2
      obtain ⟨x0_1, x5_1, x6_1, rfl, rfl, HA, HK1, HO_5, HB⟩ := hrel
      cases gk with
      | zero => exact absurd HA.out (by simp [source_Parse.l0])
      | succ k1 =>
        have H := HA.out
        clear HA
        simp only [source_Parse.l0] at H
        by_cases c3 : x0_1.toList = ([] : List UInt8)
        · rw [if_pos c3] at H
          have c3b0 : (x0_1.toList == ([] : List UInt8)) = true := beq_iff_eq.mpr c3
          have c3b1 : (x0_1.toList != ([] : List UInt8)) = false := bne_eq_false_iff_eq.mpr c3
          clear c3
          by_cases c4 : (x5_1.length : Int) > 4096
          · rw [if_pos c4] at H
            have c4b0 : decide (4096 < (x5_1.length : Int)) = true := decide_eq_true c4
            have c4b1 : decide (4096 < x5_1.length) = true := decide_eq_true (by omega)
            clear c4
            simp only [Option.some.injEq, Prod.mk.injEq] at H
            obtain ⟨rfl, rfl, rfl⟩ := H
            obtain ⟨Ao5, co5, eo5⟩ := Kd.S_slice HO_5.out
            subst eo5
            go_wp2
            go_ret3
            exact ⟨_, by first | rfl | (simp [errW_none, errW_some] <;> rfl) | (simp [*, errW_none, errW_some] <;> rfl), by first | exact Kd.S_nil _ _ _ _ _ | exact Kd.N_nil _ _ _ _ _ | exact Kd.V_nil _ _ _ _ _ | exact Kd.Q_nil _ _ _ _ _ | exact Kd.R_nil _ _ _ _ _, by repeat (first | (with_reducible first | exact HB.out | apply below_alloc | apply pw_below_drewN | apply below_drew1) | exact HB.out)⟩
          · rw [if_neg c4] at H
            have c4b0 : decide (4096 < (x5_1.length : Int)) = false := decide_eq_false c4
            have c4b1 : decide (4096 < x5_1.length) = false := decide_eq_false (by omega)
            clear c4
            simp only [Option.some.injEq, Prod.mk.injEq] at H
            obtain ⟨rfl, rfl, rfl⟩ := H
            obtain ⟨Ao6, co6, eo6⟩ := Kd.S_slice HO_5.out
            subst eo6
            go_wp2
            go_ret3
            exact ⟨_, by first | rfl | (simp [errW_none, errW_some] <;> rfl) | (simp [*, errW_none, errW_some] <;> rfl), by (with_reducible repeat (first | apply Kd.S_alloc | apply Kd.S_drewN | apply Kd.S_drew)); exact HO_5.out, by repeat (first | (with_reducible first | exact HB.out | apply below_alloc | apply pw_below_drewN | apply below_drew1) | exact HB.out)⟩
        · rw [if_neg c3] at H
          have c3b0 : (x0_1.toList == ([] : List UInt8)) = false := beq_eq_false_iff_ne.mpr c3
          have c3b1 : (x0_1.toList != ([] : List UInt8)) = true := bne_iff_ne.mpr c3
          replace H := Option.bind_eq_some_iff.mp H
          obtain ⟨⟨t101, t102, t103⟩, A70, H⟩ := H
          replace H : ((source_words.f t101).bind fun t104 => (if (t104.length : Int) = 0 then (source_Parse.l0 k1 t102 x5_1 (wrap64 (x6_1 + 1))) else ((source_read.f t101 t104).bind fun bt107 => (if bt107.2.2.2.2.2.2 = true then (if x5_1.length < 1759218604441 then (source_Parse.l0 k1 t102 (x5_1 ++ [(⟨bt107.1, bt107.2.1, bt107.2.2.1, bt107.2.2.2.1, bt107.2.2.2.2.1, bt107.2.2.2.2.2.1⟩ : S63)]) (wrap64 (x6_1 + 1))) else (none)) else (some (([] : List (S63)), 131, x6_1)))))) = some (r1, r2, r3) := H
          have A7 := Aside0.mk A70
          clear A70
          replace H := Option.bind_eq_some_iff.mp H
          obtain ⟨t104, A80, H⟩ := H
          replace H : (if (t104.length : Int) = 0 then (source_Parse.l0 k1 t102 x5_1 (wrap64 (x6_1 + 1))) else ((source_read.f t101 t104).bind fun bt107 => (if bt107.2.2.2.2.2.2 = true then (if x5_1.length < 1759218604441 then (source_Parse.l0 k1 t102 (x5_1 ++ [(⟨bt107.1, bt107.2.1, bt107.2.2.1, bt107.2.2.2.1, bt107.2.2.2.2.1, bt107.2.2.2.2.2.1⟩ : S63)]) (wrap64 (x6_1 + 1))) else (none)) else (some (([] : List (S63)), 131, x6_1))))) = some (r1, r2, r3) := H
          have A8 := Aside0.mk A80
          clear A80
          by_cases c9 : (t104.length : Int) = 0
          · rw [if_pos c9] at H
            have c9b0 : ((t104.length : Int) == 0) = true := beq_iff_eq.mpr c9
            have c9b1 : ((t104.length : Int) != 0) = false := bne_eq_false_iff_eq.mpr c9
            clear c9
            have H' := Aside0.mk H
            clear H
            go_wp2_with (first | ((with_reducible refine gate_callee (f := 57) rfl ?_); refine goesL_ (some 22) rfl rfl Tryd.func57 (by kernel_rfl) rfl #[.string x0_1, .string (⟨#[10]⟩ : ByteArray)] rfl (by (try simp only [List.map_toArray, List.map_cons, List.map_nil]); first | done | rfl | (simp only [List.length_drop, List.length_take]; rfl)) ?_; (with_reducible refine (strings_Cut.calls x0_1 (⟨#[10]⟩ : ByteArray) t101 t102 t103 _ ?side1 A7.out).mono ?_); (case side1 => first | (with_reducible exact HG.out) | (with_reducible exact (HG.out).below HB.out) | (with_reducible exact (HG.out).same World.heap_drewN) | (refine (HG.out).below ?_; (repeat (first | (with_reducible first | exact HB.out | apply below_alloc | apply pw_below_drewN | apply below_drew1) | exact HB.out)); done) | exact (HG.out).same rfl); rintro e w' ⟨rfl, ⟨nd, rfl⟩⟩; refine ⟨_, rfl, ?_⟩) | ((with_reducible refine gate_callee (f := 58) rfl ?_); refine goesL_ (some 28) rfl rfl Tryd.func58 (by kernel_rfl) rfl #[.string t101] rfl (by (try simp only [List.map_toArray, List.map_cons, List.map_nil]); first | done | rfl | (simp only [List.length_drop, List.length_take]; rfl)) ?_; (with_reducible refine (source_words.calls t101 t104 _ ?side1 A8.out).mono ?_); (case side1 => first | (with_reducible exact HG.out) | (with_reducible exact (HG.out).below HB.out) | (with_reducible exact (HG.out).same World.heap_drewN) | (refine (HG.out).below ?_; (repeat (first | (with_reducible first | exact HB.out | apply below_alloc | apply pw_below_drewN | apply below_drew1) | exact HB.out)); done) | exact (HG.out).same rfl); rintro e w10 ⟨v105, rfl, ho0, hb⟩; refine ⟨_, rfl, ?_⟩; have n0_ := Aside0.mk (Kd.S_below (by (with_reducible repeat (first | apply Kd.S_alloc | apply Kd.S_drewN | apply Kd.S_drew)); exact HO_5.out) hb); have n1_ := Aside0.mk (Kd.R_lower ho0 (below_size (by repeat (first | (with_reducible first | exact HB.out | apply below_alloc | apply pw_below_drewN | apply below_drew1) | exact HB.out)))); have n2_ := Aside0.mk (below_step (by repeat (first | (with_reducible first | exact HB.out | apply below_alloc | apply pw_below_drewN | apply below_drew1) | exact HB.out)) hb); clear HO_5; clear HB; have HO_5 := n0_; have HO106 := n1_; have HB := n2_; clear n0_ n1_ n2_; (try clear hb); (try clear hb2); (try clear hk); (try clear hi); (try clear ho0); obtain ⟨Ao11, co11, eo11⟩ := Kd.R_slice HO106.out; subst eo11))
            go_roundg k1
            case measure => have := HK1.out; omega
            case rel => exact ⟨(t102), (x5_1), (wrap64 (x6_1 + 1)), (by first | rfl | (simp; done) | (simp [*]; done)), (by first | rfl | (simp; done) | (simp [*]; done)), H', ⟨by have := HK1.out; omega⟩, ⟨by (with_reducible repeat (first | apply Kd.S_alloc | apply Kd.S_drewN | apply Kd.S_drew)); exact HO_5.out⟩, ⟨by repeat (first | (with_reducible first | exact HB.out | apply below_alloc | apply pw_below_drewN | apply below_drew1) | exact HB.out)⟩⟩
          · rw [if_neg c9] at H
            have c9b0 : ((t104.length : Int) == 0) = false := beq_eq_false_iff_ne.mpr c9
            have c9b1 : ((t104.length : Int) != 0) = true := bne_iff_ne.mpr c9
            have c9b2 : ¬ (t104 = []) := fun h_ => c9 (by rw [h_]; rfl)
            replace H := Option.bind_eq_some_iff.mp H
            obtain ⟨⟨t107, t108, t109, t110, t111, t112, t115⟩, A120, H⟩ := H
            replace H : (if t115 = true then (if x5_1.length < 1759218604441 then (source_Parse.l0 k1 t102 (x5_1 ++ [(⟨t107, t108, t109, t110, t111, t112⟩ : S63)]) (wrap64 (x6_1 + 1))) else (none)) else (some (([] : List (S63)), 131, x6_1))) = some (r1, r2, r3) := H
            have A12 := Aside0.mk A120
            clear A120
            by_cases c13 : t115 = true
            · subst c13
              have H1 : (if x5_1.length < 1759218604441 then (source_Parse.l0 k1 t102 (x5_1 ++ [(⟨t107, t108, t109, t110, t111, t112⟩ : S63)]) (wrap64 (x6_1 + 1))) else (none)) = some (r1, r2, r3) := by rw [if_pos rfl] at H; exact H
              clear H
              have H := H1
              clear H1
              by_cases c14 : x5_1.length < 1759218604441
              · rw [if_pos c14] at H
                have LMc14 := Aside0.mk c14
                clear c14
                obtain ⟨y117, hy117⟩ : ∃ y_ : List (S63), y_ = (x5_1 ++ [(⟨t107, t108, t109, t110, t111, t112⟩ : S63)]) := ⟨_, rfl⟩
                replace H : (source_Parse.l0 k1 t102 y117 (wrap64 (x6_1 + 1))) = some (r1, r2, r3) := by first | (rw [hy117]; with_reducible exact H) | (have H2_ := (Option.bind_some _ _).symm.trans H; rw [hy117]; with_reducible exact H2_) | (have H2_ := (Option.bind_some _ _).symm.trans H; with_reducible exact H2_) | with_reducible exact H | (rw [hy117]; exact H) | exact H
                have Ny117 := Aside0.mk hy117
                clear hy117
                have H' := Aside0.mk H
                clear H
                go_wp2_with (first | ((with_reducible refine gate_callee (f := 57) rfl ?_); refine goesL_ (some 22) rfl rfl Tryd.func57 (by kernel_rfl) rfl #[.string x0_1, .string (⟨#[10]⟩ : ByteArray)] rfl (by (try simp only [List.map_toArray, List.map_cons, List.map_nil]); first | done | rfl | (simp only [List.length_drop, List.length_take]; rfl)) ?_; (with_reducible refine (strings_Cut.calls x0_1 (⟨#[10]⟩ : ByteArray) t101 t102 t103 _ ?side1 A7.out).mono ?_); (case side1 => first | (with_reducible exact HG.out) | (with_reducible exact (HG.out).below HB.out) | (with_reducible exact (HG.out).same World.heap_drewN) | (refine (HG.out).below ?_; (repeat (first | (with_reducible first | exact HB.out | apply below_alloc | apply pw_below_drewN | apply below_drew1) | exact HB.out)); done) | exact (HG.out).same rfl); rintro e w' ⟨rfl, ⟨nd, rfl⟩⟩; refine ⟨_, rfl, ?_⟩; (try (rw [drewN_self wr]; generalize hq_ : World.drewN wr _ = wr; have n0_ : Aside0 (Kd.S k63 63 wr w.heap.size (fun _ => True) u5 x5_1) := ⟨by rw [← hq_]; exact (by (with_reducible repeat (first | apply Kd.S_alloc | apply Kd.S_drewN | apply Kd.S_drew)); exact HO_5.out)⟩; have n1_ : Aside0 (Below w.heap.size w wr) := ⟨by rw [← hq_]; exact (by repeat (first | (with_reducible first | exact HB.out | apply below_alloc | apply pw_below_drewN | apply below_drew1) | exact HB.out))⟩; clear HO_5 HB hq_; have HO_5 := n0_; have HB := n1_; clear n0_ n1_))) | ((with_reducible refine gate_callee (f := 58) rfl ?_); refine goesL_ (some 28) rfl rfl Tryd.func58 (by kernel_rfl) rfl #[.string t101] rfl (by (try simp only [List.map_toArray, List.map_cons, List.map_nil]); first | done | rfl | (simp only [List.length_drop, List.length_take]; rfl)) ?_; (with_reducible refine (source_words.calls t101 t104 _ ?side1 A8.out).mono ?_); (case side1 => first | (with_reducible exact HG.out) | (with_reducible exact (HG.out).below HB.out) | (with_reducible exact (HG.out).same World.heap_drewN) | (refine (HG.out).below ?_; (repeat (first | (with_reducible first | exact HB.out | apply below_alloc | apply pw_below_drewN | apply below_drew1) | exact HB.out)); done) | exact (HG.out).same rfl); rintro e w15 ⟨v105, rfl, ho0, hb⟩; refine ⟨_, rfl, ?_⟩; have n0_ := Aside0.mk (Kd.S_below (by (with_reducible repeat (first | apply Kd.S_alloc | apply Kd.S_drewN | apply Kd.S_drew)); exact HO_5.out) hb); have n1_ := Aside0.mk (Kd.R_lower ho0 (below_size (by repeat (first | (with_reducible first | exact HB.out | apply below_alloc | apply pw_below_drewN | apply below_drew1) | exact HB.out)))); have n2_ := Aside0.mk (below_step (by repeat (first | (with_reducible first | exact HB.out | apply below_alloc | apply pw_below_drewN | apply below_drew1) | exact HB.out)) hb); clear HO_5; clear HB; have HO_5 := n0_; have HO106 := n1_; have HB := n2_; clear n0_ n1_ n2_; (try clear hb); (try clear hb2); (try clear hk); (try clear hi); (try clear ho0); obtain ⟨Ao16, co16, eo16⟩ := Kd.R_slice HO106.out; subst eo16) | ((with_reducible refine gate_callee (f := 59) rfl ?_); refine goesL_ (some 35) rfl rfl Tryd.func59 (by kernel_rfl) rfl #[.string t101, .slice Ao16 t104.length co16] rfl (by (try simp only [List.map_toArray, List.map_cons, List.map_nil]); first | done | rfl | (simp only [List.length_drop, List.length_take]; rfl)) ?_; (with_reducible refine (source_read.calls t101 _ _ t104 t107 t108 t109 t110 t111 t112 true _ ?side1 ?side2 ?side3 A12.out).mono ?_); (case side1 => repeat (first | exact (Kd.R_reads' HO106.out).2.2 | (with_reducible refine Kd.C_alloc ?_ _) | (with_reducible refine Kd.C_drewN ?_ _) | (with_reducible refine Kd.C_drew ?_))); (case side2 => exact (Kd.R_reads' HO106.out).2.1); (case side3 => first | (with_reducible exact HG.out) | (with_reducible exact (HG.out).below HB.out) | (with_reducible exact (HG.out).same World.heap_drewN) | (refine (HG.out).below ?_; (repeat (first | (with_reducible first | exact HB.out | apply below_alloc | apply pw_below_drewN | apply below_drew1) | exact HB.out)); done) | exact (HG.out).same rfl); rintro e w17 ⟨v113, rfl, ho0, hb⟩; refine ⟨_, rfl, ?_⟩; have n0_ := Aside0.mk (Kd.S_elder' (by (with_reducible repeat (first | apply Kd.S_alloc | apply Kd.S_drewN | apply Kd.S_drew)); exact HO_5.out) (Kd.R_base ho0) hb); have n1_ := Aside0.mk (Kd.R_below (by (with_reducible repeat (first | apply Kd.R_alloc | apply Kd.R_drewN | apply Kd.R_drew)); exact HO106.out) hb); have n2_ := Aside0.mk (Kd.R_lower ho0 (below_size (by repeat (first | (with_reducible first | exact HB.out | apply below_alloc | apply pw_below_drewN | apply below_drew1) | exact HB.out)))); have n3_ := Aside0.mk (below_step (by repeat (first | (with_reducible first | exact HB.out | apply below_alloc | apply pw_below_drewN | apply below_drew1) | exact HB.out)) hb); clear HO_5; clear HO106; clear HB; have HO_5 := n0_; have HO106 := n1_; have HO114 := n2_; have HB := n3_; clear n0_ n1_ n2_ n3_; (try clear hb); (try clear hb2); (try clear hk); (try clear hi); (try clear ho0)) | ((with_reducible refine gate_dst (N := 11) rfl ?_); refine box_event ?hg (N := 11) ?hd (cs := #[.int .u8 0, .string (⟨#[]⟩ : ByteArray), .int .i64 0, .string (⟨#[]⟩ : ByteArray), .int .u8 0, .slice none 0 0]) (t := 63) ?hr ?_; (case hd => rfl); (case hg => rfl); (case hr => first | (go_simp; done) | (go_simp; rfl)); intro gb116 hg w18 hbox hb; have n0_ := Aside0.mk (Kd.S_below (Kd.S_elderB (by (with_reducible repeat (first | apply Kd.S_alloc | apply Kd.S_drewN | apply Kd.S_drew)); exact HO_5.out) gb116 (Nat.le_of_eq hg.symm)) hb); have n1_ := Aside0.mk (Kd.R_below (by (with_reducible repeat (first | apply Kd.R_alloc | apply Kd.R_drewN | apply Kd.R_drew)); exact HO106.out) hb); have n2_ := Aside0.mk (Kd.R_below (by (with_reducible repeat (first | apply Kd.R_alloc | apply Kd.R_drewN | apply Kd.R_drew)); exact HO114.out) hb); have n3_ := Aside0.mk (below_step (by repeat (first | (with_reducible first | exact HB.out | apply below_alloc | apply pw_below_drewN | apply below_drew1) | exact HB.out)) hb); have n4_ := Aside0.mk (hbox); have n5_ := Aside0.mk ((by rw [hg]; exact (below_size (by repeat (first | (with_reducible first | exact HB.out | apply below_alloc | apply pw_below_drewN | apply below_drew1) | exact HB.out))) : w.heap.size ≤ gb116)); have n6_ := Aside0.mk ((by rw [hg]; exact (below_size (by repeat (first | (with_reducible first | exact HB.out | apply below_alloc | apply pw_below_drewN | apply below_drew1) | exact HB.out))) : w.heap.size ≤ gb116)); clear HO_5; clear HO106; clear HO114; clear HB; have HO_5 := n0_; have HO106 := n1_; have HO114 := n2_; have HB := n3_; have BK116 := n4_; have GW116 := n5_; have GE116 := n6_; clear n0_ n1_ n2_ n3_ n4_ n5_ n6_; clear hb hbox hg; have hcz19_0 : w18.cell? ⟨gb116, 0, none⟩ = some (.int .u8 0) := (blk_cell BK116.out 0).trans rfl; have hcz19_1 : w18.cell? ⟨gb116, 1, none⟩ = some (.string (⟨#[]⟩ : ByteArray)) := (blk_cell BK116.out 1).trans rfl; have hcz19_2 : w18.cell? ⟨gb116, 2, none⟩ = some (.int .i64 0) := (blk_cell BK116.out 2).trans rfl; have hcz19_3 : w18.cell? ⟨gb116, 3, none⟩ = some (.string (⟨#[]⟩ : ByteArray)) := (blk_cell BK116.out 3).trans rfl; have hcz19_4 : w18.cell? ⟨gb116, 4, none⟩ = some (.int .u8 0) := (blk_cell BK116.out 4).trans rfl; have hcz19_5 : w18.cell? ⟨gb116, 5, none⟩ = some (.slice none 0 0) := (blk_cell BK116.out 5).trans rfl; have hfz19_0 := blk_frozen BK116.out 0; have hfz19_1 := blk_frozen BK116.out 1; have hfz19_2 := blk_frozen BK116.out 2; have hfz19_3 := blk_frozen BK116.out 3; have hfz19_4 := blk_frozen BK116.out 4; have hfz19_5 := blk_frozen BK116.out 5; obtain ⟨Ao20, co20, eo20⟩ := Kd.R_slice HO114.out; subst eo20) | ((with_reducible refine gate_store (t := 63) (p := 11) rfl ?_); refine store_event (t := 63) (p := 11) (v := ?vo_w21) (w1 := ((((((w18.setCell ⟨gb116, 0, none⟩ (.int .u8 t107)).setCell ⟨gb116, 1, none⟩ (.string t108)).setCell ⟨gb116, 2, none⟩ (.int .i64 t109)).setCell ⟨gb116, 3, none⟩ (.string t110)).setCell ⟨gb116, 4, none⟩ (.int .u8 t111)).setCell ⟨gb116, 5, none⟩ (.slice Ao20 t112.length co20))) ?hg ?ho ?hn ?hr ?_; (case ho => rfl); (case hg => rfl); (case hn => rfl); (case hr => first | (go_simp; done) | (go_simp; rfl)); intro w21 hw; have n0_ : Aside0 (Kd.S k63 63 w21 w.heap.size (fun k_ => some k_ ≠ (.slice Ao20 t112.length co20 : Value).ownBlock ∧ k_ ≠ gb116) u5 x5_1) := ⟨(by rw [hw]; exact (by (with_reducible repeat (first | apply Kd.S_alloc | apply Kd.S_drewN | apply Kd.S_drew)); exact Kd.S_mono (Kd.S_far (p := ⟨gb116, 5, none⟩) (Kd.S_far (p := ⟨gb116, 4, none⟩) (Kd.S_far (p := ⟨gb116, 3, none⟩) (Kd.S_far (p := ⟨gb116, 2, none⟩) (Kd.S_far (p := ⟨gb116, 1, none⟩) (Kd.S_far (p := ⟨gb116, 0, none⟩) (Kd.S_mono HO_5.out (fun k_ hk => (⟨hk, hk.2⟩ : _ ∧ k_ ≠ gb116))) (fun _ hk => hk.2) (.int .u8 t107)) (fun _ hk => hk.2) (.string t108)) (fun _ hk => hk.2) (.int .i64 t109)) (fun _ hk => hk.2) (.string t110)) (fun _ hk => hk.2) (.int .u8 t111)) (fun _ hk => hk.2) (.slice Ao20 t112.length co20)) (fun _ hk => ⟨hk.1.1.2, hk.1.2⟩)))⟩; have n1_ : Aside0 (Kd.R Kd.string 9 w21 w.heap.size (fun _ => True) (.slice Ao16 t104.length co16) t104) := ⟨(by rw [hw]; exact (by (with_reducible repeat (first | apply Kd.R_alloc | apply Kd.R_drewN | apply Kd.R_drew)); exact Kd.R_mono (Kd.R_far (p := ⟨gb116, 5, none⟩) (Kd.R_far (p := ⟨gb116, 4, none⟩) (Kd.R_far (p := ⟨gb116, 3, none⟩) (Kd.R_far (p := ⟨gb116, 2, none⟩) (Kd.R_far (p := ⟨gb116, 1, none⟩) (Kd.R_far (p := ⟨gb116, 0, none⟩) (Kd.R_types HO106.out BK116.out (by decide)) (fun _ hk => hk.2) (.int .u8 t107)) (fun _ hk => hk.2) (.string t108)) (fun _ hk => hk.2) (.int .i64 t109)) (fun _ hk => hk.2) (.string t110)) (fun _ hk => hk.2) (.int .u8 t111)) (fun _ hk => hk.2) (.slice Ao20 t112.length co20)) (fun _ hk => trivial)))⟩; have n2_ : Aside0 (Kd.R (Kd.int .u8) 5 w21 w.heap.size (fun _ => True) (.slice Ao20 t112.length co20) t112) := ⟨(by rw [hw]; exact (by (with_reducible repeat (first | apply Kd.R_alloc | apply Kd.R_drewN | apply Kd.R_drew)); exact Kd.R_mono (Kd.R_far (p := ⟨gb116, 5, none⟩) (Kd.R_far (p := ⟨gb116, 4, none⟩) (Kd.R_far (p := ⟨gb116, 3, none⟩) (Kd.R_far (p := ⟨gb116, 2, none⟩) (Kd.R_far (p := ⟨gb116, 1, none⟩) (Kd.R_far (p := ⟨gb116, 0, none⟩) (Kd.R_types HO114.out BK116.out (by decide)) (fun _ hk => hk.2) (.int .u8 t107)) (fun _ hk => hk.2) (.string t108)) (fun _ hk => hk.2) (.int .i64 t109)) (fun _ hk => hk.2) (.string t110)) (fun _ hk => hk.2) (.int .u8 t111)) (fun _ hk => hk.2) (.slice Ao20 t112.length co20)) (fun _ hk => trivial)))⟩; have n3_ : Aside0 (w21.heap[gb116]? = some (.cells #[.int .u8 t107, .string t108, .int .i64 t109, .string t110, .int .u8 t111, .slice Ao20 t112.length co20] 63 (0, 0))) := ⟨(by rw [hw]; exact (by (with_reducible repeat (first | refine blk_drewN ?_ _ | refine blk_drew ?_ | refine blk_alloc ?_ _)); refine blk_put (cs := #[.int .u8 t107, .string t108, .int .i64 t109, .string t110, .int .u8 t111, .slice none 0 0]) ?_ 5 _ rfl; (with_reducible repeat (first | refine blk_drewN ?_ _ | refine blk_drew ?_ | refine blk_alloc ?_ _)); refine blk_put (cs := #[.int .u8 t107, .string t108, .int .i64 t109, .string t110, .int .u8 0, .slice none 0 0]) ?_ 4 _ rfl; (with_reducible repeat (first | refine blk_drewN ?_ _ | refine blk_drew ?_ | refine blk_alloc ?_ _)); refine blk_put (cs := #[.int .u8 t107, .string t108, .int .i64 t109, .string (⟨#[]⟩ : ByteArray), .int .u8 0, .slice none 0 0]) ?_ 3 _ rfl; (with_reducible repeat (first | refine blk_drewN ?_ _ | refine blk_drew ?_ | refine blk_alloc ?_ _)); refine blk_put (cs := #[.int .u8 t107, .string t108, .int .i64 0, .string (⟨#[]⟩ : ByteArray), .int .u8 0, .slice none 0 0]) ?_ 2 _ rfl; (with_reducible repeat (first | refine blk_drewN ?_ _ | refine blk_drew ?_ | refine blk_alloc ?_ _)); refine blk_put (cs := #[.int .u8 t107, .string (⟨#[]⟩ : ByteArray), .int .i64 0, .string (⟨#[]⟩ : ByteArray), .int .u8 0, .slice none 0 0]) ?_ 1 _ rfl; (with_reducible repeat (first | refine blk_drewN ?_ _ | refine blk_drew ?_ | refine blk_alloc ?_ _)); refine blk_put (cs := #[.int .u8 0, .string (⟨#[]⟩ : ByteArray), .int .i64 0, .string (⟨#[]⟩ : ByteArray), .int .u8 0, .slice none 0 0]) ?_ 0 _ rfl; (with_reducible repeat (first | refine blk_drewN ?_ _ | refine blk_drew ?_ | refine blk_alloc ?_ _)); exact BK116.out))⟩; have n4_ : Aside0 (Below w.heap.size w w21) := ⟨(by rw [hw]; exact (by repeat (first | (with_reducible first | exact HB.out | apply below_alloc | apply pw_below_drewN | apply below_drew1 | refine below_set ?_ GE116.out) | exact HB.out)))⟩; clear hw; clear HO_5; clear HO106; clear HO114; clear BK116; clear HB; have HO_5 := n0_; have HO106 := n1_; have HO114 := n2_; have BK116 := n3_; have HB := n4_; clear n0_ n1_ n2_ n3_ n4_; have hcz22_0 : w21.cell? ⟨gb116, 0, none⟩ = some (.int .u8 t107) := (blk_cell BK116.out 0).trans rfl; have hcz22_1 : w21.cell? ⟨gb116, 1, none⟩ = some (.string t108) := (blk_cell BK116.out 1).trans rfl; have hcz22_2 : w21.cell? ⟨gb116, 2, none⟩ = some (.int .i64 t109) := (blk_cell BK116.out 2).trans rfl; have hcz22_3 : w21.cell? ⟨gb116, 3, none⟩ = some (.string t110) := (blk_cell BK116.out 3).trans rfl; have hcz22_4 : w21.cell? ⟨gb116, 4, none⟩ = some (.int .u8 t111) := (blk_cell BK116.out 4).trans rfl; have hcz22_5 : w21.cell? ⟨gb116, 5, none⟩ = some (.slice Ao20 t112.length co20) := (blk_cell BK116.out 5).trans rfl; have hfz22_0 := blk_frozen BK116.out 0; have hfz22_1 := blk_frozen BK116.out 1; have hfz22_2 := blk_frozen BK116.out 2; have hfz22_3 := blk_frozen BK116.out 3; have hfz22_4 := blk_frozen BK116.out 4; have hfz22_5 := blk_frozen BK116.out 5) | ((with_reducible refine gate_builtin (b := .append) (xs := #[.tmp 41, .tmp 43]) rfl ?_); at_builtin; refine Kd.S_append k63 (w0 := w) w.heap.size rfl (.tmp 41) (.tmp 43) 45 63 (.agg #[(.int .u8 0), (.string ⟨#[]⟩), (.int .i64 0), (.string ⟨#[]⟩), (.int .u8 0), (.slice none 0 0)]) 80 rfl Tryd.underlying45 info63 rfl (by decide) (by omega) u5 x5_1 (⟨t107, t108, t109, t110, t111, t112⟩ : S63) [.int .u8 t107, .string t108, .int .i64 t109, .string t110, .int .u8 t111, .slice Ao20 t112.length co20] (fun k_ => k_ ≠ gb116) (fun k_ => some k_ = (.slice Ao20 t112.length co20 : Value).ownBlock) rfl rfl ?aP (fun k_ hk_ => ((Kd.R_mono (ok' := fun k_ => ((fun k_ => k_ ≠ gb116)) k_ ∧ some k_ ≠ (u5 : Value).ownBlock) (Kd.R_types (Kd.R_apart' (HO114.out) (Kd.S_typed HO_5.out) (by decide)) BK116.out (by decide)) (fun k_ hk => ⟨hk.2, hk.1.2⟩))).1 k_ hk_.symm) ?aF ?aO ?aB ?aS ?aL ?_; (case aP => exact k63_mkM _ _ _ (⟨t107, t108, t109, t110, t111, t112⟩ : S63) (Kd.R_mono (Kd.R_tight rfl (Kd.R_mono (ok' := fun k_ => ((fun k_ => k_ ≠ gb116)) k_ ∧ some k_ ≠ (u5 : Value).ownBlock) (Kd.R_types (Kd.R_apart' (HO114.out) (Kd.S_typed HO_5.out) (by decide)) BK116.out (by decide)) (fun k_ hk => ⟨hk.2, hk.1.2⟩))) (fun _ h_ => h_))); (case aB => exact (by repeat (first | (with_reducible first | exact HB.out | apply below_alloc | apply pw_below_drewN | apply below_drew1 | refine below_set ?_ GE116.out) | exact HB.out))); (case aF => exact (fun k_ hk => Kd.freshB (g := gb116) (o := .cells #[.int .u8 t107, .string t108, .int .i64 t109, .string t110, .int .u8 t111, .slice Ao20 t112.length co20] 63 (0, 0)) (by (with_reducible repeat (first | refine blk_drewN ?_ _ | refine blk_drew ?_ | refine blk_alloc ?_ _)); exact BK116.out) k_ hk)); (case aO => exact (by (with_reducible repeat (first | apply Kd.S_alloc | apply Kd.S_drewN | apply Kd.S_drew)); exact Kd.S_mono HO_5.out (fun k_ hk => ⟨hk.2, fun e_ => hk.1 e_⟩))); (case aS => exact (below_size (by repeat (first | (with_reducible first | exact HB.out | apply below_alloc | apply pw_below_drewN | apply below_drew1 | refine below_set ?_ GE116.out) | exact HB.out)))); (case aL => have := LMc14.out; omega); intro v118 w23 ho hb hg hat; rw [← Ny117.out] at ho; have n0_ := Aside0.mk (Kd.R_over' (by (with_reducible repeat (first | apply Kd.R_alloc | apply Kd.R_drewN | apply Kd.R_drew)); exact HO106.out) (Kd.S_typed (by (with_reducible repeat (first | apply Kd.S_alloc | apply Kd.S_drewN | apply Kd.S_drew)); exact HO_5.out)) (by decide) hg); have n1_ := Aside0.mk (blk_grown (g := gb116) (o := .cells #[.int .u8 t107, .string t108, .int .i64 t109, .string t110, .int .u8 t111, .slice Ao20 t112.length co20] 63 (0, 0)) (by (with_reducible repeat (first | refine blk_drewN ?_ _ | refine blk_drew ?_ | refine blk_alloc ?_ _)); exact BK116.out) hg (Kd.S_away HO_5.out (fun _ hk => hk.2))); have n2_ := Aside0.mk (hb); have n3_ := Aside0.mk (ho); clear HO106; clear BK116; clear HB; clear HO_5; clear HO114; have HO106 := n0_; have BK116 := n1_; have HB := n2_; have HO119 := n3_; clear n0_ n1_ n2_ n3_; clear ho hb hg hat))
                go_roundg k1
                case measure => have := HK1.out; omega
                case rel => exact ⟨(t102), (y117), (wrap64 (x6_1 + 1)), (by first | rfl | (simp; done) | (simp [*]; done)), (by first | rfl | (simp; done) | (simp [*]; done)), H', ⟨by have := HK1.out; omega⟩, ⟨by (with_reducible repeat (first | apply Kd.S_alloc | apply Kd.S_drewN | apply Kd.S_drew)); exact Kd.S_mono HO119.out (fun _ hk => trivial)⟩, ⟨by repeat (first | (with_reducible first | exact HB.out | apply below_alloc | apply pw_below_drewN | apply below_drew1 | refine below_set ?_ GE116.out) | exact HB.out)⟩⟩
              · rw [if_neg c14] at H
                exact absurd H (by simp)
            · replace c13 := Bool.eq_false_iff.mpr c13
              subst c13
              have H1 : (some (([] : List (S63)), 131, x6_1)) = some (r1, r2, r3) := by rw [if_neg (show ¬ (false = true) by decide)] at H; exact H
              clear H
              have H := H1
              clear H1
              simp only [Option.some.injEq, Prod.mk.injEq] at H
              obtain ⟨rfl, rfl, rfl⟩ := H
              go_wp2_with (first | ((with_reducible refine gate_callee (f := 57) rfl ?_); refine goesL_ (some 22) rfl rfl Tryd.func57 (by kernel_rfl) rfl #[.string x0_1, .string (⟨#[10]⟩ : ByteArray)] rfl (by (try simp only [List.map_toArray, List.map_cons, List.map_nil]); first | done | rfl | (simp only [List.length_drop, List.length_take]; rfl)) ?_; (with_reducible refine (strings_Cut.calls x0_1 (⟨#[10]⟩ : ByteArray) t101 t102 t103 _ ?side1 A7.out).mono ?_); (case side1 => first | (with_reducible exact HG.out) | (with_reducible exact (HG.out).below HB.out) | (with_reducible exact (HG.out).same World.heap_drewN) | (refine (HG.out).below ?_; (repeat (first | (with_reducible first | exact HB.out | apply below_alloc | apply pw_below_drewN | apply below_drew1) | exact HB.out)); done) | exact (HG.out).same rfl); rintro e w' ⟨rfl, ⟨nd, rfl⟩⟩; refine ⟨_, rfl, ?_⟩; (try (rw [drewN_self wr]; generalize hq_ : World.drewN wr _ = wr; have n0_ : Aside0 (Kd.S k63 63 wr w.heap.size (fun _ => True) u5 x5_1) := ⟨by rw [← hq_]; exact (by (with_reducible repeat (first | apply Kd.S_alloc | apply Kd.S_drewN | apply Kd.S_drew)); exact HO_5.out)⟩; have n1_ : Aside0 (Below w.heap.size w wr) := ⟨by rw [← hq_]; exact (by repeat (first | (with_reducible first | exact HB.out | apply below_alloc | apply pw_below_drewN | apply below_drew1) | exact HB.out))⟩; clear HO_5 HB hq_; have HO_5 := n0_; have HB := n1_; clear n0_ n1_))) | ((with_reducible refine gate_callee (f := 58) rfl ?_); refine goesL_ (some 28) rfl rfl Tryd.func58 (by kernel_rfl) rfl #[.string t101] rfl (by (try simp only [List.map_toArray, List.map_cons, List.map_nil]); first | done | rfl | (simp only [List.length_drop, List.length_take]; rfl)) ?_; (with_reducible refine (source_words.calls t101 t104 _ ?side1 A8.out).mono ?_); (case side1 => first | (with_reducible exact HG.out) | (with_reducible exact (HG.out).below HB.out) | (with_reducible exact (HG.out).same World.heap_drewN) | (refine (HG.out).below ?_; (repeat (first | (with_reducible first | exact HB.out | apply below_alloc | apply pw_below_drewN | apply below_drew1) | exact HB.out)); done) | exact (HG.out).same rfl); rintro e w24 ⟨v105, rfl, ho0, hb⟩; refine ⟨_, rfl, ?_⟩; have n0_ := Aside0.mk (Kd.S_below (by (with_reducible repeat (first | apply Kd.S_alloc | apply Kd.S_drewN | apply Kd.S_drew)); exact HO_5.out) hb); have n1_ := Aside0.mk (Kd.R_lower ho0 (below_size (by repeat (first | (with_reducible first | exact HB.out | apply below_alloc | apply pw_below_drewN | apply below_drew1) | exact HB.out)))); have n2_ := Aside0.mk (below_step (by repeat (first | (with_reducible first | exact HB.out | apply below_alloc | apply pw_below_drewN | apply below_drew1) | exact HB.out)) hb); clear HO_5; clear HB; have HO_5 := n0_; have HO106 := n1_; have HB := n2_; clear n0_ n1_ n2_; (try clear hb); (try clear hb2); (try clear hk); (try clear hi); (try clear ho0); obtain ⟨Ao25, co25, eo25⟩ := Kd.R_slice HO106.out; subst eo25) | ((with_reducible refine gate_callee (f := 59) rfl ?_); refine goesL_ (some 35) rfl rfl Tryd.func59 (by kernel_rfl) rfl #[.string t101, .slice Ao25 t104.length co25] rfl (by (try simp only [List.map_toArray, List.map_cons, List.map_nil]); first | done | rfl | (simp only [List.length_drop, List.length_take]; rfl)) ?_; (with_reducible refine (source_read.calls t101 _ _ t104 t107 t108 t109 t110 t111 t112 false _ ?side1 ?side2 ?side3 A12.out).mono ?_); (case side1 => repeat (first | exact (Kd.R_reads' HO106.out).2.2 | (with_reducible refine Kd.C_alloc ?_ _) | (with_reducible refine Kd.C_drewN ?_ _) | (with_reducible refine Kd.C_drew ?_))); (case side2 => exact (Kd.R_reads' HO106.out).2.1); (case side3 => first | (with_reducible exact HG.out) | (with_reducible exact (HG.out).below HB.out) | (with_reducible exact (HG.out).same World.heap_drewN) | (refine (HG.out).below ?_; (repeat (first | (with_reducible first | exact HB.out | apply below_alloc | apply pw_below_drewN | apply below_drew1) | exact HB.out)); done) | exact (HG.out).same rfl); rintro e w26 ⟨v113, rfl, ho0, hb⟩; refine ⟨_, rfl, ?_⟩; have n0_ := Aside0.mk (Kd.S_elder' (by (with_reducible repeat (first | apply Kd.S_alloc | apply Kd.S_drewN | apply Kd.S_drew)); exact HO_5.out) (Kd.R_base ho0) hb); have n1_ := Aside0.mk (Kd.R_below (by (with_reducible repeat (first | apply Kd.R_alloc | apply Kd.R_drewN | apply Kd.R_drew)); exact HO106.out) hb); have n2_ := Aside0.mk (Kd.R_lower ho0 (below_size (by repeat (first | (with_reducible first | exact HB.out | apply below_alloc | apply pw_below_drewN | apply below_drew1) | exact HB.out)))); have n3_ := Aside0.mk (below_step (by repeat (first | (with_reducible first | exact HB.out | apply below_alloc | apply pw_below_drewN | apply below_drew1) | exact HB.out)) hb); clear HO_5; clear HO106; clear HB; have HO_5 := n0_; have HO106 := n1_; have HO114 := n2_; have HB := n3_; clear n0_ n1_ n2_ n3_; (try clear hb); (try clear hb2); (try clear hk); (try clear hi); (try clear ho0)) | ((with_reducible refine gate_dst (N := 11) rfl ?_); refine box_event ?hg (N := 11) ?hd (cs := #[.int .u8 0, .string (⟨#[]⟩ : ByteArray), .int .i64 0, .string (⟨#[]⟩ : ByteArray), .int .u8 0, .slice none 0 0]) (t := 63) ?hr ?_; (case hd => rfl); (case hg => rfl); (case hr => first | (go_simp; done) | (go_simp; rfl)); intro gb116 hg w27 hbox hb; have n0_ := Aside0.mk (Kd.S_below (Kd.S_elderB (by (with_reducible repeat (first | apply Kd.S_alloc | apply Kd.S_drewN | apply Kd.S_drew)); exact HO_5.out) gb116 (Nat.le_of_eq hg.symm)) hb); have n1_ := Aside0.mk (Kd.R_below (by (with_reducible repeat (first | apply Kd.R_alloc | apply Kd.R_drewN | apply Kd.R_drew)); exact HO106.out) hb); have n2_ := Aside0.mk (Kd.R_below (by (with_reducible repeat (first | apply Kd.R_alloc | apply Kd.R_drewN | apply Kd.R_drew)); exact HO114.out) hb); have n3_ := Aside0.mk (below_step (by repeat (first | (with_reducible first | exact HB.out | apply below_alloc | apply pw_below_drewN | apply below_drew1) | exact HB.out)) hb); have n4_ := Aside0.mk (hbox); have n5_ := Aside0.mk ((by rw [hg]; exact (below_size (by repeat (first | (with_reducible first | exact HB.out | apply below_alloc | apply pw_below_drewN | apply below_drew1) | exact HB.out))) : w.heap.size ≤ gb116)); have n6_ := Aside0.mk ((by rw [hg]; exact (below_size (by repeat (first | (with_reducible first | exact HB.out | apply below_alloc | apply pw_below_drewN | apply below_drew1) | exact HB.out))) : w.heap.size ≤ gb116)); clear HO_5; clear HO106; clear HO114; clear HB; have HO_5 := n0_; have HO106 := n1_; have HO114 := n2_; have HB := n3_; have BK116 := n4_; have GW116 := n5_; have GE116 := n6_; clear n0_ n1_ n2_ n3_ n4_ n5_ n6_; clear hb hbox hg; have hcz28_0 : w27.cell? ⟨gb116, 0, none⟩ = some (.int .u8 0) := (blk_cell BK116.out 0).trans rfl; have hcz28_1 : w27.cell? ⟨gb116, 1, none⟩ = some (.string (⟨#[]⟩ : ByteArray)) := (blk_cell BK116.out 1).trans rfl; have hcz28_2 : w27.cell? ⟨gb116, 2, none⟩ = some (.int .i64 0) := (blk_cell BK116.out 2).trans rfl; have hcz28_3 : w27.cell? ⟨gb116, 3, none⟩ = some (.string (⟨#[]⟩ : ByteArray)) := (blk_cell BK116.out 3).trans rfl; have hcz28_4 : w27.cell? ⟨gb116, 4, none⟩ = some (.int .u8 0) := (blk_cell BK116.out 4).trans rfl; have hcz28_5 : w27.cell? ⟨gb116, 5, none⟩ = some (.slice none 0 0) := (blk_cell BK116.out 5).trans rfl; have hfz28_0 := blk_frozen BK116.out 0; have hfz28_1 := blk_frozen BK116.out 1; have hfz28_2 := blk_frozen BK116.out 2; have hfz28_3 := blk_frozen BK116.out 3; have hfz28_4 := blk_frozen BK116.out 4; have hfz28_5 := blk_frozen BK116.out 5; obtain ⟨Ao29, co29, eo29⟩ := Kd.R_slice HO114.out; subst eo29))
              go_ret3
              exact ⟨_, by first | rfl | (simp [errW_none, errW_some] <;> rfl) | (simp [*, errW_none, errW_some] <;> rfl), by first | exact Kd.S_nil _ _ _ _ _ | exact Kd.N_nil _ _ _ _ _ | exact Kd.V_nil _ _ _ _ _ | exact Kd.Q_nil _ _ _ _ _ | exact Kd.R_nil _ _ _ _ _, by repeat (first | (with_reducible first | exact HB.out | apply below_alloc | apply pw_below_drewN | apply below_drew1 | refine below_set ?_ GE116.out) | exact HB.out)⟩
end Go.Proofs.YthnafgffanlnfaaDoor.PSrc
namespace Go.Proofs.YthnafgffanlnfaaDoor.PSrc
open Go.RowKit Go.Proofs.YthnafgffanlnfaaDoorW.PrintWords Go.Proofs.YthnafgffanlnfaaDoorW.PrintLast Go.Proofs.YthnafgffanlnfaaDoorW.PrintMore
attribute [local go_sem] max2_int min2_int max_two min_two max_three min_three max_four min_four   -- for this text's walks alone
set_option linter.unusedVariables false
set_option linter.unusedSimpArgs false
def vesperlaw13_same.f (a0_0 : Int) (a0_1 : ByteArray) (a0_2 : Int) (a0_3 : ByteArray) (a0_4 : Int) (l0_5 : List Int) (a1_0 : Int) (a1_1 : ByteArray) (a1_2 : Int) (a1_3 : ByteArray) (a1_4 : Int) (l1_5 : List Int) : Option (Bool) := if a0_0 = a1_0 then (if a0_1.toList = a1_1.toList then (if a0_2 = a1_2 then (if a0_3.toList = a1_3.toList then (if a0_4 = a1_4 then (some ((strOfNums l0_5).toList == (strOfNums l1_5).toList)) else (some false)) else (some false)) else (some false)) else (some false)) else (some false)
set_option maxHeartbeats 8000000 in
set_option maxRecDepth 100000 in
theorem vesperlaw13_same.calls (a0_0 : Int) (a0_1 : ByteArray) (a0_2 : Int) (a0_3 : ByteArray) (a0_4 : Int) (A0_5 : Option Addr) (c0_5 : Nat) (l0_5 : List Int) (a1_0 : Int) (a1_1 : ByteArray) (a1_2 : Int) (a1_3 : ByteArray) (a1_4 : Int) (A1_5 : Option Addr) (c1_5 : Nat) (l1_5 : List Int) (r : Bool) (w : World) (hr0_5 : Kd.C (Kd.int .u8) w A0_5 l0_5.length l0_5) (hc0_5 : l0_5.length ≤ c0_5) (hr1_5 : Kd.C (Kd.int .u8) w A1_5 l1_5.length l1_5) (hc1_5 : l1_5.length ≤ c1_5) (h : vesperlaw13_same.f a0_0 a0_1 a0_2 a0_3 a0_4 l0_5 a1_0 a1_1 a1_2 a1_3 a1_4 l1_5 = some r) :
    Calls Tryd.prog 52 #[.agg #[.int .u8 a0_0, .string a0_1, .int .i64 a0_2, .string a0_3, .int .u8 a0_4, .slice A0_5 l0_5.length c0_5], .agg #[.int .u8 a1_0, .string a1_1, .int .i64 a1_2, .string a1_3, .int .u8 a1_4, .slice A1_5 l1_5.length c1_5]] w fun e w' => e = .returned (.bool r) ∧ Below w.heap.size w w' := by
  have hu63 := Tryd.underlying63
  have HR0_5 := Aside0.mk hr0_5
  have HC0_5 := Aside0.mk hc0_5
  clear hr0_5 hc0_5
  have HR1_5 := Aside0.mk hr1_5
  have HC1_5 := Aside0.mk hc1_5
  clear hr1_5 hc1_5
  have HB := Aside0.mk (Below.refl w.heap.size w)
  have H : (if a0_0 = a1_0 then (if a0_1.toList = a1_1.toList then (if a0_2 = a1_2 then (if a0_3.toList = a1_3.toList then (if a0_4 = a1_4 then (some ((strOfNums l0_5).toList == (strOfNums l1_5).toList)) else (some false)) else (some false)) else (some false)) else (some false)) else (some false)) = some r := h
  clear h
  by_cases c3 : a0_0 = a1_0
  · rw [if_pos c3] at H
    have c3b0 : (a0_0 == a1_0) = true := beq_iff_eq.mpr c3
    have c3b1 : (a0_0 != a1_0) = false := bne_eq_false_iff_eq.mpr c3
    clear c3
    by_cases c4 : a0_1.toList = a1_1.toList
    · rw [if_pos c4] at H
      have c4b0 : (a0_1.toList == a1_1.toList) = true := beq_iff_eq.mpr c4
      have c4b1 : (a0_1.toList != a1_1.toList) = false := bne_eq_false_iff_eq.mpr c4
      clear c4
      by_cases c5 : a0_2 = a1_2
      · rw [if_pos c5] at H
        have c5b0 : (a0_2 == a1_2) = true := beq_iff_eq.mpr c5
        have c5b1 : (a0_2 != a1_2) = false := bne_eq_false_iff_eq.mpr c5
        clear c5
        by_cases c6 : a0_3.toList = a1_3.toList
        · rw [if_pos c6] at H
          have c6b0 : (a0_3.toList == a1_3.toList) = true := beq_iff_eq.mpr c6
          have c6b1 : (a0_3.toList != a1_3.toList) = false := bne_eq_false_iff_eq.mpr c6
          clear c6
          by_cases c7 : a0_4 = a1_4
          · rw [if_pos c7] at H
            have c7b0 : (a0_4 == a1_4) = true := beq_iff_eq.mpr c7
            have c7b1 : (a0_4 != a1_4) = false := bne_eq_false_iff_eq.mpr c7
            clear c7
            obtain rfl := Option.some.inj H
            go_enter Tryd.func52, Tryd.ntmps52
            go_wp2_with (first | ((with_reducible refine gate_dst (N := 2) rfl ?_); refine box_event ?hg (N := 2) ?hd (cs := #[.int .u8 a0_0, .string a0_1, .int .i64 a0_2, .string a0_3, .int .u8 a0_4, .slice A0_5 l0_5.length c0_5]) (t := 63) ?hr ?_; (case hd => rfl); (case hg => rfl); (case hr => first | (go_simp; done) | (go_simp; rfl)); intro gb101 hg w8 hbox hb; have n0_ := Aside0.mk (below_step (by repeat (first | (with_reducible first | exact HB.out | apply below_alloc | apply pw_below_drewN | apply below_drew1) | exact HB.out)) hb); have n1_ := Aside0.mk (hbox); have n2_ := Aside0.mk ((by rw [hg]; exact (below_size (by repeat (first | (with_reducible first | exact HB.out | apply below_alloc | apply pw_below_drewN | apply below_drew1) | exact HB.out))) : w.heap.size ≤ gb101)); have n3_ := Aside0.mk ((by rw [hg]; exact (below_size (by repeat (first | (with_reducible first | exact HB.out | apply below_alloc | apply pw_below_drewN | apply below_drew1) | exact HB.out))) : w.heap.size ≤ gb101)); clear HB; have HB := n0_; have BK101 := n1_; have GW101 := n2_; have GE101 := n3_; clear n0_ n1_ n2_ n3_; clear hb hbox hg) | ((with_reducible refine gate_dst (N := 3) rfl ?_); refine box_event ?hg (N := 3) ?hd (cs := #[.int .u8 a1_0, .string a1_1, .int .i64 a1_2, .string a1_3, .int .u8 a1_4, .slice A1_5 l1_5.length c1_5]) (t := 63) ?hr ?_; (case hd => rfl); (case hg => rfl); (case hr => first | (go_simp; done) | (go_simp; rfl)); intro gb102 hg w9 hbox hb; have n0_ := Aside0.mk (blk_below (g := gb101) (o := .cells #[.int .u8 a0_0, .string a0_1, .int .i64 a0_2, .string a0_3, .int .u8 a0_4, .slice A0_5 l0_5.length c0_5] 63 (0, 0)) (by (with_reducible repeat (first | refine blk_drewN ?_ _ | refine blk_drew ?_ | refine blk_alloc ?_ _)); exact BK101.out) hb); have n1_ := Aside0.mk (below_step (by repeat (first | (with_reducible first | exact HB.out | apply below_alloc | apply pw_below_drewN | apply below_drew1 | refine below_set ?_ GE101.out) | exact HB.out)) hb); have n2_ := Aside0.mk (hbox); have n3_ := Aside0.mk ((by rw [hg]; exact (below_size (by repeat (first | (with_reducible first | exact HB.out | apply below_alloc | apply pw_below_drewN | apply below_drew1 | refine below_set ?_ GE101.out) | exact HB.out))) : w.heap.size ≤ gb102)); have n4_ := Aside0.mk ((by rw [hg]; exact (below_size (by repeat (first | (with_reducible first | exact HB.out | apply below_alloc | apply pw_below_drewN | apply below_drew1 | refine below_set ?_ GE101.out) | exact HB.out))) : w.heap.size ≤ gb102)); have n5_ := Aside0.mk ((by rw [hg]; exact Nat.ne_of_lt (blk_lt (g := gb101) (o := .cells #[.int .u8 a0_0, .string a0_1, .int .i64 a0_2, .string a0_3, .int .u8 a0_4, .slice A0_5 l0_5.length c0_5] 63 (0, 0)) (by (with_reducible repeat (first | refine blk_drewN ?_ _ | refine blk_drew ?_ | refine blk_alloc ?_ _)); exact BK101.out)) : gb101 ≠ gb102)); have n6_ := Aside0.mk ((by rw [hg]; exact Nat.ne_of_gt (blk_lt (g := gb101) (o := .cells #[.int .u8 a0_0, .string a0_1, .int .i64 a0_2, .string a0_3, .int .u8 a0_4, .slice A0_5 l0_5.length c0_5] 63 (0, 0)) (by (with_reducible repeat (first | refine blk_drewN ?_ _ | refine blk_drew ?_ | refine blk_alloc ?_ _)); exact BK101.out)) : gb102 ≠ gb101)); clear BK101; clear HB; have BK101 := n0_; have HB := n1_; have BK102 := n2_; have GW102 := n3_; have GE102 := n4_; have NB101_102 := n5_; have NB102_101 := n6_; clear n0_ n1_ n2_ n3_ n4_ n5_ n6_; clear hb hbox hg; have hnb10 := NB101_102.out; have hnc10 := NB102_101.out; have hcz11_0 : w9.cell? ⟨gb101, 0, none⟩ = some (.int .u8 a0_0) := (blk_cell BK101.out 0).trans rfl; have hcz11_1 : w9.cell? ⟨gb101, 1, none⟩ = some (.string a0_1) := (blk_cell BK101.out 1).trans rfl; have hcz11_2 : w9.cell? ⟨gb101, 2, none⟩ = some (.int .i64 a0_2) := (blk_cell BK101.out 2).trans rfl; have hcz11_3 : w9.cell? ⟨gb101, 3, none⟩ = some (.string a0_3) := (blk_cell BK101.out 3).trans rfl; have hcz11_4 : w9.cell? ⟨gb101, 4, none⟩ = some (.int .u8 a0_4) := (blk_cell BK101.out 4).trans rfl; have hcz11_5 : w9.cell? ⟨gb101, 5, none⟩ = some (.slice A0_5 l0_5.length c0_5) := (blk_cell BK101.out 5).trans rfl; have hfz11_0 := blk_frozen BK101.out 0; have hfz11_1 := blk_frozen BK101.out 1; have hfz11_2 := blk_frozen BK101.out 2; have hfz11_3 := blk_frozen BK101.out 3; have hfz11_4 := blk_frozen BK101.out 4; have hfz11_5 := blk_frozen BK101.out 5; have hcz12_0 : w9.cell? ⟨gb102, 0, none⟩ = some (.int .u8 a1_0) := (blk_cell BK102.out 0).trans rfl; have hcz12_1 : w9.cell? ⟨gb102, 1, none⟩ = some (.string a1_1) := (blk_cell BK102.out 1).trans rfl; have hcz12_2 : w9.cell? ⟨gb102, 2, none⟩ = some (.int .i64 a1_2) := (blk_cell BK102.out 2).trans rfl; have hcz12_3 : w9.cell? ⟨gb102, 3, none⟩ = some (.string a1_3) := (blk_cell BK102.out 3).trans rfl; have hcz12_4 : w9.cell? ⟨gb102, 4, none⟩ = some (.int .u8 a1_4) := (blk_cell BK102.out 4).trans rfl; have hcz12_5 : w9.cell? ⟨gb102, 5, none⟩ = some (.slice A1_5 l1_5.length c1_5) := (blk_cell BK102.out 5).trans rfl; have hfz12_0 := blk_frozen BK102.out 0; have hfz12_1 := blk_frozen BK102.out 1; have hfz12_2 := blk_frozen BK102.out 2; have hfz12_3 := blk_frozen BK102.out 3; have hfz12_4 := blk_frozen BK102.out 4; have hfz12_5 := blk_frozen BK102.out 5; have hcv13 := Kd.C_string (P := Tryd.prog) (A := A0_5) (c := c0_5) Tryd.underlying33 Tryd.underlying5 Tryd.underlying9 (Kd.C_below HR0_5.out HB.out); have hcv14 := Kd.C_string (P := Tryd.prog) (A := A1_5) (c := c1_5) Tryd.underlying33 Tryd.underlying5 Tryd.underlying9 (Kd.C_below HR1_5.out HB.out)))
            go_ret
            exact ⟨by first | rfl | (simp [errW_none, errW_some] <;> rfl) | (simp [*, errW_none, errW_some] <;> rfl), by repeat (first | (with_reducible first | exact HB.out | apply below_alloc | apply pw_below_drewN | apply below_drew1 | refine below_set ?_ GE101.out | refine below_set ?_ GE102.out) | exact HB.out)⟩
          · rw [if_neg c7] at H
            have c7b0 : (a0_4 == a1_4) = false := beq_eq_false_iff_ne.mpr c7
            have c7b1 : (a0_4 != a1_4) = true := bne_iff_ne.mpr c7
            obtain rfl := Option.some.inj H
            go_enter Tryd.func52, Tryd.ntmps52
            go_wp2_with (first | ((with_reducible refine gate_dst (N := 2) rfl ?_); refine box_event ?hg (N := 2) ?hd (cs := #[.int .u8 a0_0, .string a0_1, .int .i64 a0_2, .string a0_3, .int .u8 a0_4, .slice A0_5 l0_5.length c0_5]) (t := 63) ?hr ?_; (case hd => rfl); (case hg => rfl); (case hr => first | (go_simp; done) | (go_simp; rfl)); intro gb101 hg w15 hbox hb; have n0_ := Aside0.mk (below_step (by repeat (first | (with_reducible first | exact HB.out | apply below_alloc | apply pw_below_drewN | apply below_drew1) | exact HB.out)) hb); have n1_ := Aside0.mk (hbox); have n2_ := Aside0.mk ((by rw [hg]; exact (below_size (by repeat (first | (with_reducible first | exact HB.out | apply below_alloc | apply pw_below_drewN | apply below_drew1) | exact HB.out))) : w.heap.size ≤ gb101)); have n3_ := Aside0.mk ((by rw [hg]; exact (below_size (by repeat (first | (with_reducible first | exact HB.out | apply below_alloc | apply pw_below_drewN | apply below_drew1) | exact HB.out))) : w.heap.size ≤ gb101)); clear HB; have HB := n0_; have BK101 := n1_; have GW101 := n2_; have GE101 := n3_; clear n0_ n1_ n2_ n3_; clear hb hbox hg) | ((with_reducible refine gate_dst (N := 3) rfl ?_); refine box_event ?hg (N := 3) ?hd (cs := #[.int .u8 a1_0, .string a1_1, .int .i64 a1_2, .string a1_3, .int .u8 a1_4, .slice A1_5 l1_5.length c1_5]) (t := 63) ?hr ?_; (case hd => rfl); (case hg => rfl); (case hr => first | (go_simp; done) | (go_simp; rfl)); intro gb102 hg w16 hbox hb; have n0_ := Aside0.mk (blk_below (g := gb101) (o := .cells #[.int .u8 a0_0, .string a0_1, .int .i64 a0_2, .string a0_3, .int .u8 a0_4, .slice A0_5 l0_5.length c0_5] 63 (0, 0)) (by (with_reducible repeat (first | refine blk_drewN ?_ _ | refine blk_drew ?_ | refine blk_alloc ?_ _)); exact BK101.out) hb); have n1_ := Aside0.mk (below_step (by repeat (first | (with_reducible first | exact HB.out | apply below_alloc | apply pw_below_drewN | apply below_drew1 | refine below_set ?_ GE101.out) | exact HB.out)) hb); have n2_ := Aside0.mk (hbox); have n3_ := Aside0.mk ((by rw [hg]; exact (below_size (by repeat (first | (with_reducible first | exact HB.out | apply below_alloc | apply pw_below_drewN | apply below_drew1 | refine below_set ?_ GE101.out) | exact HB.out))) : w.heap.size ≤ gb102)); have n4_ := Aside0.mk ((by rw [hg]; exact (below_size (by repeat (first | (with_reducible first | exact HB.out | apply below_alloc | apply pw_below_drewN | apply below_drew1 | refine below_set ?_ GE101.out) | exact HB.out))) : w.heap.size ≤ gb102)); have n5_ := Aside0.mk ((by rw [hg]; exact Nat.ne_of_lt (blk_lt (g := gb101) (o := .cells #[.int .u8 a0_0, .string a0_1, .int .i64 a0_2, .string a0_3, .int .u8 a0_4, .slice A0_5 l0_5.length c0_5] 63 (0, 0)) (by (with_reducible repeat (first | refine blk_drewN ?_ _ | refine blk_drew ?_ | refine blk_alloc ?_ _)); exact BK101.out)) : gb101 ≠ gb102)); have n6_ := Aside0.mk ((by rw [hg]; exact Nat.ne_of_gt (blk_lt (g := gb101) (o := .cells #[.int .u8 a0_0, .string a0_1, .int .i64 a0_2, .string a0_3, .int .u8 a0_4, .slice A0_5 l0_5.length c0_5] 63 (0, 0)) (by (with_reducible repeat (first | refine blk_drewN ?_ _ | refine blk_drew ?_ | refine blk_alloc ?_ _)); exact BK101.out)) : gb102 ≠ gb101)); clear BK101; clear HB; have BK101 := n0_; have HB := n1_; have BK102 := n2_; have GW102 := n3_; have GE102 := n4_; have NB101_102 := n5_; have NB102_101 := n6_; clear n0_ n1_ n2_ n3_ n4_ n5_ n6_; clear hb hbox hg; have hnb17 := NB101_102.out; have hnc17 := NB102_101.out; have hcz18_0 : w16.cell? ⟨gb101, 0, none⟩ = some (.int .u8 a0_0) := (blk_cell BK101.out 0).trans rfl; have hcz18_1 : w16.cell? ⟨gb101, 1, none⟩ = some (.string a0_1) := (blk_cell BK101.out 1).trans rfl; have hcz18_2 : w16.cell? ⟨gb101, 2, none⟩ = some (.int .i64 a0_2) := (blk_cell BK101.out 2).trans rfl; have hcz18_3 : w16.cell? ⟨gb101, 3, none⟩ = some (.string a0_3) := (blk_cell BK101.out 3).trans rfl; have hcz18_4 : w16.cell? ⟨gb101, 4, none⟩ = some (.int .u8 a0_4) := (blk_cell BK101.out 4).trans rfl; have hcz18_5 : w16.cell? ⟨gb101, 5, none⟩ = some (.slice A0_5 l0_5.length c0_5) := (blk_cell BK101.out 5).trans rfl; have hfz18_0 := blk_frozen BK101.out 0; have hfz18_1 := blk_frozen BK101.out 1; have hfz18_2 := blk_frozen BK101.out 2; have hfz18_3 := blk_frozen BK101.out 3; have hfz18_4 := blk_frozen BK101.out 4; have hfz18_5 := blk_frozen BK101.out 5; have hcz19_0 : w16.cell? ⟨gb102, 0, none⟩ = some (.int .u8 a1_0) := (blk_cell BK102.out 0).trans rfl; have hcz19_1 : w16.cell? ⟨gb102, 1, none⟩ = some (.string a1_1) := (blk_cell BK102.out 1).trans rfl; have hcz19_2 : w16.cell? ⟨gb102, 2, none⟩ = some (.int .i64 a1_2) := (blk_cell BK102.out 2).trans rfl; have hcz19_3 : w16.cell? ⟨gb102, 3, none⟩ = some (.string a1_3) := (blk_cell BK102.out 3).trans rfl; have hcz19_4 : w16.cell? ⟨gb102, 4, none⟩ = some (.int .u8 a1_4) := (blk_cell BK102.out 4).trans rfl; have hcz19_5 : w16.cell? ⟨gb102, 5, none⟩ = some (.slice A1_5 l1_5.length c1_5) := (blk_cell BK102.out 5).trans rfl; have hfz19_0 := blk_frozen BK102.out 0; have hfz19_1 := blk_frozen BK102.out 1; have hfz19_2 := blk_frozen BK102.out 2; have hfz19_3 := blk_frozen BK102.out 3; have hfz19_4 := blk_frozen BK102.out 4; have hfz19_5 := blk_frozen BK102.out 5))
            go_ret
            exact ⟨by first | rfl | (simp [errW_none, errW_some] <;> rfl) | (simp [*, errW_none, errW_some] <;> rfl), by repeat (first | (with_reducible first | exact HB.out | apply below_alloc | apply pw_below_drewN | apply below_drew1 | refine below_set ?_ GE101.out | refine below_set ?_ GE102.out) | exact HB.out)⟩
        · rw [if_neg c6] at H
          have c6b0 : (a0_3.toList == a1_3.toList) = false := beq_eq_false_iff_ne.mpr c6
          have c6b1 : (a0_3.toList != a1_3.toList) = true := bne_iff_ne.mpr c6
          obtain rfl := Option.some.inj H
          go_enter Tryd.func52, Tryd.ntmps52
          go_wp2_with (first | ((with_reducible refine gate_dst (N := 2) rfl ?_); refine box_event ?hg (N := 2) ?hd (cs := #[.int .u8 a0_0, .string a0_1, .int .i64 a0_2, .string a0_3, .int .u8 a0_4, .slice A0_5 l0_5.length c0_5]) (t := 63) ?hr ?_; (case hd => rfl); (case hg => rfl); (case hr => first | (go_simp; done) | (go_simp; rfl)); intro gb101 hg w20 hbox hb; have n0_ := Aside0.mk (below_step (by repeat (first | (with_reducible first | exact HB.out | apply below_alloc | apply pw_below_drewN | apply below_drew1) | exact HB.out)) hb); have n1_ := Aside0.mk (hbox); have n2_ := Aside0.mk ((by rw [hg]; exact (below_size (by repeat (first | (with_reducible first | exact HB.out | apply below_alloc | apply pw_below_drewN | apply below_drew1) | exact HB.out))) : w.heap.size ≤ gb101)); have n3_ := Aside0.mk ((by rw [hg]; exact (below_size (by repeat (first | (with_reducible first | exact HB.out | apply below_alloc | apply pw_below_drewN | apply below_drew1) | exact HB.out))) : w.heap.size ≤ gb101)); clear HB; have HB := n0_; have BK101 := n1_; have GW101 := n2_; have GE101 := n3_; clear n0_ n1_ n2_ n3_; clear hb hbox hg) | ((with_reducible refine gate_dst (N := 3) rfl ?_); refine box_event ?hg (N := 3) ?hd (cs := #[.int .u8 a1_0, .string a1_1, .int .i64 a1_2, .string a1_3, .int .u8 a1_4, .slice A1_5 l1_5.length c1_5]) (t := 63) ?hr ?_; (case hd => rfl); (case hg => rfl); (case hr => first | (go_simp; done) | (go_simp; rfl)); intro gb102 hg w21 hbox hb; have n0_ := Aside0.mk (blk_below (g := gb101) (o := .cells #[.int .u8 a0_0, .string a0_1, .int .i64 a0_2, .string a0_3, .int .u8 a0_4, .slice A0_5 l0_5.length c0_5] 63 (0, 0)) (by (with_reducible repeat (first | refine blk_drewN ?_ _ | refine blk_drew ?_ | refine blk_alloc ?_ _)); exact BK101.out) hb); have n1_ := Aside0.mk (below_step (by repeat (first | (with_reducible first | exact HB.out | apply below_alloc | apply pw_below_drewN | apply below_drew1 | refine below_set ?_ GE101.out) | exact HB.out)) hb); have n2_ := Aside0.mk (hbox); have n3_ := Aside0.mk ((by rw [hg]; exact (below_size (by repeat (first | (with_reducible first | exact HB.out | apply below_alloc | apply pw_below_drewN | apply below_drew1 | refine below_set ?_ GE101.out) | exact HB.out))) : w.heap.size ≤ gb102)); have n4_ := Aside0.mk ((by rw [hg]; exact (below_size (by repeat (first | (with_reducible first | exact HB.out | apply below_alloc | apply pw_below_drewN | apply below_drew1 | refine below_set ?_ GE101.out) | exact HB.out))) : w.heap.size ≤ gb102)); have n5_ := Aside0.mk ((by rw [hg]; exact Nat.ne_of_lt (blk_lt (g := gb101) (o := .cells #[.int .u8 a0_0, .string a0_1, .int .i64 a0_2, .string a0_3, .int .u8 a0_4, .slice A0_5 l0_5.length c0_5] 63 (0, 0)) (by (with_reducible repeat (first | refine blk_drewN ?_ _ | refine blk_drew ?_ | refine blk_alloc ?_ _)); exact BK101.out)) : gb101 ≠ gb102)); have n6_ := Aside0.mk ((by rw [hg]; exact Nat.ne_of_gt (blk_lt (g := gb101) (o := .cells #[.int .u8 a0_0, .string a0_1, .int .i64 a0_2, .string a0_3, .int .u8 a0_4, .slice A0_5 l0_5.length c0_5] 63 (0, 0)) (by (with_reducible repeat (first | refine blk_drewN ?_ _ | refine blk_drew ?_ | refine blk_alloc ?_ _)); exact BK101.out)) : gb102 ≠ gb101)); clear BK101; clear HB; have BK101 := n0_; have HB := n1_; have BK102 := n2_; have GW102 := n3_; have GE102 := n4_; have NB101_102 := n5_; have NB102_101 := n6_; clear n0_ n1_ n2_ n3_ n4_ n5_ n6_; clear hb hbox hg; have hnb22 := NB101_102.out; have hnc22 := NB102_101.out; have hcz23_0 : w21.cell? ⟨gb101, 0, none⟩ = some (.int .u8 a0_0) := (blk_cell BK101.out 0).trans rfl; have hcz23_1 : w21.cell? ⟨gb101, 1, none⟩ = some (.string a0_1) := (blk_cell BK101.out 1).trans rfl; have hcz23_2 : w21.cell? ⟨gb101, 2, none⟩ = some (.int .i64 a0_2) := (blk_cell BK101.out 2).trans rfl; have hcz23_3 : w21.cell? ⟨gb101, 3, none⟩ = some (.string a0_3) := (blk_cell BK101.out 3).trans rfl; have hcz23_4 : w21.cell? ⟨gb101, 4, none⟩ = some (.int .u8 a0_4) := (blk_cell BK101.out 4).trans rfl; have hcz23_5 : w21.cell? ⟨gb101, 5, none⟩ = some (.slice A0_5 l0_5.length c0_5) := (blk_cell BK101.out 5).trans rfl; have hfz23_0 := blk_frozen BK101.out 0; have hfz23_1 := blk_frozen BK101.out 1; have hfz23_2 := blk_frozen BK101.out 2; have hfz23_3 := blk_frozen BK101.out 3; have hfz23_4 := blk_frozen BK101.out 4; have hfz23_5 := blk_frozen BK101.out 5; have hcz24_0 : w21.cell? ⟨gb102, 0, none⟩ = some (.int .u8 a1_0) := (blk_cell BK102.out 0).trans rfl; have hcz24_1 : w21.cell? ⟨gb102, 1, none⟩ = some (.string a1_1) := (blk_cell BK102.out 1).trans rfl; have hcz24_2 : w21.cell? ⟨gb102, 2, none⟩ = some (.int .i64 a1_2) := (blk_cell BK102.out 2).trans rfl; have hcz24_3 : w21.cell? ⟨gb102, 3, none⟩ = some (.string a1_3) := (blk_cell BK102.out 3).trans rfl; have hcz24_4 : w21.cell? ⟨gb102, 4, none⟩ = some (.int .u8 a1_4) := (blk_cell BK102.out 4).trans rfl; have hcz24_5 : w21.cell? ⟨gb102, 5, none⟩ = some (.slice A1_5 l1_5.length c1_5) := (blk_cell BK102.out 5).trans rfl; have hfz24_0 := blk_frozen BK102.out 0; have hfz24_1 := blk_frozen BK102.out 1; have hfz24_2 := blk_frozen BK102.out 2; have hfz24_3 := blk_frozen BK102.out 3; have hfz24_4 := blk_frozen BK102.out 4; have hfz24_5 := blk_frozen BK102.out 5))
          go_ret
          exact ⟨by first | rfl | (simp [errW_none, errW_some] <;> rfl) | (simp [*, errW_none, errW_some] <;> rfl), by repeat (first | (with_reducible first | exact HB.out | apply below_alloc | apply pw_below_drewN | apply below_drew1 | refine below_set ?_ GE101.out | refine below_set ?_ GE102.out) | exact HB.out)⟩
      · rw [if_neg c5] at H
        have c5b0 : (a0_2 == a1_2) = false := beq_eq_false_iff_ne.mpr c5
        have c5b1 : (a0_2 != a1_2) = true := bne_iff_ne.mpr c5
        obtain rfl := Option.some.inj H
        go_enter Tryd.func52, Tryd.ntmps52
        go_wp2_with (first | ((with_reducible refine gate_dst (N := 2) rfl ?_); refine box_event ?hg (N := 2) ?hd (cs := #[.int .u8 a0_0, .string a0_1, .int .i64 a0_2, .string a0_3, .int .u8 a0_4, .slice A0_5 l0_5.length c0_5]) (t := 63) ?hr ?_; (case hd => rfl); (case hg => rfl); (case hr => first | (go_simp; done) | (go_simp; rfl)); intro gb101 hg w25 hbox hb; have n0_ := Aside0.mk (below_step (by repeat (first | (with_reducible first | exact HB.out | apply below_alloc | apply pw_below_drewN | apply below_drew1) | exact HB.out)) hb); have n1_ := Aside0.mk (hbox); have n2_ := Aside0.mk ((by rw [hg]; exact (below_size (by repeat (first | (with_reducible first | exact HB.out | apply below_alloc | apply pw_below_drewN | apply below_drew1) | exact HB.out))) : w.heap.size ≤ gb101)); have n3_ := Aside0.mk ((by rw [hg]; exact (below_size (by repeat (first | (with_reducible first | exact HB.out | apply below_alloc | apply pw_below_drewN | apply below_drew1) | exact HB.out))) : w.heap.size ≤ gb101)); clear HB; have HB := n0_; have BK101 := n1_; have GW101 := n2_; have GE101 := n3_; clear n0_ n1_ n2_ n3_; clear hb hbox hg) | ((with_reducible refine gate_dst (N := 3) rfl ?_); refine box_event ?hg (N := 3) ?hd (cs := #[.int .u8 a1_0, .string a1_1, .int .i64 a1_2, .string a1_3, .int .u8 a1_4, .slice A1_5 l1_5.length c1_5]) (t := 63) ?hr ?_; (case hd => rfl); (case hg => rfl); (case hr => first | (go_simp; done) | (go_simp; rfl)); intro gb102 hg w26 hbox hb; have n0_ := Aside0.mk (blk_below (g := gb101) (o := .cells #[.int .u8 a0_0, .string a0_1, .int .i64 a0_2, .string a0_3, .int .u8 a0_4, .slice A0_5 l0_5.length c0_5] 63 (0, 0)) (by (with_reducible repeat (first | refine blk_drewN ?_ _ | refine blk_drew ?_ | refine blk_alloc ?_ _)); exact BK101.out) hb); have n1_ := Aside0.mk (below_step (by repeat (first | (with_reducible first | exact HB.out | apply below_alloc | apply pw_below_drewN | apply below_drew1 | refine below_set ?_ GE101.out) | exact HB.out)) hb); have n2_ := Aside0.mk (hbox); have n3_ := Aside0.mk ((by rw [hg]; exact (below_size (by repeat (first | (with_reducible first | exact HB.out | apply below_alloc | apply pw_below_drewN | apply below_drew1 | refine below_set ?_ GE101.out) | exact HB.out))) : w.heap.size ≤ gb102)); have n4_ := Aside0.mk ((by rw [hg]; exact (below_size (by repeat (first | (with_reducible first | exact HB.out | apply below_alloc | apply pw_below_drewN | apply below_drew1 | refine below_set ?_ GE101.out) | exact HB.out))) : w.heap.size ≤ gb102)); have n5_ := Aside0.mk ((by rw [hg]; exact Nat.ne_of_lt (blk_lt (g := gb101) (o := .cells #[.int .u8 a0_0, .string a0_1, .int .i64 a0_2, .string a0_3, .int .u8 a0_4, .slice A0_5 l0_5.length c0_5] 63 (0, 0)) (by (with_reducible repeat (first | refine blk_drewN ?_ _ | refine blk_drew ?_ | refine blk_alloc ?_ _)); exact BK101.out)) : gb101 ≠ gb102)); have n6_ := Aside0.mk ((by rw [hg]; exact Nat.ne_of_gt (blk_lt (g := gb101) (o := .cells #[.int .u8 a0_0, .string a0_1, .int .i64 a0_2, .string a0_3, .int .u8 a0_4, .slice A0_5 l0_5.length c0_5] 63 (0, 0)) (by (with_reducible repeat (first | refine blk_drewN ?_ _ | refine blk_drew ?_ | refine blk_alloc ?_ _)); exact BK101.out)) : gb102 ≠ gb101)); clear BK101; clear HB; have BK101 := n0_; have HB := n1_; have BK102 := n2_; have GW102 := n3_; have GE102 := n4_; have NB101_102 := n5_; have NB102_101 := n6_; clear n0_ n1_ n2_ n3_ n4_ n5_ n6_; clear hb hbox hg; have hnb27 := NB101_102.out; have hnc27 := NB102_101.out; have hcz28_0 : w26.cell? ⟨gb101, 0, none⟩ = some (.int .u8 a0_0) := (blk_cell BK101.out 0).trans rfl; have hcz28_1 : w26.cell? ⟨gb101, 1, none⟩ = some (.string a0_1) := (blk_cell BK101.out 1).trans rfl; have hcz28_2 : w26.cell? ⟨gb101, 2, none⟩ = some (.int .i64 a0_2) := (blk_cell BK101.out 2).trans rfl; have hcz28_3 : w26.cell? ⟨gb101, 3, none⟩ = some (.string a0_3) := (blk_cell BK101.out 3).trans rfl; have hcz28_4 : w26.cell? ⟨gb101, 4, none⟩ = some (.int .u8 a0_4) := (blk_cell BK101.out 4).trans rfl; have hcz28_5 : w26.cell? ⟨gb101, 5, none⟩ = some (.slice A0_5 l0_5.length c0_5) := (blk_cell BK101.out 5).trans rfl; have hfz28_0 := blk_frozen BK101.out 0; have hfz28_1 := blk_frozen BK101.out 1; have hfz28_2 := blk_frozen BK101.out 2; have hfz28_3 := blk_frozen BK101.out 3; have hfz28_4 := blk_frozen BK101.out 4; have hfz28_5 := blk_frozen BK101.out 5; have hcz29_0 : w26.cell? ⟨gb102, 0, none⟩ = some (.int .u8 a1_0) := (blk_cell BK102.out 0).trans rfl; have hcz29_1 : w26.cell? ⟨gb102, 1, none⟩ = some (.string a1_1) := (blk_cell BK102.out 1).trans rfl; have hcz29_2 : w26.cell? ⟨gb102, 2, none⟩ = some (.int .i64 a1_2) := (blk_cell BK102.out 2).trans rfl; have hcz29_3 : w26.cell? ⟨gb102, 3, none⟩ = some (.string a1_3) := (blk_cell BK102.out 3).trans rfl; have hcz29_4 : w26.cell? ⟨gb102, 4, none⟩ = some (.int .u8 a1_4) := (blk_cell BK102.out 4).trans rfl; have hcz29_5 : w26.cell? ⟨gb102, 5, none⟩ = some (.slice A1_5 l1_5.length c1_5) := (blk_cell BK102.out 5).trans rfl; have hfz29_0 := blk_frozen BK102.out 0; have hfz29_1 := blk_frozen BK102.out 1; have hfz29_2 := blk_frozen BK102.out 2; have hfz29_3 := blk_frozen BK102.out 3; have hfz29_4 := blk_frozen BK102.out 4; have hfz29_5 := blk_frozen BK102.out 5))
        go_ret
        exact ⟨by first | rfl | (simp [errW_none, errW_some] <;> rfl) | (simp [*, errW_none, errW_some] <;> rfl), by repeat (first | (with_reducible first | exact HB.out | apply below_alloc | apply pw_below_drewN | apply below_drew1 | refine below_set ?_ GE101.out | refine below_set ?_ GE102.out) | exact HB.out)⟩
    · rw [if_neg c4] at H
      have c4b0 : (a0_1.toList == a1_1.toList) = false := beq_eq_false_iff_ne.mpr c4
      have c4b1 : (a0_1.toList != a1_1.toList) = true := bne_iff_ne.mpr c4
      obtain rfl := Option.some.inj H
      go_enter Tryd.func52, Tryd.ntmps52
      go_wp2_with (first | ((with_reducible refine gate_dst (N := 2) rfl ?_); refine box_event ?hg (N := 2) ?hd (cs := #[.int .u8 a0_0, .string a0_1, .int .i64 a0_2, .string a0_3, .int .u8 a0_4, .slice A0_5 l0_5.length c0_5]) (t := 63) ?hr ?_; (case hd => rfl); (case hg => rfl); (case hr => first | (go_simp; done) | (go_simp; rfl)); intro gb101 hg w30 hbox hb; have n0_ := Aside0.mk (below_step (by repeat (first | (with_reducible first | exact HB.out | apply below_alloc | apply pw_below_drewN | apply below_drew1) | exact HB.out)) hb); have n1_ := Aside0.mk (hbox); have n2_ := Aside0.mk ((by rw [hg]; exact (below_size (by repeat (first | (with_reducible first | exact HB.out | apply below_alloc | apply pw_below_drewN | apply below_drew1) | exact HB.out))) : w.heap.size ≤ gb101)); have n3_ := Aside0.mk ((by rw [hg]; exact (below_size (by repeat (first | (with_reducible first | exact HB.out | apply below_alloc | apply pw_below_drewN | apply below_drew1) | exact HB.out))) : w.heap.size ≤ gb101)); clear HB; have HB := n0_; have BK101 := n1_; have GW101 := n2_; have GE101 := n3_; clear n0_ n1_ n2_ n3_; clear hb hbox hg) | ((with_reducible refine gate_dst (N := 3) rfl ?_); refine box_event ?hg (N := 3) ?hd (cs := #[.int .u8 a1_0, .string a1_1, .int .i64 a1_2, .string a1_3, .int .u8 a1_4, .slice A1_5 l1_5.length c1_5]) (t := 63) ?hr ?_; (case hd => rfl); (case hg => rfl); (case hr => first | (go_simp; done) | (go_simp; rfl)); intro gb102 hg w31 hbox hb; have n0_ := Aside0.mk (blk_below (g := gb101) (o := .cells #[.int .u8 a0_0, .string a0_1, .int .i64 a0_2, .string a0_3, .int .u8 a0_4, .slice A0_5 l0_5.length c0_5] 63 (0, 0)) (by (with_reducible repeat (first | refine blk_drewN ?_ _ | refine blk_drew ?_ | refine blk_alloc ?_ _)); exact BK101.out) hb); have n1_ := Aside0.mk (below_step (by repeat (first | (with_reducible first | exact HB.out | apply below_alloc | apply pw_below_drewN | apply below_drew1 | refine below_set ?_ GE101.out) | exact HB.out)) hb); have n2_ := Aside0.mk (hbox); have n3_ := Aside0.mk ((by rw [hg]; exact (below_size (by repeat (first | (with_reducible first | exact HB.out | apply below_alloc | apply pw_below_drewN | apply below_drew1 | refine below_set ?_ GE101.out) | exact HB.out))) : w.heap.size ≤ gb102)); have n4_ := Aside0.mk ((by rw [hg]; exact (below_size (by repeat (first | (with_reducible first | exact HB.out | apply below_alloc | apply pw_below_drewN | apply below_drew1 | refine below_set ?_ GE101.out) | exact HB.out))) : w.heap.size ≤ gb102)); have n5_ := Aside0.mk ((by rw [hg]; exact Nat.ne_of_lt (blk_lt (g := gb101) (o := .cells #[.int .u8 a0_0, .string a0_1, .int .i64 a0_2, .string a0_3, .int .u8 a0_4, .slice A0_5 l0_5.length c0_5] 63 (0, 0)) (by (with_reducible repeat (first | refine blk_drewN ?_ _ | refine blk_drew ?_ | refine blk_alloc ?_ _)); exact BK101.out)) : gb101 ≠ gb102)); have n6_ := Aside0.mk ((by rw [hg]; exact Nat.ne_of_gt (blk_lt (g := gb101) (o := .cells #[.int .u8 a0_0, .string a0_1, .int .i64 a0_2, .string a0_3, .int .u8 a0_4, .slice A0_5 l0_5.length c0_5] 63 (0, 0)) (by (with_reducible repeat (first | refine blk_drewN ?_ _ | refine blk_drew ?_ | refine blk_alloc ?_ _)); exact BK101.out)) : gb102 ≠ gb101)); clear BK101; clear HB; have BK101 := n0_; have HB := n1_; have BK102 := n2_; have GW102 := n3_; have GE102 := n4_; have NB101_102 := n5_; have NB102_101 := n6_; clear n0_ n1_ n2_ n3_ n4_ n5_ n6_; clear hb hbox hg; have hnb32 := NB101_102.out; have hnc32 := NB102_101.out; have hcz33_0 : w31.cell? ⟨gb101, 0, none⟩ = some (.int .u8 a0_0) := (blk_cell BK101.out 0).trans rfl; have hcz33_1 : w31.cell? ⟨gb101, 1, none⟩ = some (.string a0_1) := (blk_cell BK101.out 1).trans rfl; have hcz33_2 : w31.cell? ⟨gb101, 2, none⟩ = some (.int .i64 a0_2) := (blk_cell BK101.out 2).trans rfl; have hcz33_3 : w31.cell? ⟨gb101, 3, none⟩ = some (.string a0_3) := (blk_cell BK101.out 3).trans rfl; have hcz33_4 : w31.cell? ⟨gb101, 4, none⟩ = some (.int .u8 a0_4) := (blk_cell BK101.out 4).trans rfl; have hcz33_5 : w31.cell? ⟨gb101, 5, none⟩ = some (.slice A0_5 l0_5.length c0_5) := (blk_cell BK101.out 5).trans rfl; have hfz33_0 := blk_frozen BK101.out 0; have hfz33_1 := blk_frozen BK101.out 1; have hfz33_2 := blk_frozen BK101.out 2; have hfz33_3 := blk_frozen BK101.out 3; have hfz33_4 := blk_frozen BK101.out 4; have hfz33_5 := blk_frozen BK101.out 5; have hcz34_0 : w31.cell? ⟨gb102, 0, none⟩ = some (.int .u8 a1_0) := (blk_cell BK102.out 0).trans rfl; have hcz34_1 : w31.cell? ⟨gb102, 1, none⟩ = some (.string a1_1) := (blk_cell BK102.out 1).trans rfl; have hcz34_2 : w31.cell? ⟨gb102, 2, none⟩ = some (.int .i64 a1_2) := (blk_cell BK102.out 2).trans rfl; have hcz34_3 : w31.cell? ⟨gb102, 3, none⟩ = some (.string a1_3) := (blk_cell BK102.out 3).trans rfl; have hcz34_4 : w31.cell? ⟨gb102, 4, none⟩ = some (.int .u8 a1_4) := (blk_cell BK102.out 4).trans rfl; have hcz34_5 : w31.cell? ⟨gb102, 5, none⟩ = some (.slice A1_5 l1_5.length c1_5) := (blk_cell BK102.out 5).trans rfl; have hfz34_0 := blk_frozen BK102.out 0; have hfz34_1 := blk_frozen BK102.out 1; have hfz34_2 := blk_frozen BK102.out 2; have hfz34_3 := blk_frozen BK102.out 3; have hfz34_4 := blk_frozen BK102.out 4; have hfz34_5 := blk_frozen BK102.out 5))
      go_ret
      exact ⟨by first | rfl | (simp [errW_none, errW_some] <;> rfl) | (simp [*, errW_none, errW_some] <;> rfl), by repeat (first | (with_reducible first | exact HB.out | apply below_alloc | apply pw_below_drewN | apply below_drew1 | refine below_set ?_ GE101.out | refine below_set ?_ GE102.out) | exact HB.out)⟩
  · rw [if_neg c3] at H
    have c3b0 : (a0_0 == a1_0) = false := beq_eq_false_iff_ne.mpr c3
    have c3b1 : (a0_0 != a1_0) = true := bne_iff_ne.mpr c3
    obtain rfl := Option.some.inj H
    go_enter Tryd.func52, Tryd.ntmps52
    go_wp2_with (first | ((with_reducible refine gate_dst (N := 2) rfl ?_); refine box_event ?hg (N := 2) ?hd (cs := #[.int .u8 a0_0, .string a0_1, .int .i64 a0_2, .string a0_3, .int .u8 a0_4, .slice A0_5 l0_5.length c0_5]) (t := 63) ?hr ?_; (case hd => rfl); (case hg => rfl); (case hr => first | (go_simp; done) | (go_simp; rfl)); intro gb101 hg w35 hbox hb; have n0_ := Aside0.mk (below_step (by repeat (first | (with_reducible first | exact HB.out | apply below_alloc | apply pw_below_drewN | apply below_drew1) | exact HB.out)) hb); have n1_ := Aside0.mk (hbox); have n2_ := Aside0.mk ((by rw [hg]; exact (below_size (by repeat (first | (with_reducible first | exact HB.out | apply below_alloc | apply pw_below_drewN | apply below_drew1) | exact HB.out))) : w.heap.size ≤ gb101)); have n3_ := Aside0.mk ((by rw [hg]; exact (below_size (by repeat (first | (with_reducible first | exact HB.out | apply below_alloc | apply pw_below_drewN | apply below_drew1) | exact HB.out))) : w.heap.size ≤ gb101)); clear HB; have HB := n0_; have BK101 := n1_; have GW101 := n2_; have GE101 := n3_; clear n0_ n1_ n2_ n3_; clear hb hbox hg) | ((with_reducible refine gate_dst (N := 3) rfl ?_); refine box_event ?hg (N := 3) ?hd (cs := #[.int .u8 a1_0, .string a1_1, .int .i64 a1_2, .string a1_3, .int .u8 a1_4, .slice A1_5 l1_5.length c1_5]) (t := 63) ?hr ?_; (case hd => rfl); (case hg => rfl); (case hr => first | (go_simp; done) | (go_simp; rfl)); intro gb102 hg w36 hbox hb; have n0_ := Aside0.mk (blk_below (g := gb101) (o := .cells #[.int .u8 a0_0, .string a0_1, .int .i64 a0_2, .string a0_3, .int .u8 a0_4, .slice A0_5 l0_5.length c0_5] 63 (0, 0)) (by (with_reducible repeat (first | refine blk_drewN ?_ _ | refine blk_drew ?_ | refine blk_alloc ?_ _)); exact BK101.out) hb); have n1_ := Aside0.mk (below_step (by repeat (first | (with_reducible first | exact HB.out | apply below_alloc | apply pw_below_drewN | apply below_drew1 | refine below_set ?_ GE101.out) | exact HB.out)) hb); have n2_ := Aside0.mk (hbox); have n3_ := Aside0.mk ((by rw [hg]; exact (below_size (by repeat (first | (with_reducible first | exact HB.out | apply below_alloc | apply pw_below_drewN | apply below_drew1 | refine below_set ?_ GE101.out) | exact HB.out))) : w.heap.size ≤ gb102)); have n4_ := Aside0.mk ((by rw [hg]; exact (below_size (by repeat (first | (with_reducible first | exact HB.out | apply below_alloc | apply pw_below_drewN | apply below_drew1 | refine below_set ?_ GE101.out) | exact HB.out))) : w.heap.size ≤ gb102)); have n5_ := Aside0.mk ((by rw [hg]; exact Nat.ne_of_lt (blk_lt (g := gb101) (o := .cells #[.int .u8 a0_0, .string a0_1, .int .i64 a0_2, .string a0_3, .int .u8 a0_4, .slice A0_5 l0_5.length c0_5] 63 (0, 0)) (by (with_reducible repeat (first | refine blk_drewN ?_ _ | refine blk_drew ?_ | refine blk_alloc ?_ _)); exact BK101.out)) : gb101 ≠ gb102)); have n6_ := Aside0.mk ((by rw [hg]; exact Nat.ne_of_gt (blk_lt (g := gb101) (o := .cells #[.int .u8 a0_0, .string a0_1, .int .i64 a0_2, .string a0_3, .int .u8 a0_4, .slice A0_5 l0_5.length c0_5] 63 (0, 0)) (by (with_reducible repeat (first | refine blk_drewN ?_ _ | refine blk_drew ?_ | refine blk_alloc ?_ _)); exact BK101.out)) : gb102 ≠ gb101)); clear BK101; clear HB; have BK101 := n0_; have HB := n1_; have BK102 := n2_; have GW102 := n3_; have GE102 := n4_; have NB101_102 := n5_; have NB102_101 := n6_; clear n0_ n1_ n2_ n3_ n4_ n5_ n6_; clear hb hbox hg; have hnb37 := NB101_102.out; have hnc37 := NB102_101.out; have hcz38_0 : w36.cell? ⟨gb101, 0, none⟩ = some (.int .u8 a0_0) := (blk_cell BK101.out 0).trans rfl; have hcz38_1 : w36.cell? ⟨gb101, 1, none⟩ = some (.string a0_1) := (blk_cell BK101.out 1).trans rfl; have hcz38_2 : w36.cell? ⟨gb101, 2, none⟩ = some (.int .i64 a0_2) := (blk_cell BK101.out 2).trans rfl; have hcz38_3 : w36.cell? ⟨gb101, 3, none⟩ = some (.string a0_3) := (blk_cell BK101.out 3).trans rfl; have hcz38_4 : w36.cell? ⟨gb101, 4, none⟩ = some (.int .u8 a0_4) := (blk_cell BK101.out 4).trans rfl; have hcz38_5 : w36.cell? ⟨gb101, 5, none⟩ = some (.slice A0_5 l0_5.length c0_5) := (blk_cell BK101.out 5).trans rfl; have hfz38_0 := blk_frozen BK101.out 0; have hfz38_1 := blk_frozen BK101.out 1; have hfz38_2 := blk_frozen BK101.out 2; have hfz38_3 := blk_frozen BK101.out 3; have hfz38_4 := blk_frozen BK101.out 4; have hfz38_5 := blk_frozen BK101.out 5; have hcz39_0 : w36.cell? ⟨gb102, 0, none⟩ = some (.int .u8 a1_0) := (blk_cell BK102.out 0).trans rfl; have hcz39_1 : w36.cell? ⟨gb102, 1, none⟩ = some (.string a1_1) := (blk_cell BK102.out 1).trans rfl; have hcz39_2 : w36.cell? ⟨gb102, 2, none⟩ = some (.int .i64 a1_2) := (blk_cell BK102.out 2).trans rfl; have hcz39_3 : w36.cell? ⟨gb102, 3, none⟩ = some (.string a1_3) := (blk_cell BK102.out 3).trans rfl; have hcz39_4 : w36.cell? ⟨gb102, 4, none⟩ = some (.int .u8 a1_4) := (blk_cell BK102.out 4).trans rfl; have hcz39_5 : w36.cell? ⟨gb102, 5, none⟩ = some (.slice A1_5 l1_5.length c1_5) := (blk_cell BK102.out 5).trans rfl; have hfz39_0 := blk_frozen BK102.out 0; have hfz39_1 := blk_frozen BK102.out 1; have hfz39_2 := blk_frozen BK102.out 2; have hfz39_3 := blk_frozen BK102.out 3; have hfz39_4 := blk_frozen BK102.out 4; have hfz39_5 := blk_frozen BK102.out 5))
    go_ret
    exact ⟨by first | rfl | (simp [errW_none, errW_some] <;> rfl) | (simp [*, errW_none, errW_some] <;> rfl), by repeat (first | (with_reducible first | exact HB.out | apply below_alloc | apply pw_below_drewN | apply below_drew1 | refine below_set ?_ GE101.out | refine below_set ?_ GE102.out) | exact HB.out)⟩
end Go.Proofs.YthnafgffanlnfaaDoor.PSrc
namespace Go.Proofs.YthnafgffanlnfaaDoor.PSrc
open Go.RowKit Go.Proofs.YthnafgffanlnfaaDoorW.PrintWords Go.Proofs.YthnafgffanlnfaaDoorW.PrintLast Go.Proofs.YthnafgffanlnfaaDoorW.PrintMore
attribute [local go_sem] max2_int min2_int max_two min_two max_three min_three max_four min_four   -- for this text's walks alone
set_option linter.unusedVariables false
set_option linter.unusedSimpArgs false
def vesperlaw13_sameItems.l0 : Nat → List (S63) → List (S63) → Int → Option (Bool)
  | 0, _, _, _ => none
  | k + 1, x0, x1, x5 => if x5 < (x0.length : Int) then (if 0 ≤ x5 then (if x5 < (x1.length : Int) then ((vesperlaw13_same.f ((rd_T63 x0 x5).f0) ((rd_T63 x0 x5).f1) ((rd_T63 x0 x5).f2) ((rd_T63 x0 x5).f3) ((rd_T63 x0 x5).f4) ((rd_T63 x0 x5).f5) ((rd_T63 x1 x5).f0) ((rd_T63 x1 x5).f1) ((rd_T63 x1 x5).f2) ((rd_T63 x1 x5).f3) ((rd_T63 x1 x5).f4) ((rd_T63 x1 x5).f5)).bind fun t103 => (if t103 = true then (vesperlaw13_sameItems.l0 k x0 x1 (wrap64 (x5 + 1))) else (some false))) else (none)) else (none)) else (some true)
def vesperlaw13_sameItems.f (k : Nat) (l0 : List (S63)) (l1 : List (S63)) : Option (Bool) := if (l0.length : Int) = (l1.length : Int) then (vesperlaw13_sameItems.l0 k l0 l1 0) else (some false)
theorem vesperlaw13_sameItems.mono_l : ∀ k, (∀ y0 y1 y2, LeO (vesperlaw13_sameItems.l0 k y0 y1 y2) (vesperlaw13_sameItems.l0 (k + 1) y0 y1 y2))
  | 0 => fun _ _ _ r h => by simp [vesperlaw13_sameItems.l0] at h
  | k + 1 => by
    have ih0 := vesperlaw13_sameItems.mono_l k
    · intro y0 y1 y2
      unfold vesperlaw13_sameItems.l0
      repeat' first
      | (with_reducible exact ih0 _ _ _)
      | (with_reducible exact LeO.refl _)
      | (with_reducible exact LeO.none _)
      | (with_reducible refine LeO.ite ?_ ?_)
      | (with_reducible refine LeO.bind ?_ (fun _ => ?_))
      | exact ih0 _ _ _
      | exact LeO.none _
      | refine LeO.ite ?_ ?_
      | refine LeO.bind ?_ (fun _ => ?_)
theorem vesperlaw13_sameItems.mono : ∀ a0 a1 k, LeO (vesperlaw13_sameItems.f k a0 a1) (vesperlaw13_sameItems.f (k + 1) a0 a1) := by
  intro a0 a1 k
  have ih0 := vesperlaw13_sameItems.mono_l k
  unfold vesperlaw13_sameItems.f
  repeat' first
      | (with_reducible exact ih0 _ _ _)
      | (with_reducible exact LeO.refl _)
      | (with_reducible exact LeO.none _)
      | (with_reducible refine LeO.ite ?_ ?_)
      | (with_reducible refine LeO.bind ?_ (fun _ => ?_))
      | exact ih0 _ _ _
      | exact LeO.none _
      | refine LeO.ite ?_ ?_
      | refine LeO.bind ?_ (fun _ => ?_)
def vesperlaw13_sameItems.T6 : Bool × List (List Nat × List Nat) := (true, [([], []), ([], []), ([0, 1], [0, 1]), ([2], [2]), ([], []), ([], []), ([4, 5], [4, 5]), ([6], [6]), ([3, 7], [3, 7]), ([8, 8, 0, 1, 2, 3, 4, 5, 6, 7, 8], [8])])
def vesperlaw13_sameItems.B6 : List Nat := [0, 0, 3, 7, 0, 0, 48, 112, 255, 511]
theorem vesperlaw13_sameItems.tab6 : rtab .any (opsOf Tryd.f30 6) = vesperlaw13_sameItems.T6 := by kernel_rfl
theorem vesperlaw13_sameItems.bits6 : waitsOk vesperlaw13_sameItems.T6.2 vesperlaw13_sameItems.B6 = true := by kernel_rfl
set_option maxHeartbeats 8000000 in
set_option maxRecDepth 100000 in
theorem vesperlaw13_sameItems.calls (k : Nat) (A0 : Option Addr) (c0 : Nat) (l0 : List (S63)) (A1 : Option Addr) (c1 : Nat) (l1 : List (S63)) (r : Bool) (w : World) (hr0 : Kd.C k63 w A0 l0.length l0) (hc0 : l0.length ≤ c0) (hr1 : Kd.C k63 w A1 l1.length l1) (hc1 : l1.length ≤ c1) (h : vesperlaw13_sameItems.f k l0 l1 = some r) :
    Calls Tryd.prog 30 #[.slice A0 l0.length c0, .slice A1 l1.length c1] w fun e w' => e = .returned (.bool r) ∧ Below w.heap.size w w' := by
  have hu63 := Tryd.underlying63
  have HR0 := Aside0.mk hr0
  have HC0 := Aside0.mk hc0
  clear hr0 hc0
  have HR1 := Aside0.mk hr1
  have HC1 := Aside0.mk hc1
  clear hr1 hc1
  have HB := Aside0.mk (Below.refl w.heap.size w)
  have H : (if (l0.length : Int) = (l1.length : Int) then (vesperlaw13_sameItems.l0 k l0 l1 0) else (some false)) = some r := h
  clear h
  by_cases c3 : (l0.length : Int) = (l1.length : Int)
  · rw [if_pos c3] at H
    have c3b0 : ((l0.length : Int) == (l1.length : Int)) = true := beq_iff_eq.mpr c3
    have c3b1 : ((l0.length : Int) != (l1.length : Int)) = false := bne_eq_false_iff_eq.mpr c3
    have c3b2 : (l0.length == l1.length) = true := by first | simpa using c3 | (simp at c3 ⊢; omega)
    clear c3
    have H' := Aside0.mk H
    clear H
    go_enter Tryd.func30, Tryd.ntmps30
    go_wp2
    go_loopg [5] k (fun kq v5 w' => ∃ (x5_1 : Int), v5 = .int .i64 x5_1 ∧ Aside0 (vesperlaw13_sameItems.l0 kq l0 l1 x5_1 = some r) ∧ Aside0 (kq ≤ k) ∧ Aside0 (Below w.heap.size w w'))
    case atStart => exact ⟨(0), (by first | rfl | (simp; done) | (simp [*]; done)), H', ⟨Nat.le_refl _⟩, ⟨by repeat (first | (with_reducible first | exact HB.out | apply below_alloc | apply pw_below_drewN | apply below_drew1) | exact HB.out)⟩⟩
    case round =>
      clear H'
      try clear c1
      try clear p2
      try clear c3
      try clear c3b0
      try clear c3b1
      try clear c3b2
      obtain ⟨x5_1, rfl, HA, HK1, HB⟩ := hrel
      cases gk with
      | zero => exact absurd HA.out (by simp [vesperlaw13_sameItems.l0])
      | succ k1 =>
        have H := HA.out
        clear HA
        simp only [vesperlaw13_sameItems.l0] at H
        by_cases c4 : x5_1 < (l0.length : Int)
        · rw [if_pos c4] at H
          have c4b0 : decide (x5_1 < (l0.length : Int)) = true := decide_eq_true c4
          clear c4
          by_cases c5 : 0 ≤ x5_1
          · rw [if_pos c5] at H
            have c5b0 : decide (0 ≤ x5_1) = true := decide_eq_true c5
            clear c5
            by_cases c6 : x5_1 < (l1.length : Int)
            · rw [if_pos c6] at H
              have c6b0 : decide (x5_1 < (l1.length : Int)) = true := decide_eq_true c6
              clear c6
              replace H := Option.bind_eq_some_iff.mp H
              obtain ⟨t103, A70, H⟩ := H
              replace H : (if t103 = true then (vesperlaw13_sameItems.l0 k1 l0 l1 (wrap64 (x5_1 + 1))) else (some false)) = some r := H
              have A7 := Aside0.mk A70
              clear A70
              by_cases c8 : t103 = true
              · subst c8
                have H1 : (vesperlaw13_sameItems.l0 k1 l0 l1 (wrap64 (x5_1 + 1))) = some r := by rw [if_pos rfl] at H; exact H
                clear H
                have H := H1
                clear H1
                have H' := Aside0.mk H
                clear H
                try go_wp2
                have n0_ := Aside0.mk (below_drew1 HB.out)
                clear HB
                have HB := n0_
                clear n0_
                have p101 : 0 ≤ (x5_1 : Int) := of_decide_eq_true (by first | (with_reducible assumption) | assumption)
                have q101 : x5_1 < (l0.length : Int) := of_decide_eq_true (by first | (with_reducible assumption) | assumption)
                obtain ⟨ad101, A101_5, c101_5, e101, hx101_0, hx101_1, hx101_2, hx101_3, hx101_4, hx101_5, hl101_5, hi101_5⟩ := at_T63 HR0.out x5_1 p101 q101
                have hw101_5 := hx101_5
                have hw101_4 := hx101_4
                have hw101_3 := hx101_3
                have hw101_2 := hx101_2
                have hw101_1 := hx101_1
                have hw101_0 := hx101_0
                cases e101
                replace hx101_0 := (HB.out.cell (World.block_lt_of_cell? w _ hx101_0)).trans hx101_0
                replace hx101_1 := (HB.out.cell (World.block_lt_of_cell? w _ hx101_1)).trans hx101_1
                replace hx101_2 := (HB.out.cell (World.block_lt_of_cell? w _ hx101_2)).trans hx101_2
                replace hx101_3 := (HB.out.cell (World.block_lt_of_cell? w _ hx101_3)).trans hx101_3
                replace hx101_4 := (HB.out.cell (World.block_lt_of_cell? w _ hx101_4)).trans hx101_4
                replace hx101_5 := (HB.out.cell (World.block_lt_of_cell? w _ hx101_5)).trans hx101_5
                have HR101_5 := Aside0.mk hi101_5
                have HC101_5 := Aside0.mk hl101_5
                clear hi101_5 hl101_5
                replace p101 := eq_true p101
                replace q101 := eq_true q101
                have p102 : 0 ≤ (x5_1 : Int) := of_decide_eq_true (by first | (with_reducible assumption) | assumption)
                have q102 : x5_1 < (l1.length : Int) := of_decide_eq_true (by first | (with_reducible assumption) | assumption)
                obtain ⟨ad102, A102_5, c102_5, e102, hx102_0, hx102_1, hx102_2, hx102_3, hx102_4, hx102_5, hl102_5, hi102_5⟩ := at_T63 HR1.out x5_1 p102 q102
                have hw102_5 := hx102_5
                have hw102_4 := hx102_4
                have hw102_3 := hx102_3
                have hw102_2 := hx102_2
                have hw102_1 := hx102_1
                have hw102_0 := hx102_0
                cases e102
                replace hx102_0 := (HB.out.cell (World.block_lt_of_cell? w _ hx102_0)).trans hx102_0
                replace hx102_1 := (HB.out.cell (World.block_lt_of_cell? w _ hx102_1)).trans hx102_1
                replace hx102_2 := (HB.out.cell (World.block_lt_of_cell? w _ hx102_2)).trans hx102_2
                replace hx102_3 := (HB.out.cell (World.block_lt_of_cell? w _ hx102_3)).trans hx102_3
                replace hx102_4 := (HB.out.cell (World.block_lt_of_cell? w _ hx102_4)).trans hx102_4
                replace hx102_5 := (HB.out.cell (World.block_lt_of_cell? w _ hx102_5)).trans hx102_5
                have HR102_5 := Aside0.mk hi102_5
                have HC102_5 := Aside0.mk hl102_5
                clear hi102_5 hl102_5
                replace p102 := eq_true p102
                replace q102 := eq_true q102
                refine start_ (n := 10) (S := fun w' => w'.cell? (ad101.add ((x5_1).toNat * 6)) = some (.int .u8 ((rd_T63 l0 x5_1).f0)) ∧ w'.cell? ⟨(ad101.add ((x5_1).toNat * 6)).block, (ad101.add ((x5_1).toNat * 6)).off + 1, none⟩ = some (.string ((rd_T63 l0 x5_1).f1)) ∧ w'.cell? ⟨(ad101.add ((x5_1).toNat * 6)).block, (ad101.add ((x5_1).toNat * 6)).off + 2, none⟩ = some (.int .i64 ((rd_T63 l0 x5_1).f2)) ∧ w'.cell? ⟨(ad101.add ((x5_1).toNat * 6)).block, (ad101.add ((x5_1).toNat * 6)).off + 3, none⟩ = some (.string ((rd_T63 l0 x5_1).f3)) ∧ w'.cell? ⟨(ad101.add ((x5_1).toNat * 6)).block, (ad101.add ((x5_1).toNat * 6)).off + 4, none⟩ = some (.int .u8 ((rd_T63 l0 x5_1).f4)) ∧ w'.cell? ⟨(ad101.add ((x5_1).toNat * 6)).block, (ad101.add ((x5_1).toNat * 6)).off + 5, none⟩ = some (.slice A101_5 ((rd_T63 l0 x5_1).f5).length c101_5) ∧ w'.cell? (ad102.add ((x5_1).toNat * 6)) = some (.int .u8 ((rd_T63 l1 x5_1).f0)) ∧ w'.cell? ⟨(ad102.add ((x5_1).toNat * 6)).block, (ad102.add ((x5_1).toNat * 6)).off + 1, none⟩ = some (.string ((rd_T63 l1 x5_1).f1)) ∧ w'.cell? ⟨(ad102.add ((x5_1).toNat * 6)).block, (ad102.add ((x5_1).toNat * 6)).off + 2, none⟩ = some (.int .i64 ((rd_T63 l1 x5_1).f2)) ∧ w'.cell? ⟨(ad102.add ((x5_1).toNat * 6)).block, (ad102.add ((x5_1).toNat * 6)).off + 3, none⟩ = some (.string ((rd_T63 l1 x5_1).f3)) ∧ w'.cell? ⟨(ad102.add ((x5_1).toNat * 6)).block, (ad102.add ((x5_1).toNat * 6)).off + 4, none⟩ = some (.int .u8 ((rd_T63 l1 x5_1).f4)) ∧ w'.cell? ⟨(ad102.add ((x5_1).toNat * 6)).block, (ad102.add ((x5_1).toNat * 6)).off + 5, none⟩ = some (.slice A102_5 ((rd_T63 l1 x5_1).f5).length c102_5)) (ds := []) #[false, false, false, false, false, false, false, false, false, false] (by kernel_rfl) rfl rfl ⟨((HB.out.cell (World.block_lt_of_cell? w _ hw101_0)).trans hw101_0), ((HB.out.cell (World.block_lt_of_cell? w _ hw101_1)).trans hw101_1), ((HB.out.cell (World.block_lt_of_cell? w _ hw101_2)).trans hw101_2), ((HB.out.cell (World.block_lt_of_cell? w _ hw101_3)).trans hw101_3), ((HB.out.cell (World.block_lt_of_cell? w _ hw101_4)).trans hw101_4), ((HB.out.cell (World.block_lt_of_cell? w _ hw101_5)).trans hw101_5), ((HB.out.cell (World.block_lt_of_cell? w _ hw102_0)).trans hw102_0), ((HB.out.cell (World.block_lt_of_cell? w _ hw102_1)).trans hw102_1), ((HB.out.cell (World.block_lt_of_cell? w _ hw102_2)).trans hw102_2), ((HB.out.cell (World.block_lt_of_cell? w _ hw102_3)).trans hw102_3), ((HB.out.cell (World.block_lt_of_cell? w _ hw102_4)).trans hw102_4), ((HB.out.cell (World.block_lt_of_cell? w _ hw102_5)).trans hw102_5)⟩ (fun hHeld => ?_); refine with_tabW vesperlaw13_sameItems.tab6 vesperlaw13_sameItems.bits6 (fun HT_ HW_ => ?_)
                generalize wr.drew = w9 at HB HR101_5 HR102_5 hx101_0 hx101_1 hx101_2 hx101_3 hx101_4 hx101_5 hx102_0 hx102_1 hx102_2 hx102_3 hx102_4 hx102_5 hHeld ⊢
                refine pure_ (i := 0) (N := some 18) (v := ?_) (a' := ?_) #[true, false, false, false, false, false, false, false, false, false] rfl rfl (any_of HT_.out (by kernel_rfl)) (fun _ _ _ h => h) (Or.inl ⟨by rfl, ?_⟩) ?_ ?_
                rotate_left
                · intro w'
                  go_simp
                  with_reducible rfl
                rotate_left
                · simp only [Act.put, List.setIfInBounds_toArray, List.set_cons_zero, List.set_cons_succ, i64_w, i32_w]
                  rfl
                refine pure_ (i := 1) (N := some 19) (v := ?_) (a' := ?_) #[true, true, false, false, false, false, false, false, false, false] rfl rfl (any_of HT_.out (by kernel_rfl)) (fun _ _ _ h => h) (Or.inl ⟨by rfl, ?_⟩) ?_ ?_
                rotate_left
                · intro w'
                  go_simp
                  with_reducible rfl
                rotate_left
                · simp only [Act.put, List.setIfInBounds_toArray, List.set_cons_zero, List.set_cons_succ, i64_w, i32_w]
                  rfl
                refine pure_ (i := 2) (N := some 20) (v := ?_) (a' := ?_) #[true, true, true, false, false, false, false, false, false, false] rfl rfl (any_of HT_.out (by kernel_rfl)) (fun _ _ _ h => h) (Or.inl ⟨by rfl, ?_⟩) ?_ ?_
                rotate_left
                · intro w'
                  go_simp
                  with_reducible rfl
                rotate_left
                · simp only [Act.put, List.setIfInBounds_toArray, List.set_cons_zero, List.set_cons_succ, i64_w, i32_w]
                  rfl
                refine pure_ (i := 4) (N := some 22) (v := ?_) (a' := ?_) #[true, true, true, false, true, false, false, false, false, false] rfl rfl (any_of HT_.out (by kernel_rfl)) (fun _ _ _ h => h) (Or.inl ⟨by rfl, ?_⟩) ?_ ?_
                rotate_left
                · intro w'
                  go_simp
                  with_reducible rfl
                rotate_left
                · simp only [Act.put, List.setIfInBounds_toArray, List.set_cons_zero, List.set_cons_succ, i64_w, i32_w]
                  rfl
                refine pure_ (i := 5) (N := some 23) (v := ?_) (a' := ?_) #[true, true, true, false, true, true, false, false, false, false] rfl rfl (any_of HT_.out (by kernel_rfl)) (fun _ _ _ h => h) (Or.inl ⟨by rfl, ?_⟩) ?_ ?_
                rotate_left
                · intro w'
                  go_simp
                  with_reducible rfl
                rotate_left
                · simp only [Act.put, List.setIfInBounds_toArray, List.set_cons_zero, List.set_cons_succ, i64_w, i32_w]
                  rfl
                refine pure_ (i := 6) (N := some 24) (v := ?_) (a' := ?_) #[true, true, true, false, true, true, true, false, false, false] rfl rfl (any_of HT_.out (by kernel_rfl)) (fun _ _ _ h => h) (Or.inl ⟨by rfl, ?_⟩) ?_ ?_
                rotate_left
                · intro w'
                  go_simp
                  with_reducible rfl
                rotate_left
                · simp only [Act.put, List.setIfInBounds_toArray, List.set_cons_zero, List.set_cons_succ, i64_w, i32_w]
                  rfl
                refine take_ (i := 3) (N := some 21) (v := ?_) (a' := ?_) #[true, true, true, true, true, true, true, false, false, false] rfl rfl (take_ofW HT_.out HW_.out (by kernel_rfl)) (fun _ _ _ h => h) (Or.inl ⟨by rfl, ?_⟩) hHeld ?_ ?_
                rotate_left
                · rintro w' ⟨s0, s1, s2, s3, s4, s5, s6, s7, s8, s9, s10, s11⟩
                  go_simp
                  with_reducible rfl
                rotate_left
                · simp only [Act.put, List.setIfInBounds_toArray, List.set_cons_zero, List.set_cons_succ, i64_w, i32_w]
                  rfl
                refine take_ (i := 7) (N := some 25) (v := ?_) (a' := ?_) #[true, true, true, true, true, true, true, true, false, false] rfl rfl (take_ofW HT_.out HW_.out (by kernel_rfl)) (fun _ _ _ h => h) (Or.inl ⟨by rfl, ?_⟩) hHeld ?_ ?_
                rotate_left
                · rintro w' ⟨s0, s1, s2, s3, s4, s5, s6, s7, s8, s9, s10, s11⟩
                  go_simp
                  with_reducible rfl
                rotate_left
                · simp only [Act.put, List.setIfInBounds_toArray, List.set_cons_zero, List.set_cons_succ, i64_w, i32_w]
                  rfl
                refine one_ (i := 8) (N := some 26) #[true, true, true, true, true, true, true, true, true, false] rfl rfl (one_of HT_.out (by kernel_rfl)) (by decide) (fun K hK => ?_)
                refine goes_ Tryd.func52 (by kernel_rfl) rfl #[.agg #[.int .u8 ((rd_T63 l0 x5_1).f0), .string ((rd_T63 l0 x5_1).f1), .int .i64 ((rd_T63 l0 x5_1).f2), .string ((rd_T63 l0 x5_1).f3), .int .u8 ((rd_T63 l0 x5_1).f4), .slice A101_5 ((rd_T63 l0 x5_1).f5).length c101_5], .agg #[.int .u8 ((rd_T63 l1 x5_1).f0), .string ((rd_T63 l1 x5_1).f1), .int .i64 ((rd_T63 l1 x5_1).f2), .string ((rd_T63 l1 x5_1).f3), .int .u8 ((rd_T63 l1 x5_1).f4), .slice A102_5 ((rd_T63 l1 x5_1).f5).length c102_5]] (by rfl) rfl rfl (by (try simp only [List.map_toArray, List.map_cons, List.map_nil]); first | done | rfl | (simp only [List.length_drop, List.length_take]; rfl)) ?_
                with_reducible refine (vesperlaw13_same.calls ((rd_T63 l0 x5_1).f0) ((rd_T63 l0 x5_1).f1) ((rd_T63 l0 x5_1).f2) ((rd_T63 l0 x5_1).f3) ((rd_T63 l0 x5_1).f4) _ _ ((rd_T63 l0 x5_1).f5) ((rd_T63 l1 x5_1).f0) ((rd_T63 l1 x5_1).f1) ((rd_T63 l1 x5_1).f2) ((rd_T63 l1 x5_1).f3) ((rd_T63 l1 x5_1).f4) _ _ ((rd_T63 l1 x5_1).f5) true _ ?side1 ?side2 ?side3 ?side4 A7.out).mono ?_
                (case side1 => repeat (first | exact (Kd.C_below HR101_5.out HB.out) | (with_reducible refine Kd.C_alloc ?_ _) | (with_reducible refine Kd.C_drewN ?_ _) | (with_reducible refine Kd.C_drew ?_)))
                (case side2 => exact HC101_5.out)
                (case side3 => repeat (first | exact (Kd.C_below HR102_5.out HB.out) | (with_reducible refine Kd.C_alloc ?_ _) | (with_reducible refine Kd.C_drewN ?_ _) | (with_reducible refine Kd.C_drew ?_)))
                (case side4 => exact HC102_5.out)
                rintro e w10 ⟨rfl, hb⟩
                refine ⟨_, rfl, ?_⟩
                have n0_ := Aside0.mk (below_step (by repeat (first | (with_reducible first | exact HB.out | apply below_alloc | apply pw_below_drewN | apply below_drew1) | exact HB.out)) hb)
                clear HB
                have HB := n0_
                clear n0_
                (try clear hb)
                (try clear hb2)
                (try clear hk)
                (try clear hi)
                refine hK.out _ _ ⟨((HB.out.cell (World.block_lt_of_cell? w _ hw101_0)).trans hw101_0), ((HB.out.cell (World.block_lt_of_cell? w _ hw101_1)).trans hw101_1), ((HB.out.cell (World.block_lt_of_cell? w _ hw101_2)).trans hw101_2), ((HB.out.cell (World.block_lt_of_cell? w _ hw101_3)).trans hw101_3), ((HB.out.cell (World.block_lt_of_cell? w _ hw101_4)).trans hw101_4), ((HB.out.cell (World.block_lt_of_cell? w _ hw101_5)).trans hw101_5), ((HB.out.cell (World.block_lt_of_cell? w _ hw102_0)).trans hw102_0), ((HB.out.cell (World.block_lt_of_cell? w _ hw102_1)).trans hw102_1), ((HB.out.cell (World.block_lt_of_cell? w _ hw102_2)).trans hw102_2), ((HB.out.cell (World.block_lt_of_cell? w _ hw102_3)).trans hw102_3), ((HB.out.cell (World.block_lt_of_cell? w _ hw102_4)).trans hw102_4), ((HB.out.cell (World.block_lt_of_cell? w _ hw102_5)).trans hw102_5)⟩ (fun hHeld => ?_)
                clear hK K
                refine norm_ (a' := ?_) ?_ ?_
                rotate_left
                · show Act.put _ (some 26) _ = _
                  simp only [Act.put, List.setIfInBounds_toArray, List.set_cons_zero, List.set_cons_succ, i64_w, i32_w]
                  rfl
                refine pure_ (i := 9) (N := some 6) (v := ?_) (a' := ?_) #[true, true, true, true, true, true, true, true, true, true] rfl rfl (any_of HT_.out (by kernel_rfl)) (fun _ _ _ h => h) (Or.inl ⟨by rfl, ?_⟩) ?_ ?_
                rotate_left
                · intro w'
                  go_simp
                  with_reducible rfl
                rotate_left
                · simp only [Act.put, List.setIfInBounds_toArray, List.set_cons_zero, List.set_cons_succ, i64_w, i32_w]
                  rfl
                refine done_ (done_of HT_.out (by kernel_rfl)) ?_
                try go_wp2
                go_roundg k1
                case measure => have := HK1.out; omega
                case rel => exact ⟨(wrap64 (x5_1 + 1)), (by first | rfl | (simp; done) | (simp [*]; done)), H', ⟨by have := HK1.out; omega⟩, ⟨by repeat (first | (with_reducible first | exact HB.out | apply below_alloc | apply pw_below_drewN | apply below_drew1) | exact HB.out)⟩⟩
              · replace c8 := Bool.eq_false_iff.mpr c8
                subst c8
                have H1 : (some false) = some r := by rw [if_neg (show ¬ (false = true) by decide)] at H; exact H
                clear H
                have H := H1
                clear H1
                obtain rfl := Option.some.inj H
                try go_wp2
                have n0_ := Aside0.mk (below_drew1 HB.out)
                clear HB
                have HB := n0_
                clear n0_
                have p101 : 0 ≤ (x5_1 : Int) := of_decide_eq_true (by first | (with_reducible assumption) | assumption)
                have q101 : x5_1 < (l0.length : Int) := of_decide_eq_true (by first | (with_reducible assumption) | assumption)
                obtain ⟨ad101, A101_5, c101_5, e101, hx101_0, hx101_1, hx101_2, hx101_3, hx101_4, hx101_5, hl101_5, hi101_5⟩ := at_T63 HR0.out x5_1 p101 q101
                have hw101_5 := hx101_5
                have hw101_4 := hx101_4
                have hw101_3 := hx101_3
                have hw101_2 := hx101_2
                have hw101_1 := hx101_1
                have hw101_0 := hx101_0
                cases e101
                replace hx101_0 := (HB.out.cell (World.block_lt_of_cell? w _ hx101_0)).trans hx101_0
                replace hx101_1 := (HB.out.cell (World.block_lt_of_cell? w _ hx101_1)).trans hx101_1
                replace hx101_2 := (HB.out.cell (World.block_lt_of_cell? w _ hx101_2)).trans hx101_2
                replace hx101_3 := (HB.out.cell (World.block_lt_of_cell? w _ hx101_3)).trans hx101_3
                replace hx101_4 := (HB.out.cell (World.block_lt_of_cell? w _ hx101_4)).trans hx101_4
                replace hx101_5 := (HB.out.cell (World.block_lt_of_cell? w _ hx101_5)).trans hx101_5
                have HR101_5 := Aside0.mk hi101_5
                have HC101_5 := Aside0.mk hl101_5
                clear hi101_5 hl101_5
                replace p101 := eq_true p101
                replace q101 := eq_true q101
                have p102 : 0 ≤ (x5_1 : Int) := of_decide_eq_true (by first | (with_reducible assumption) | assumption)
                have q102 : x5_1 < (l1.length : Int) := of_decide_eq_true (by first | (with_reducible assumption) | assumption)
                obtain ⟨ad102, A102_5, c102_5, e102, hx102_0, hx102_1, hx102_2, hx102_3, hx102_4, hx102_5, hl102_5, hi102_5⟩ := at_T63 HR1.out x5_1 p102 q102
                have hw102_5 := hx102_5
                have hw102_4 := hx102_4
                have hw102_3 := hx102_3
                have hw102_2 := hx102_2
                have hw102_1 := hx102_1
                have hw102_0 := hx102_0
                cases e102
                replace hx102_0 := (HB.out.cell (World.block_lt_of_cell? w _ hx102_0)).trans hx102_0
                replace hx102_1 := (HB.out.cell (World.block_lt_of_cell? w _ hx102_1)).trans hx102_1
                replace hx102_2 := (HB.out.cell (World.block_lt_of_cell? w _ hx102_2)).trans hx102_2
                replace hx102_3 := (HB.out.cell (World.block_lt_of_cell? w _ hx102_3)).trans hx102_3
                replace hx102_4 := (HB.out.cell (World.block_lt_of_cell? w _ hx102_4)).trans hx102_4
                replace hx102_5 := (HB.out.cell (World.block_lt_of_cell? w _ hx102_5)).trans hx102_5
                have HR102_5 := Aside0.mk hi102_5
                have HC102_5 := Aside0.mk hl102_5
                clear hi102_5 hl102_5
                replace p102 := eq_true p102
                replace q102 := eq_true q102
                refine start_ (n := 10) (S := fun w' => w'.cell? (ad101.add ((x5_1).toNat * 6)) = some (.int .u8 ((rd_T63 l0 x5_1).f0)) ∧ w'.cell? ⟨(ad101.add ((x5_1).toNat * 6)).block, (ad101.add ((x5_1).toNat * 6)).off + 1, none⟩ = some (.string ((rd_T63 l0 x5_1).f1)) ∧ w'.cell? ⟨(ad101.add ((x5_1).toNat * 6)).block, (ad101.add ((x5_1).toNat * 6)).off + 2, none⟩ = some (.int .i64 ((rd_T63 l0 x5_1).f2)) ∧ w'.cell? ⟨(ad101.add ((x5_1).toNat * 6)).block, (ad101.add ((x5_1).toNat * 6)).off + 3, none⟩ = some (.string ((rd_T63 l0 x5_1).f3)) ∧ w'.cell? ⟨(ad101.add ((x5_1).toNat * 6)).block, (ad101.add ((x5_1).toNat * 6)).off + 4, none⟩ = some (.int .u8 ((rd_T63 l0 x5_1).f4)) ∧ w'.cell? ⟨(ad101.add ((x5_1).toNat * 6)).block, (ad101.add ((x5_1).toNat * 6)).off + 5, none⟩ = some (.slice A101_5 ((rd_T63 l0 x5_1).f5).length c101_5) ∧ w'.cell? (ad102.add ((x5_1).toNat * 6)) = some (.int .u8 ((rd_T63 l1 x5_1).f0)) ∧ w'.cell? ⟨(ad102.add ((x5_1).toNat * 6)).block, (ad102.add ((x5_1).toNat * 6)).off + 1, none⟩ = some (.string ((rd_T63 l1 x5_1).f1)) ∧ w'.cell? ⟨(ad102.add ((x5_1).toNat * 6)).block, (ad102.add ((x5_1).toNat * 6)).off + 2, none⟩ = some (.int .i64 ((rd_T63 l1 x5_1).f2)) ∧ w'.cell? ⟨(ad102.add ((x5_1).toNat * 6)).block, (ad102.add ((x5_1).toNat * 6)).off + 3, none⟩ = some (.string ((rd_T63 l1 x5_1).f3)) ∧ w'.cell? ⟨(ad102.add ((x5_1).toNat * 6)).block, (ad102.add ((x5_1).toNat * 6)).off + 4, none⟩ = some (.int .u8 ((rd_T63 l1 x5_1).f4)) ∧ w'.cell? ⟨(ad102.add ((x5_1).toNat * 6)).block, (ad102.add ((x5_1).toNat * 6)).off + 5, none⟩ = some (.slice A102_5 ((rd_T63 l1 x5_1).f5).length c102_5)) (ds := []) #[false, false, false, false, false, false, false, false, false, false] (by kernel_rfl) rfl rfl ⟨((HB.out.cell (World.block_lt_of_cell? w _ hw101_0)).trans hw101_0), ((HB.out.cell (World.block_lt_of_cell? w _ hw101_1)).trans hw101_1), ((HB.out.cell (World.block_lt_of_cell? w _ hw101_2)).trans hw101_2), ((HB.out.cell (World.block_lt_of_cell? w _ hw101_3)).trans hw101_3), ((HB.out.cell (World.block_lt_of_cell? w _ hw101_4)).trans hw101_4), ((HB.out.cell (World.block_lt_of_cell? w _ hw101_5)).trans hw101_5), ((HB.out.cell (World.block_lt_of_cell? w _ hw102_0)).trans hw102_0), ((HB.out.cell (World.block_lt_of_cell? w _ hw102_1)).trans hw102_1), ((HB.out.cell (World.block_lt_of_cell? w _ hw102_2)).trans hw102_2), ((HB.out.cell (World.block_lt_of_cell? w _ hw102_3)).trans hw102_3), ((HB.out.cell (World.block_lt_of_cell? w _ hw102_4)).trans hw102_4), ((HB.out.cell (World.block_lt_of_cell? w _ hw102_5)).trans hw102_5)⟩ (fun hHeld => ?_); refine with_tabW vesperlaw13_sameItems.tab6 vesperlaw13_sameItems.bits6 (fun HT_ HW_ => ?_)
                generalize wr.drew = w11 at HB HR101_5 HR102_5 hx101_0 hx101_1 hx101_2 hx101_3 hx101_4 hx101_5 hx102_0 hx102_1 hx102_2 hx102_3 hx102_4 hx102_5 hHeld ⊢
                refine pure_ (i := 0) (N := some 18) (v := ?_) (a' := ?_) #[true, false, false, false, false, false, false, false, false, false] rfl rfl (any_of HT_.out (by kernel_rfl)) (fun _ _ _ h => h) (Or.inl ⟨by rfl, ?_⟩) ?_ ?_
                rotate_left
                · intro w'
                  go_simp
                  with_reducible rfl
                rotate_left
                · simp only [Act.put, List.setIfInBounds_toArray, List.set_cons_zero, List.set_cons_succ, i64_w, i32_w]
                  rfl
                refine pure_ (i := 1) (N := some 19) (v := ?_) (a' := ?_) #[true, true, false, false, false, false, false, false, false, false] rfl rfl (any_of HT_.out (by kernel_rfl)) (fun _ _ _ h => h) (Or.inl ⟨by rfl, ?_⟩) ?_ ?_
                rotate_left
                · intro w'
                  go_simp
                  with_reducible rfl
                rotate_left
                · simp only [Act.put, List.setIfInBounds_toArray, List.set_cons_zero, List.set_cons_succ, i64_w, i32_w]
                  rfl
                refine pure_ (i := 2) (N := some 20) (v := ?_) (a' := ?_) #[true, true, true, false, false, false, false, false, false, false] rfl rfl (any_of HT_.out (by kernel_rfl)) (fun _ _ _ h => h) (Or.inl ⟨by rfl, ?_⟩) ?_ ?_
                rotate_left
                · intro w'
                  go_simp
                  with_reducible rfl
                rotate_left
                · simp only [Act.put, List.setIfInBounds_toArray, List.set_cons_zero, List.set_cons_succ, i64_w, i32_w]
                  rfl
                refine pure_ (i := 4) (N := some 22) (v := ?_) (a' := ?_) #[true, true, true, false, true, false, false, false, false, false] rfl rfl (any_of HT_.out (by kernel_rfl)) (fun _ _ _ h => h) (Or.inl ⟨by rfl, ?_⟩) ?_ ?_
                rotate_left
                · intro w'
                  go_simp
                  with_reducible rfl
                rotate_left
                · simp only [Act.put, List.setIfInBounds_toArray, List.set_cons_zero, List.set_cons_succ, i64_w, i32_w]
                  rfl
                refine pure_ (i := 5) (N := some 23) (v := ?_) (a' := ?_) #[true, true, true, false, true, true, false, false, false, false] rfl rfl (any_of HT_.out (by kernel_rfl)) (fun _ _ _ h => h) (Or.inl ⟨by rfl, ?_⟩) ?_ ?_
                rotate_left
                · intro w'
                  go_simp
                  with_reducible rfl
                rotate_left
                · simp only [Act.put, List.setIfInBounds_toArray, List.set_cons_zero, List.set_cons_succ, i64_w, i32_w]
                  rfl
                refine pure_ (i := 6) (N := some 24) (v := ?_) (a' := ?_) #[true, true, true, false, true, true, true, false, false, false] rfl rfl (any_of HT_.out (by kernel_rfl)) (fun _ _ _ h => h) (Or.inl ⟨by rfl, ?_⟩) ?_ ?_
                rotate_left
                · intro w'
                  go_simp
                  with_reducible rfl
                rotate_left
                · simp only [Act.put, List.setIfInBounds_toArray, List.set_cons_zero, List.set_cons_succ, i64_w, i32_w]
                  rfl
                refine take_ (i := 3) (N := some 21) (v := ?_) (a' := ?_) #[true, true, true, true, true, true, true, false, false, false] rfl rfl (take_ofW HT_.out HW_.out (by kernel_rfl)) (fun _ _ _ h => h) (Or.inl ⟨by rfl, ?_⟩) hHeld ?_ ?_
                rotate_left
                · rintro w' ⟨s0, s1, s2, s3, s4, s5, s6, s7, s8, s9, s10, s11⟩
                  go_simp
                  with_reducible rfl
                rotate_left
                · simp only [Act.put, List.setIfInBounds_toArray, List.set_cons_zero, List.set_cons_succ, i64_w, i32_w]
                  rfl
                refine take_ (i := 7) (N := some 25) (v := ?_) (a' := ?_) #[true, true, true, true, true, true, true, true, false, false] rfl rfl (take_ofW HT_.out HW_.out (by kernel_rfl)) (fun _ _ _ h => h) (Or.inl ⟨by rfl, ?_⟩) hHeld ?_ ?_
                rotate_left
                · rintro w' ⟨s0, s1, s2, s3, s4, s5, s6, s7, s8, s9, s10, s11⟩
                  go_simp
                  with_reducible rfl
                rotate_left
                · simp only [Act.put, List.setIfInBounds_toArray, List.set_cons_zero, List.set_cons_succ, i64_w, i32_w]
                  rfl
                refine one_ (i := 8) (N := some 26) #[true, true, true, true, true, true, true, true, true, false] rfl rfl (one_of HT_.out (by kernel_rfl)) (by decide) (fun K hK => ?_)
                refine goes_ Tryd.func52 (by kernel_rfl) rfl #[.agg #[.int .u8 ((rd_T63 l0 x5_1).f0), .string ((rd_T63 l0 x5_1).f1), .int .i64 ((rd_T63 l0 x5_1).f2), .string ((rd_T63 l0 x5_1).f3), .int .u8 ((rd_T63 l0 x5_1).f4), .slice A101_5 ((rd_T63 l0 x5_1).f5).length c101_5], .agg #[.int .u8 ((rd_T63 l1 x5_1).f0), .string ((rd_T63 l1 x5_1).f1), .int .i64 ((rd_T63 l1 x5_1).f2), .string ((rd_T63 l1 x5_1).f3), .int .u8 ((rd_T63 l1 x5_1).f4), .slice A102_5 ((rd_T63 l1 x5_1).f5).length c102_5]] (by rfl) rfl rfl (by (try simp only [List.map_toArray, List.map_cons, List.map_nil]); first | done | rfl | (simp only [List.length_drop, List.length_take]; rfl)) ?_
                with_reducible refine (vesperlaw13_same.calls ((rd_T63 l0 x5_1).f0) ((rd_T63 l0 x5_1).f1) ((rd_T63 l0 x5_1).f2) ((rd_T63 l0 x5_1).f3) ((rd_T63 l0 x5_1).f4) _ _ ((rd_T63 l0 x5_1).f5) ((rd_T63 l1 x5_1).f0) ((rd_T63 l1 x5_1).f1) ((rd_T63 l1 x5_1).f2) ((rd_T63 l1 x5_1).f3) ((rd_T63 l1 x5_1).f4) _ _ ((rd_T63 l1 x5_1).f5) false _ ?side1 ?side2 ?side3 ?side4 A7.out).mono ?_
                (case side1 => repeat (first | exact (Kd.C_below HR101_5.out HB.out) | (with_reducible refine Kd.C_alloc ?_ _) | (with_reducible refine Kd.C_drewN ?_ _) | (with_reducible refine Kd.C_drew ?_)))
                (case side2 => exact HC101_5.out)
                (case side3 => repeat (first | exact (Kd.C_below HR102_5.out HB.out) | (with_reducible refine Kd.C_alloc ?_ _) | (with_reducible refine Kd.C_drewN ?_ _) | (with_reducible refine Kd.C_drew ?_)))
                (case side4 => exact HC102_5.out)
                rintro e w12 ⟨rfl, hb⟩
                refine ⟨_, rfl, ?_⟩
                have n0_ := Aside0.mk (below_step (by repeat (first | (with_reducible first | exact HB.out | apply below_alloc | apply pw_below_drewN | apply below_drew1) | exact HB.out)) hb)
                clear HB
                have HB := n0_
                clear n0_
                (try clear hb)
                (try clear hb2)
                (try clear hk)
                (try clear hi)
                refine hK.out _ _ ⟨((HB.out.cell (World.block_lt_of_cell? w _ hw101_0)).trans hw101_0), ((HB.out.cell (World.block_lt_of_cell? w _ hw101_1)).trans hw101_1), ((HB.out.cell (World.block_lt_of_cell? w _ hw101_2)).trans hw101_2), ((HB.out.cell (World.block_lt_of_cell? w _ hw101_3)).trans hw101_3), ((HB.out.cell (World.block_lt_of_cell? w _ hw101_4)).trans hw101_4), ((HB.out.cell (World.block_lt_of_cell? w _ hw101_5)).trans hw101_5), ((HB.out.cell (World.block_lt_of_cell? w _ hw102_0)).trans hw102_0), ((HB.out.cell (World.block_lt_of_cell? w _ hw102_1)).trans hw102_1), ((HB.out.cell (World.block_lt_of_cell? w _ hw102_2)).trans hw102_2), ((HB.out.cell (World.block_lt_of_cell? w _ hw102_3)).trans hw102_3), ((HB.out.cell (World.block_lt_of_cell? w _ hw102_4)).trans hw102_4), ((HB.out.cell (World.block_lt_of_cell? w _ hw102_5)).trans hw102_5)⟩ (fun hHeld => ?_)
                clear hK K
                refine norm_ (a' := ?_) ?_ ?_
                rotate_left
                · show Act.put _ (some 26) _ = _
                  simp only [Act.put, List.setIfInBounds_toArray, List.set_cons_zero, List.set_cons_succ, i64_w, i32_w]
                  rfl
                refine pure_ (i := 9) (N := some 6) (v := ?_) (a' := ?_) #[true, true, true, true, true, true, true, true, true, true] rfl rfl (any_of HT_.out (by kernel_rfl)) (fun _ _ _ h => h) (Or.inl ⟨by rfl, ?_⟩) ?_ ?_
                rotate_left
                · intro w'
                  go_simp
                  with_reducible rfl
                rotate_left
                · simp only [Act.put, List.setIfInBounds_toArray, List.set_cons_zero, List.set_cons_succ, i64_w, i32_w]
                  rfl
                refine done_ (done_of HT_.out (by kernel_rfl)) ?_
                try go_wp2
                go_ret
                exact ⟨by first | rfl | (simp [errW_none, errW_some] <;> rfl) | (simp [*, errW_none, errW_some] <;> rfl), by repeat (first | (with_reducible first | exact HB.out | apply below_alloc | apply pw_below_drewN | apply below_drew1) | exact HB.out)⟩
            · rw [if_neg c6] at H
              exact absurd H (by simp)
          · rw [if_neg c5] at H
            exact absurd H (by simp)
        · rw [if_neg c4] at H
          have c4b0 : decide (x5_1 < (l0.length : Int)) = false := decide_eq_false c4
          clear c4
          obtain rfl := Option.some.inj H
          go_wp2
          go_ret
          exact ⟨by first | rfl | (simp [errW_none, errW_some] <;> rfl) | (simp [*, errW_none, errW_some] <;> rfl), by repeat (first | (with_reducible first | exact HB.out | apply below_alloc | apply pw_below_drewN | apply below_drew1) | exact HB.out)⟩
  · rw [if_neg c3] at H
    have c3b0 : ((l0.length : Int) == (l1.length : Int)) = false := beq_eq_false_iff_ne.mpr c3
    have c3b1 : ((l0.length : Int) != (l1.length : Int)) = true := bne_iff_ne.mpr c3
    have c3b2 : (l0.length == l1.length) = false := by first | simpa using c3 | (simp at c3 ⊢; omega)
    obtain rfl := Option.some.inj H
    go_enter Tryd.func30, Tryd.ntmps30
    go_wp2
    go_ret
    exact ⟨by first | rfl | (simp [errW_none, errW_some] <;> rfl) | (simp [*, errW_none, errW_some] <;> rfl), by repeat (first | (with_reducible first | exact HB.out | apply below_alloc | apply pw_below_drewN | apply below_drew1) | exact HB.out)⟩
end Go.Proofs.YthnafgffanlnfaaDoor.PSrc
namespace Go.Proofs.YthnafgffanlnfaaDoor.PSrc
open Go.RowKit Go.Proofs.YthnafgffanlnfaaDoorW.PrintWords Go.Proofs.YthnafgffanlnfaaDoorW.PrintLast Go.Proofs.YthnafgffanlnfaaDoorW.PrintMore
attribute [local go_sem] max2_int min2_int max_two min_two max_three min_three max_four min_four   -- for this text's walks alone
set_option linter.unusedVariables false
set_option linter.unusedSimpArgs false
def vesperlaw13_tale.f  : Option ((List (S63)) × ByteArray) := some ((([(⟨4, (⟨#[]⟩ : ByteArray), 512, (⟨#[]⟩ : ByteArray), 0, ([] : List Int)⟩ : S63), (⟨1, (⟨#[102, 97, 100, 101]⟩ : ByteArray), 0, (⟨#[]⟩ : ByteArray), 0, ([] : List Int)⟩ : S63), (⟨2, (⟨#[76, 68, 73]⟩ : ByteArray), 0, (⟨#[102, 97, 100, 101]⟩ : ByteArray), 2, ([] : List Int)⟩ : S63), (⟨2, (⟨#[66, 82]⟩ : ByteArray), 171, (⟨#[]⟩ : ByteArray), 0, ([] : List Int)⟩ : S63), (⟨2, (⟨#[76, 66, 82]⟩ : ByteArray), 0, (⟨#[102, 97, 100, 101]⟩ : ByteArray), 1, ([] : List Int)⟩ : S63), (⟨3, (⟨#[]⟩ : ByteArray), 0, (⟨#[]⟩ : ByteArray), 0, (([1, 254] : List Int))⟩ : S63), (⟨5, (⟨#[]⟩ : ByteArray), 0, (⟨#[102, 97, 100, 101]⟩ : ByteArray), 0, ([] : List Int)⟩ : S63)] : List (S63))), (⟨#[32, 97, 116, 32, 48, 50, 48, 48, 10, 102, 97, 100, 101, 58, 10, 32, 76, 68, 73, 32, 104, 105, 103, 104, 32, 102, 97, 100, 101, 10, 32, 66, 82, 32, 97, 98, 10, 32, 76, 66, 82, 32, 116, 111, 32, 102, 97, 100, 101, 10, 32, 100, 97, 116, 97, 32, 48, 49, 32, 102, 101, 10, 32, 97, 100, 100, 114, 101, 115, 115, 32, 102, 97, 100, 101, 10]⟩ : ByteArray))
set_option maxHeartbeats 8000000 in
set_option maxRecDepth 100000 in
theorem vesperlaw13_tale.calls  (r1 : List (S63)) (r2 : ByteArray) (w : World) (h : vesperlaw13_tale.f  = some (r1, r2)) :
    Calls Tryd.prog 49 #[] w fun e w' => ∃ v0_ : Value, e = .returned (.tuple #[v0_, .string r2]) ∧ Kd.N k63 63 w' w.heap.size (fun k_ => (w.heap.size ≤ k_)) v0_ r1 ∧ Below w.heap.size w w' := by
  have hu63 := Tryd.underlying63
  have HB := Aside0.mk (Below.refl w.heap.size w)
  have H : (some ((([(⟨4, (⟨#[]⟩ : ByteArray), 512, (⟨#[]⟩ : ByteArray), 0, ([] : List Int)⟩ : S63), (⟨1, (⟨#[102, 97, 100, 101]⟩ : ByteArray), 0, (⟨#[]⟩ : ByteArray), 0, ([] : List Int)⟩ : S63), (⟨2, (⟨#[76, 68, 73]⟩ : ByteArray), 0, (⟨#[102, 97, 100, 101]⟩ : ByteArray), 2, ([] : List Int)⟩ : S63), (⟨2, (⟨#[66, 82]⟩ : ByteArray), 171, (⟨#[]⟩ : ByteArray), 0, ([] : List Int)⟩ : S63), (⟨2, (⟨#[76, 66, 82]⟩ : ByteArray), 0, (⟨#[102, 97, 100, 101]⟩ : ByteArray), 1, ([] : List Int)⟩ : S63), (⟨3, (⟨#[]⟩ : ByteArray), 0, (⟨#[]⟩ : ByteArray), 0, (([1, 254] : List Int))⟩ : S63), (⟨5, (⟨#[]⟩ : ByteArray), 0, (⟨#[102, 97, 100, 101]⟩ : ByteArray), 0, ([] : List Int)⟩ : S63)] : List (S63))), (⟨#[32, 97, 116, 32, 48, 50, 48, 48, 10, 102, 97, 100, 101, 58, 10, 32, 76, 68, 73, 32, 104, 105, 103, 104, 32, 102, 97, 100, 101, 10, 32, 66, 82, 32, 97, 98, 10, 32, 76, 66, 82, 32, 116, 111, 32, 102, 97, 100, 101, 10, 32, 100, 97, 116, 97, 32, 48, 49, 32, 102, 101, 10, 32, 97, 100, 100, 114, 101, 115, 115, 32, 102, 97, 100, 101, 10]⟩ : ByteArray))) = some (r1, r2) := h
  clear h
  obtain ⟨y101, hy101⟩ : ∃ y_ : List Int, y_ = (([1, 254] : List Int)) := ⟨_, rfl⟩
  replace H : (some ((([(⟨4, (⟨#[]⟩ : ByteArray), 512, (⟨#[]⟩ : ByteArray), 0, ([] : List Int)⟩ : S63), (⟨1, (⟨#[102, 97, 100, 101]⟩ : ByteArray), 0, (⟨#[]⟩ : ByteArray), 0, ([] : List Int)⟩ : S63), (⟨2, (⟨#[76, 68, 73]⟩ : ByteArray), 0, (⟨#[102, 97, 100, 101]⟩ : ByteArray), 2, ([] : List Int)⟩ : S63), (⟨2, (⟨#[66, 82]⟩ : ByteArray), 171, (⟨#[]⟩ : ByteArray), 0, ([] : List Int)⟩ : S63), (⟨2, (⟨#[76, 66, 82]⟩ : ByteArray), 0, (⟨#[102, 97, 100, 101]⟩ : ByteArray), 1, ([] : List Int)⟩ : S63), (⟨3, (⟨#[]⟩ : ByteArray), 0, (⟨#[]⟩ : ByteArray), 0, y101⟩ : S63), (⟨5, (⟨#[]⟩ : ByteArray), 0, (⟨#[102, 97, 100, 101]⟩ : ByteArray), 0, ([] : List Int)⟩ : S63)] : List (S63))), (⟨#[32, 97, 116, 32, 48, 50, 48, 48, 10, 102, 97, 100, 101, 58, 10, 32, 76, 68, 73, 32, 104, 105, 103, 104, 32, 102, 97, 100, 101, 10, 32, 66, 82, 32, 97, 98, 10, 32, 76, 66, 82, 32, 116, 111, 32, 102, 97, 100, 101, 10, 32, 100, 97, 116, 97, 32, 48, 49, 32, 102, 101, 10, 32, 97, 100, 100, 114, 101, 115, 115, 32, 102, 97, 100, 101, 10]⟩ : ByteArray))) = some (r1, r2) := by first | (rw [hy101]; with_reducible exact H) | (have H2_ := (Option.bind_some _ _).symm.trans H; rw [hy101]; with_reducible exact H2_) | (have H2_ := (Option.bind_some _ _).symm.trans H; with_reducible exact H2_) | with_reducible exact H | (rw [hy101]; exact H) | exact H
  have Ny101 := Aside0.mk hy101
  clear hy101
  obtain ⟨y104, hy104⟩ : ∃ y_ : List (S63), y_ = (([(⟨4, (⟨#[]⟩ : ByteArray), 512, (⟨#[]⟩ : ByteArray), 0, ([] : List Int)⟩ : S63), (⟨1, (⟨#[102, 97, 100, 101]⟩ : ByteArray), 0, (⟨#[]⟩ : ByteArray), 0, ([] : List Int)⟩ : S63), (⟨2, (⟨#[76, 68, 73]⟩ : ByteArray), 0, (⟨#[102, 97, 100, 101]⟩ : ByteArray), 2, ([] : List Int)⟩ : S63), (⟨2, (⟨#[66, 82]⟩ : ByteArray), 171, (⟨#[]⟩ : ByteArray), 0, ([] : List Int)⟩ : S63), (⟨2, (⟨#[76, 66, 82]⟩ : ByteArray), 0, (⟨#[102, 97, 100, 101]⟩ : ByteArray), 1, ([] : List Int)⟩ : S63), (⟨3, (⟨#[]⟩ : ByteArray), 0, (⟨#[]⟩ : ByteArray), 0, y101⟩ : S63), (⟨5, (⟨#[]⟩ : ByteArray), 0, (⟨#[102, 97, 100, 101]⟩ : ByteArray), 0, ([] : List Int)⟩ : S63)] : List (S63))) := ⟨_, rfl⟩
  replace H : (some (y104, (⟨#[32, 97, 116, 32, 48, 50, 48, 48, 10, 102, 97, 100, 101, 58, 10, 32, 76, 68, 73, 32, 104, 105, 103, 104, 32, 102, 97, 100, 101, 10, 32, 66, 82, 32, 97, 98, 10, 32, 76, 66, 82, 32, 116, 111, 32, 102, 97, 100, 101, 10, 32, 100, 97, 116, 97, 32, 48, 49, 32, 102, 101, 10, 32, 97, 100, 100, 114, 101, 115, 115, 32, 102, 97, 100, 101, 10]⟩ : ByteArray))) = some (r1, r2) := by first | (rw [hy104]; with_reducible exact H) | (have H2_ := (Option.bind_some _ _).symm.trans H; rw [hy104]; with_reducible exact H2_) | (have H2_ := (Option.bind_some _ _).symm.trans H; with_reducible exact H2_) | with_reducible exact H | (rw [hy104]; exact H) | exact H
  have Ny104 := Aside0.mk hy104
  clear hy104
  simp only [Option.some.injEq, Prod.mk.injEq] at H
  obtain ⟨rfl, rfl⟩ := H
  go_enter Tryd.func49, Tryd.ntmps49
  go_wp2_with (first | ((with_reducible refine gate_dst (N := 8) rfl ?_); refine Kd.R_lit (Kd.int .u8) _ 5 ?hg (N := 8) ?hd (xs := ([1, 254] : List Int)) (inner := [.int .u8 1, .int .u8 254]) (ok := fun _ => True) (okp := fun _ => True) ?hr ?hp (fun _ hk => hk) trivial (Below.refl _ _) (Nat.le_refl _) (by simp) ?_; (case hd => rfl); (case hg => rfl); (case hr => first | (go_simp; done) | (go_simp; rfl)); (case hp => exact (Reps.one (show Kd.M (Kd.int .u8) _ _ _ 1 [.int .u8 1] from rfl) (Reps.one (show Kd.M (Kd.int .u8) _ _ _ 254 [.int .u8 254] from rfl) (Reps.none _ _)))); intro v102 w1 ho2 hb hg_ hnew_; clear hg_ hnew_; (first | rw [← Ny101.out] at ho2 | (simp only [Int.reduceToNat] at ho2; rw [← Ny101.out] at ho2)); have n0_ := Aside0.mk (Kd.R_lower (Kd.R_newM (M := fun k_ => (w.heap.size ≤ k_)) ho2 (below_size (by repeat (first | (with_reducible first | exact HB.out | apply below_alloc | apply pw_below_drewN | apply below_drew1) | exact HB.out))) (fun k_ h_ => h_)) (below_size (by repeat (first | (with_reducible first | exact HB.out | apply below_alloc | apply pw_below_drewN | apply below_drew1) | exact HB.out)))); have n1_ := Aside0.mk (below_step (by repeat (first | (with_reducible first | exact HB.out | apply below_alloc | apply pw_below_drewN | apply below_drew1) | exact HB.out)) hb); clear HB; have HO103 := n0_; have HB := n1_; clear n0_ n1_; clear hb ho2; obtain ⟨Ao3, co3, eo3⟩ := Kd.R_slice HO103.out; subst eo3) | ((with_reducible refine gate_dst (N := 11) rfl ?_); refine Kd.N_lit k63 _ 63 ?hg (N' := 11) ?hd (xs := ([(⟨4, (⟨#[]⟩ : ByteArray), 512, (⟨#[]⟩ : ByteArray), 0, ([] : List Int)⟩ : S63), (⟨1, (⟨#[102, 97, 100, 101]⟩ : ByteArray), 0, (⟨#[]⟩ : ByteArray), 0, ([] : List Int)⟩ : S63), (⟨2, (⟨#[76, 68, 73]⟩ : ByteArray), 0, (⟨#[102, 97, 100, 101]⟩ : ByteArray), 2, ([] : List Int)⟩ : S63), (⟨2, (⟨#[66, 82]⟩ : ByteArray), 171, (⟨#[]⟩ : ByteArray), 0, ([] : List Int)⟩ : S63), (⟨2, (⟨#[76, 66, 82]⟩ : ByteArray), 0, (⟨#[102, 97, 100, 101]⟩ : ByteArray), 1, ([] : List Int)⟩ : S63), (⟨3, (⟨#[]⟩ : ByteArray), 0, (⟨#[]⟩ : ByteArray), 0, y101⟩ : S63), (⟨5, (⟨#[]⟩ : ByteArray), 0, (⟨#[102, 97, 100, 101]⟩ : ByteArray), 0, ([] : List Int)⟩ : S63)] : List (S63))) (inner := [.int .u8 4, .string (⟨#[]⟩ : ByteArray), .int .i64 512, .string (⟨#[]⟩ : ByteArray), .int .u8 0, .slice none 0 0, .int .u8 1, .string (⟨#[102, 97, 100, 101]⟩ : ByteArray), .int .i64 0, .string (⟨#[]⟩ : ByteArray), .int .u8 0, .slice none 0 0, .int .u8 2, .string (⟨#[76, 68, 73]⟩ : ByteArray), .int .i64 0, .string (⟨#[102, 97, 100, 101]⟩ : ByteArray), .int .u8 2, .slice none 0 0, .int .u8 2, .string (⟨#[66, 82]⟩ : ByteArray), .int .i64 171, .string (⟨#[]⟩ : ByteArray), .int .u8 0, .slice none 0 0, .int .u8 2, .string (⟨#[76, 66, 82]⟩ : ByteArray), .int .i64 0, .string (⟨#[102, 97, 100, 101]⟩ : ByteArray), .int .u8 1, .slice none 0 0, .int .u8 3, .string (⟨#[]⟩ : ByteArray), .int .i64 0, .string (⟨#[]⟩ : ByteArray), .int .u8 0, .slice Ao3 y101.length co3, .int .u8 5, .string (⟨#[]⟩ : ByteArray), .int .i64 0, .string (⟨#[102, 97, 100, 101]⟩ : ByteArray), .int .u8 0, .slice none 0 0]) (ok := (fun k_ => (w.heap.size ≤ k_))) (okp := (fun k_ => (w.heap.size ≤ k_))) ?hr ?hp (fun _ hk => hk) ((show ∀ k_, w1.heap.size ≤ k_ → (fun k_ => (w.heap.size ≤ k_)) k_ from fun k_ hk => (Nat.le_trans (below_size (by repeat (first | (with_reducible first | exact HB.out | apply below_alloc | apply pw_below_drewN | apply below_drew1) | exact HB.out))) hk)) _ (Nat.le_refl _)) (Below.refl _ _) (Nat.le_refl _) (by simp) ?_; (case hd => rfl); (case hg => rfl); (case hr => first | (go_simp; done) | (go_simp; rfl)); (case hp => exact (Reps.c6 (show Kd.FK k63 _ _ (⟨4, (⟨#[]⟩ : ByteArray), 512, (⟨#[]⟩ : ByteArray), 0, ([] : List Int)⟩ : S63) [.int .u8 4, .string (⟨#[]⟩ : ByteArray), .int .i64 512, .string (⟨#[]⟩ : ByteArray), .int .u8 0, .slice none 0 0] from (k63_mkF _ _ (⟨4, (⟨#[]⟩ : ByteArray), 512, (⟨#[]⟩ : ByteArray), 0, ([] : List Int)⟩ : S63) (Nat.le_refl _) (Kd.F_nil _ _ _))) (Reps.c6 (show Kd.FK k63 _ _ (⟨1, (⟨#[102, 97, 100, 101]⟩ : ByteArray), 0, (⟨#[]⟩ : ByteArray), 0, ([] : List Int)⟩ : S63) [.int .u8 1, .string (⟨#[102, 97, 100, 101]⟩ : ByteArray), .int .i64 0, .string (⟨#[]⟩ : ByteArray), .int .u8 0, .slice none 0 0] from (k63_mkF _ _ (⟨1, (⟨#[102, 97, 100, 101]⟩ : ByteArray), 0, (⟨#[]⟩ : ByteArray), 0, ([] : List Int)⟩ : S63) (Nat.le_refl _) (Kd.F_nil _ _ _))) (Reps.c6 (show Kd.FK k63 _ _ (⟨2, (⟨#[76, 68, 73]⟩ : ByteArray), 0, (⟨#[102, 97, 100, 101]⟩ : ByteArray), 2, ([] : List Int)⟩ : S63) [.int .u8 2, .string (⟨#[76, 68, 73]⟩ : ByteArray), .int .i64 0, .string (⟨#[102, 97, 100, 101]⟩ : ByteArray), .int .u8 2, .slice none 0 0] from (k63_mkF _ _ (⟨2, (⟨#[76, 68, 73]⟩ : ByteArray), 0, (⟨#[102, 97, 100, 101]⟩ : ByteArray), 2, ([] : List Int)⟩ : S63) (Nat.le_refl _) (Kd.F_nil _ _ _))) (Reps.c6 (show Kd.FK k63 _ _ (⟨2, (⟨#[66, 82]⟩ : ByteArray), 171, (⟨#[]⟩ : ByteArray), 0, ([] : List Int)⟩ : S63) [.int .u8 2, .string (⟨#[66, 82]⟩ : ByteArray), .int .i64 171, .string (⟨#[]⟩ : ByteArray), .int .u8 0, .slice none 0 0] from (k63_mkF _ _ (⟨2, (⟨#[66, 82]⟩ : ByteArray), 171, (⟨#[]⟩ : ByteArray), 0, ([] : List Int)⟩ : S63) (Nat.le_refl _) (Kd.F_nil _ _ _))) (Reps.c6 (show Kd.FK k63 _ _ (⟨2, (⟨#[76, 66, 82]⟩ : ByteArray), 0, (⟨#[102, 97, 100, 101]⟩ : ByteArray), 1, ([] : List Int)⟩ : S63) [.int .u8 2, .string (⟨#[76, 66, 82]⟩ : ByteArray), .int .i64 0, .string (⟨#[102, 97, 100, 101]⟩ : ByteArray), .int .u8 1, .slice none 0 0] from (k63_mkF _ _ (⟨2, (⟨#[76, 66, 82]⟩ : ByteArray), 0, (⟨#[102, 97, 100, 101]⟩ : ByteArray), 1, ([] : List Int)⟩ : S63) (Nat.le_refl _) (Kd.F_nil _ _ _))) (Reps.c6 (show Kd.FK k63 _ _ (⟨3, (⟨#[]⟩ : ByteArray), 0, (⟨#[]⟩ : ByteArray), 0, y101⟩ : S63) [.int .u8 3, .string (⟨#[]⟩ : ByteArray), .int .i64 0, .string (⟨#[]⟩ : ByteArray), .int .u8 0, .slice Ao3 y101.length co3] from (k63_mkF _ _ (⟨3, (⟨#[]⟩ : ByteArray), 0, (⟨#[]⟩ : ByteArray), 0, y101⟩ : S63) (Kd.R_reads' (Kd.R_mono (ok' := (fun k_ => (w.heap.size ≤ k_))) (HO103.out) (fun k_ hk => hk.1))).2.1 (Kd.R_F (Kd.R_mono (ok' := (fun k_ => (w.heap.size ≤ k_))) (HO103.out) (fun k_ hk => hk.1))))) (Reps.c6 (show Kd.FK k63 _ _ (⟨5, (⟨#[]⟩ : ByteArray), 0, (⟨#[102, 97, 100, 101]⟩ : ByteArray), 0, ([] : List Int)⟩ : S63) [.int .u8 5, .string (⟨#[]⟩ : ByteArray), .int .i64 0, .string (⟨#[102, 97, 100, 101]⟩ : ByteArray), .int .u8 0, .slice none 0 0] from (k63_mkF _ _ (⟨5, (⟨#[]⟩ : ByteArray), 0, (⟨#[102, 97, 100, 101]⟩ : ByteArray), 0, ([] : List Int)⟩ : S63) (Nat.le_refl _) (Kd.F_nil _ _ _))) (Reps.none _ _))))))))); intro v105 w4 ho5 hb hg_ hnew_; clear hg_ hnew_; (first | rw [← Ny104.out] at ho5 | (simp only [Int.reduceToNat] at ho5; rw [← Ny104.out] at ho5)); have n0_ := Aside0.mk (Kd.N_lower ho5 (below_size (by repeat (first | (with_reducible first | exact HB.out | apply below_alloc | apply pw_below_drewN | apply below_drew1) | exact HB.out)))); have n1_ := Aside0.mk (below_step (by repeat (first | (with_reducible first | exact HB.out | apply below_alloc | apply pw_below_drewN | apply below_drew1) | exact HB.out)) hb); clear HB; clear HO103; have HO106 := n0_; have HB := n1_; clear n0_ n1_; clear hb ho5))
  go_ret2
  exact ⟨_, by first | rfl | (simp [errW_none, errW_some] <;> rfl) | (simp [*, errW_none, errW_some] <;> rfl), by (with_reducible repeat (first | apply Kd.N_alloc | apply Kd.N_drewN | apply Kd.N_drew)); exact HO106.out, by repeat (first | (with_reducible first | exact HB.out | apply below_alloc | apply pw_below_drewN | apply below_drew1) | exact HB.out)⟩
end Go.Proofs.YthnafgffanlnfaaDoor.PSrc
