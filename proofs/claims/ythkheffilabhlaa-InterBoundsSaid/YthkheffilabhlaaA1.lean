/-
  For InterBounds: the table as data in memory.
-/
import Derived.Test.YthkheffilabhlaaA0
namespace Go.Proofs.Ythkheffilabhlaa
open Go.RowKit Go.Proofs.YthkheffilabhlaaW.PrintWords Go.Proofs.YthkheffilabhlaaW.PrintLast Go.Proofs.YthkheffilabhlaaW.PrintMore

/-! ### The rows as data in memory -/
def kFn : Kd Nat := Kd.scalar (fun g : Nat => Value.func (.func g) #[] #[]) (fun _ => rfl)
def kF : Kd FD := Kd.iso (Kd.pair (Kd.int .i64) (Kd.pair (Kd.int .i64) (Kd.pair Kd.string (Kd.pair kFn kFn)))) (fun x : FD => (x.shift, x.digits, x.ahead, x.at_, x.put_))
def kR : Kd RD := Kd.iso (Kd.pair (Kd.int .u8) (Kd.pair (Kd.int .u16) (Kd.pair (Kd.int .u16) (Kd.pair Kd.string (Kd.slice 48 kF))))) (fun x : RD => (x.op, x.mask, x.word, x.name, x.fields))
theorem kF_open {w : World} {x : FD} {cs : List Value} (h : kF.K w x cs) : cs = fcells x := by
  obtain ⟨_, _, rfl, rfl, ⟨_, _, rfl, rfl, ⟨_, _, rfl, rfl, ⟨_, _, rfl, rfl, rfl⟩⟩⟩⟩ := h
  exact rfl
theorem kF_mk (w : World) (base : Nat) (ok : Nat → Prop) (x : FD) : kF.M w base ok x (fcells x) := ⟨[_], _, rfl, rfl, ⟨[_], _, rfl, rfl, ⟨[_], _, rfl, rfl, ⟨[_], [_], rfl, rfl, rfl⟩⟩⟩⟩
theorem kR_open {w : World} {base : Nat} {ok : Nat → Prop} {x : RD} {cs : List Value} (h : kR.M w base ok x cs) : ∃ v, cs = [.int .u8 x.op, .int .u16 x.mask, .int .u16 x.word, .string x.name, v] ∧ kF.R 48 w base ok v x.fields := by
  obtain ⟨_, _, rfl, rfl, ⟨_, _, rfl, rfl, ⟨_, _, rfl, rfl, ⟨_, _, rfl, rfl, ⟨v, rfl, hc⟩⟩⟩⟩⟩ := h
  exact ⟨v, rfl, hc⟩
theorem kR_mk {w : World} {base : Nat} {ok : Nat → Prop} (x : RD) {v : Value} (h : kF.R 48 w base ok v x.fields) : kR.M w base ok x [.int .u8 x.op, .int .u16 x.mask, .int .u16 x.word, .string x.name, v] :=
  ⟨[_], _, rfl, rfl, ⟨[_], _, rfl, rfl, ⟨[_], _, rfl, rfl, ⟨[_], [_], rfl, rfl, ⟨v, rfl, h⟩⟩⟩⟩⟩
theorem flat_len {α : Type} (f : α → List Value) (s : Nat) : ∀ (l : List α), (∀ x ∈ l, (f x).length = s) → (l.flatMap f).length = l.length * s
  | [], _ => by simp
  | x :: l, hs => by
    rw [List.flatMap_cons, List.length_append, hs x (by simp), flat_len f s l (fun y hy => hs y (by simp [hy])), List.length_cons, Nat.succ_mul, Nat.add_comm]
theorem flat_get {α : Type} (f : α → List Value) (s : Nat) : ∀ (l : List α), (∀ x ∈ l, (f x).length = s) → ∀ (j : Nat) (p : α), l[j]? = some p → ((l.flatMap f).drop (j * s)).take s = f p
  | [], _, _, _, h => by simp at h
  | x :: l, hs, 0, p, h => by
    obtain rfl : x = p := by simpa using h
    rw [Nat.zero_mul, List.drop_zero, List.flatMap_cons, List.take_append_of_le_length (by rw [hs x (by simp)]; exact Nat.le_refl _), ← hs x (by simp), List.take_length]
  | x :: l, hs, j + 1, p, h => by
    have hx := hs x (by simp)
    rw [List.flatMap_cons, Nat.succ_mul, Nat.add_comm, List.drop_append, List.drop_of_length_le (by omega), List.nil_append, hx, Nat.add_sub_cancel_left]
    exact flat_get f s l (fun y hy => hs y (by simp [hy])) j p (by simpa using h)
theorem R_block {α : Type} (d : Kd α) (f : α → List Value) {w : World} {b t base : Nat} {ok : Nat → Prop} (l : List α) (hw : w.heap[b]? = some (.cells (l.flatMap f).toArray t (0, 0))) (hb : base ≤ b) (hok : ok b) (hlen : ∀ x ∈ l, (f x).length = d.sz)
    (hM : ∀ x ∈ l, d.M w base (fun k => ok k ∧ k ≠ b) x (f x)) (hm : l.length ≤ maxLen) : d.R t w base ok (.slice (some ⟨b, 0, none⟩) l.length l.length) l := by
  refine ⟨fun k hk => ?_, l.flatMap f, ⟨flat_len f d.sz l hlen, .inr ⟨b, l.length, _, rfl, hb, hw, Nat.le_refl _, hm, ?_, ?_⟩⟩, flat_len f d.sz l hlen, fun j p hj => ?_⟩
  · have : b = k := by simpa [Value.ownBlock] using hk
    rw [← this]; exact hok
  · rw [List.size_toArray, flat_len f d.sz l hlen]
  · rw [← flat_len f d.sz l hlen]; exact List.take_length
  · rw [flat_get f d.sz l hlen j p hj]
    exact d.M_mono (fun k hk => ⟨hk.1, fun he => hk.2 (by have : k = b := by simpa [Value.ownBlock] using he
                                                          exact this)⟩) (hM p (List.mem_of_getElem? hj))
def offs : List Nat := [0, 0, 5, 6, 7, 8, 9, 10, 11, 12, 13, 14, 15, 16, 17, 18, 19, 20, 21, 22, 23, 24, 25, 26, 27, 28, 29, 30, 31, 32, 33]
def rowS (n : Nat) (r : RD) (k : Nat) : Value := match r.fields with | [] => .slice none 0 0 | _ :: _ => .slice (some ⟨n + k, 0, none⟩) r.fields.length r.fields.length
def rowV (n : Nat) (r : RD) (k : Nat) : List Value := [.int .u8 r.op, .int .u16 r.mask, .int .u16 r.word, .string r.name, rowS n r k]
theorem rowsV_eq (n : Nat) : ((rowsV n).flatMap fun v => v.cells.toList) = (rowsD.zip offs).flatMap fun x => rowV n x.1 x.2 := rfl
theorem rowsO_at (n : Nat) : ∀ x ∈ rowsD.zip offs, x.1.fields.length ≤ 3 ∧ x.2 < 34 ∧ (x.1.fields = [] ∨ (rowsO n)[x.2]? = some (.cells (x.1.fields.flatMap fcells).toArray 48 (0, 0))) := by
  intro x hx
  simp only [rowsD, offs, List.zip_cons_cons, List.zip_nil_right, List.mem_cons, List.not_mem_nil, or_false] at hx
  repeat (rcases hx with rfl | hx; · exact ⟨by decide, by decide, by first | exact .inl rfl | exact .inr rfl⟩)
/-- The pairs' kind: a row and its place. -/
def kP : Kd (RD × Nat) := Kd.iso kR (fun x => x.1)
theorem zip_fst : (rowsD.zip offs).map Prod.fst = rowsD := rfl
theorem R_map {α β : Type} {d : Kd α} {f : β → α} {e : Nat} {w : World} {base : Nat} {ok : Nat → Prop} {v : Value} {xs : List β} (h : (Kd.iso d f).R e w base ok v xs) : d.R e w base ok v (xs.map f) := by
  obtain ⟨h0, inner, ho, hr⟩ := h
  refine ⟨h0, inner, by rw [List.length_map]; exact ho, by rw [List.length_map]; exact hr.1, fun j p hj => ?_⟩
  rw [List.getElem?_map] at hj
  obtain ⟨q, hq, rfl⟩ := Option.map_eq_some_iff.1 hj
  exact hr.2 j q hq
theorem rows_R (w : World) : kR.R 44 (allocs w (rowsO w.heap.size)) w.heap.size (fun _ => True) (.slice (some ⟨w.heap.size + 34, 0, none⟩) 31 31) rowsD := by
  rw [← zip_fst]
  refine R_map (f := Prod.fst) ?_
  refine R_block kP (fun x => rowV w.heap.size x.1 x.2) (rowsD.zip offs) (b := w.heap.size + 34) ?_ (by omega) trivial (fun _ _ => rfl) (fun x hx => ?_) (by decide)
  · rw [← rowsV_eq]
    exact allocs_get _ w 34 _ rfl
  · obtain ⟨h3, hlt, h0⟩ := rowsO_at w.heap.size x hx
    refine kR_mk x.1 ?_
    unfold rowS
    rcases h0 with h0 | h0
    · rw [h0]; exact Kd.R_nil _ _ _ _ _
    · cases hf : x.1.fields with
      | nil => exact Kd.R_nil _ _ _ _ _
      | cons f0 fr =>
        rw [hf] at h0 h3
        exact R_block kF fcells (f0 :: fr) (allocs_get _ w _ _ h0) (by omega) ⟨trivial, by omega⟩ (fun _ _ => rfl) (fun y _ => kF_mk _ _ _ y) (by simp only [maxLen]; omega)
theorem rows_calls (w : World) : Calls Try.prog 11 #[] w fun e w' => ∃ g, e = .returned (.slice (some ⟨g, 0, none⟩) 31 31) ∧ kR.R 44 w' w.heap.size (fun _ => True) (.slice (some ⟨g, 0, none⟩) 31 31) rowsD ∧ Below w.heap.size w w' :=
  (rows_walk w).mono fun e w' ⟨he, hw⟩ => by
    subst hw
    exact ⟨_, he, rows_R w, allocs_below _ _⟩
def z44 : RD := ⟨0, 0, 0, ⟨#[]⟩, []⟩
def z48 : FD := ⟨0, 0, ⟨#[]⟩, 0, 0⟩
/-- Row k's cells; its fields are a row of one's own, elsewhere. -/
theorem at_R {w : World} {base g n cap : Nat} {ok : Nat → Prop} {xs : List RD} (h : kR.R 44 w base ok (.slice (some ⟨g, 0, none⟩) n cap) xs) (i : Nat) (h1 : i < n) : ∃ B c,
    w.cell? ⟨g, i * 5, none⟩ = some (.int .u8 (xs.getD i z44).op) ∧ w.cell? ⟨g, i * 5 + 1, none⟩ = some (.int .u16 (xs.getD i z44).mask) ∧ w.cell? ⟨g, i * 5 + 2, none⟩ = some (.int .u16 (xs.getD i z44).word) ∧ w.cell? ⟨g, i * 5 + 3, none⟩ = some (.string (xs.getD i z44).name) ∧
    w.cell? ⟨g, i * 5 + 4, none⟩ = some (.slice B (xs.getD i z44).fields.length c) ∧ kF.R 48 w base ok (.slice B (xs.getD i z44).fields.length c) (xs.getD i z44).fields := by
  obtain ⟨c, _, hM, hc, _⟩ := Kd.R_elem h z44 i (by omega) (by omega)
  simp only [Int.toNat_natCast] at hM hc
  have hc' : ∀ j u, c[j]? = some u → w.cell? ⟨g, i * 5 + j, none⟩ = some u := hc
  obtain ⟨v, rfl, hF⟩ := kR_open hM
  obtain ⟨B, cc, rfl⟩ := Kd.R_slice hF
  exact ⟨B, cc, hc' 0 _ rfl, hc' 1 _ rfl, hc' 2 _ rfl, hc' 3 _ rfl, hc' 4 _ rfl, Kd.R_mono hF (fun _ hk => hk.1)⟩
theorem at_F {w : World} {A : Option Addr} {n : Nat} {xs : List FD} (h : kF.C w A n xs) (i : Nat) (h1 : i < n) : ∃ ad, A = some ad ∧ w.cell? (ad.add (i * 5)) = some (.int .i64 (xs.getD i z48).shift) ∧ w.cell? ⟨(ad.add (i * 5)).block, (ad.add (i * 5)).off + 1, none⟩ = some (.int .i64 (xs.getD i z48).digits) ∧ w.cell? ⟨(ad.add (i * 5)).block, (ad.add (i * 5)).off + 2, none⟩ = some (.string (xs.getD i z48).ahead) ∧ w.cell? ⟨(ad.add (i * 5)).block, (ad.add (i * 5)).off + 3, none⟩ = some (.func (.func (xs.getD i z48).at_) #[] #[]) ∧ w.cell? ⟨(ad.add (i * 5)).block, (ad.add (i * 5)).off + 4, none⟩ = some (.func (.func (xs.getD i z48).put_) #[] #[]) := by
  obtain ⟨ad, c, e, _, hK, hc0⟩ := Kd.C_get h z48 i (by omega) (by omega)
  simp only [Int.toNat_natCast] at hK hc0
  have hc : ∀ j u, c[j]? = some u → w.cell? (ad.add (i * 5 + j)) = some u := hc0
  obtain rfl := kF_open hK
  exact ⟨ad, e, hc 0 _ rfl, by rw [← add_field _ _ 1 (by omega)]; exact hc 1 _ rfl, by rw [← add_field _ _ 2 (by omega)]; exact hc 2 _ rfl, by rw [← add_field _ _ 3 (by omega)]; exact hc 3 _ rfl, by rw [← add_field _ _ 4 (by omega)]; exact hc 4 _ rfl⟩
end Go.Proofs.Ythkheffilabhlaa
