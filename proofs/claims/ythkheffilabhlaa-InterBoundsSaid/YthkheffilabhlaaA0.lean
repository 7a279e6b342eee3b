/-
  For InterBounds: the program's table of orders (ops.rows): its walk.
-/
import Derived.Test.YthkheffilabhlaaPInterBoundsx
import Derived.WalkLawsBesides
import Derived.WalkSpells
import Derived.Outline
import Derived.Laws.EntriesVeiled
import Derived.Great.CaseRows
namespace Go.Proofs.Ythkheffilabhlaa
open Go.RowKit Go.Proofs.YthkheffilabhlaaW.PrintWords Go.Proofs.YthkheffilabhlaaW.PrintLast Go.Proofs.YthkheffilabhlaaW.PrintMore
open Go.Great (wpList_buildRows)

structure FD where
  shift : Int
  digits : Int
  ahead : ByteArray
  at_ : Nat
  put_ : Nat
structure RD where
  op : Int
  mask : Int
  word : Int
  name : ByteArray
  fields : List FD
def fX : FD := ⟨8, 1, ⟨#[118]⟩, 15, 16⟩
def fY : FD := ⟨4, 1, ⟨#[118]⟩, 17, 18⟩
def fN : FD := ⟨0, 1, ⟨#[]⟩, 19, 20⟩
def fB : FD := ⟨0, 2, ⟨#[]⟩, 21, 22⟩
def fA : FD := ⟨0, 3, ⟨#[]⟩, 23, 24⟩
def fcells (f : FD) : List Value := [.int .i64 f.shift, .int .i64 f.digits, .string f.ahead, .func (.func f.at_) #[] #[], .func (.func f.put_) #[] #[]]
def rowsD : List RD := [⟨2, 65535, 224, ⟨#[99, 108, 101, 97, 114]⟩, []⟩,
  ⟨3, 65535, 238, ⟨#[114, 101, 116, 117, 114, 110]⟩, []⟩,
  ⟨1, 61440, 0, ⟨#[109, 97, 99, 104, 105, 110, 101]⟩, [fA]⟩,
  ⟨4, 61440, 4096, ⟨#[106, 117, 109, 112]⟩, [fA]⟩,
  ⟨5, 61440, 8192, ⟨#[99, 97, 108, 108]⟩, [fA]⟩,
  ⟨6, 61440, 12288, ⟨#[115, 107, 105, 112, 45, 105, 115]⟩, [fX, fB]⟩,
  ⟨7, 61440, 16384, ⟨#[115, 107, 105, 112, 45, 110, 111, 116]⟩, [fX, fB]⟩,
  ⟨8, 61455, 20480, ⟨#[115, 107, 105, 112, 45, 115, 97, 109, 101]⟩, [fX, fY]⟩,
  ⟨9, 61440, 24576, ⟨#[115, 101, 116]⟩, [fX, fB]⟩,
  ⟨10, 61440, 28672, ⟨#[97, 100, 100]⟩, [fX, fB]⟩,
  ⟨11, 61455, 32768, ⟨#[109, 111, 118, 101]⟩, [fX, fY]⟩,
  ⟨12, 61455, 32769, ⟨#[111, 114]⟩, [fX, fY]⟩,
  ⟨13, 61455, 32770, ⟨#[97, 110, 100]⟩, [fX, fY]⟩,
  ⟨14, 61455, 32772, ⟨#[112, 108, 117, 115]⟩, [fX, fY]⟩,
  ⟨15, 61455, 32773, ⟨#[109, 105, 110, 117, 115]⟩, [fX, fY]⟩,
  ⟨16, 61455, 36864, ⟨#[115, 107, 105, 112, 45, 111, 116, 104, 101, 114]⟩, [fX, fY]⟩,
  ⟨17, 61440, 40960, ⟨#[112, 111, 105, 110, 116]⟩, [fA]⟩,
  ⟨18, 61440, 45056, ⟨#[106, 117, 109, 112, 45, 98, 121]⟩, [fA]⟩,
  ⟨19, 61440, 49152, ⟨#[114, 97, 110, 100, 111, 109]⟩, [fX, fB]⟩,
  ⟨20, 61440, 53248, ⟨#[100, 114, 97, 119]⟩, [fX, fY, fN]⟩,
  ⟨21, 61695, 57502, ⟨#[115, 107, 105, 112, 45, 100, 111, 119, 110]⟩, [fX]⟩,
  ⟨22, 61695, 57505, ⟨#[115, 107, 105, 112, 45, 117, 112]⟩, [fX]⟩,
  ⟨23, 61695, 61447, ⟨#[116, 105, 109, 101, 114]⟩, [fX]⟩,
  ⟨24, 61695, 61450, ⟨#[107, 101, 121]⟩, [fX]⟩,
  ⟨25, 61695, 61461, ⟨#[100, 101, 108, 97, 121]⟩, [fX]⟩,
  ⟨26, 61695, 61464, ⟨#[115, 111, 117, 110, 100]⟩, [fX]⟩,
  ⟨27, 61695, 61470, ⟨#[111, 110]⟩, [fX]⟩,
  ⟨28, 61695, 61481, ⟨#[100, 105, 103, 105, 116]⟩, [fX]⟩,
  ⟨29, 61695, 61491, ⟨#[116, 104, 114, 101, 101]⟩, [fX]⟩,
  ⟨30, 61695, 61525, ⟨#[115, 116, 111, 114, 101]⟩, [fX]⟩,
  ⟨31, 61695, 61541, ⟨#[102, 105, 108, 108]⟩, [fX]⟩]
def rowsV (n : Nat) : List Value := [.agg #[.int .u8 2, .int .u16 65535, .int .u16 224, .string ⟨#[99, 108, 101, 97, 114]⟩, .slice none 0 0],
  .agg #[.int .u8 3, .int .u16 65535, .int .u16 238, .string ⟨#[114, 101, 116, 117, 114, 110]⟩, .slice none 0 0],
  .agg #[.int .u8 1, .int .u16 61440, .int .u16 0, .string ⟨#[109, 97, 99, 104, 105, 110, 101]⟩, .slice (some ⟨n + 5, 0, none⟩) 1 1],
  .agg #[.int .u8 4, .int .u16 61440, .int .u16 4096, .string ⟨#[106, 117, 109, 112]⟩, .slice (some ⟨n + 6, 0, none⟩) 1 1],
  .agg #[.int .u8 5, .int .u16 61440, .int .u16 8192, .string ⟨#[99, 97, 108, 108]⟩, .slice (some ⟨n + 7, 0, none⟩) 1 1],
  .agg #[.int .u8 6, .int .u16 61440, .int .u16 12288, .string ⟨#[115, 107, 105, 112, 45, 105, 115]⟩, .slice (some ⟨n + 8, 0, none⟩) 2 2],
  .agg #[.int .u8 7, .int .u16 61440, .int .u16 16384, .string ⟨#[115, 107, 105, 112, 45, 110, 111, 116]⟩, .slice (some ⟨n + 9, 0, none⟩) 2 2],
  .agg #[.int .u8 8, .int .u16 61455, .int .u16 20480, .string ⟨#[115, 107, 105, 112, 45, 115, 97, 109, 101]⟩, .slice (some ⟨n + 10, 0, none⟩) 2 2],
  .agg #[.int .u8 9, .int .u16 61440, .int .u16 24576, .string ⟨#[115, 101, 116]⟩, .slice (some ⟨n + 11, 0, none⟩) 2 2],
  .agg #[.int .u8 10, .int .u16 61440, .int .u16 28672, .string ⟨#[97, 100, 100]⟩, .slice (some ⟨n + 12, 0, none⟩) 2 2],
  .agg #[.int .u8 11, .int .u16 61455, .int .u16 32768, .string ⟨#[109, 111, 118, 101]⟩, .slice (some ⟨n + 13, 0, none⟩) 2 2],
  .agg #[.int .u8 12, .int .u16 61455, .int .u16 32769, .string ⟨#[111, 114]⟩, .slice (some ⟨n + 14, 0, none⟩) 2 2],
  .agg #[.int .u8 13, .int .u16 61455, .int .u16 32770, .string ⟨#[97, 110, 100]⟩, .slice (some ⟨n + 15, 0, none⟩) 2 2],
  .agg #[.int .u8 14, .int .u16 61455, .int .u16 32772, .string ⟨#[112, 108, 117, 115]⟩, .slice (some ⟨n + 16, 0, none⟩) 2 2],
  .agg #[.int .u8 15, .int .u16 61455, .int .u16 32773, .string ⟨#[109, 105, 110, 117, 115]⟩, .slice (some ⟨n + 17, 0, none⟩) 2 2],
  .agg #[.int .u8 16, .int .u16 61455, .int .u16 36864, .string ⟨#[115, 107, 105, 112, 45, 111, 116, 104, 101, 114]⟩, .slice (some ⟨n + 18, 0, none⟩) 2 2],
  .agg #[.int .u8 17, .int .u16 61440, .int .u16 40960, .string ⟨#[112, 111, 105, 110, 116]⟩, .slice (some ⟨n + 19, 0, none⟩) 1 1],
  .agg #[.int .u8 18, .int .u16 61440, .int .u16 45056, .string ⟨#[106, 117, 109, 112, 45, 98, 121]⟩, .slice (some ⟨n + 20, 0, none⟩) 1 1],
  .agg #[.int .u8 19, .int .u16 61440, .int .u16 49152, .string ⟨#[114, 97, 110, 100, 111, 109]⟩, .slice (some ⟨n + 21, 0, none⟩) 2 2],
  .agg #[.int .u8 20, .int .u16 61440, .int .u16 53248, .string ⟨#[100, 114, 97, 119]⟩, .slice (some ⟨n + 22, 0, none⟩) 3 3],
  .agg #[.int .u8 21, .int .u16 61695, .int .u16 57502, .string ⟨#[115, 107, 105, 112, 45, 100, 111, 119, 110]⟩, .slice (some ⟨n + 23, 0, none⟩) 1 1],
  .agg #[.int .u8 22, .int .u16 61695, .int .u16 57505, .string ⟨#[115, 107, 105, 112, 45, 117, 112]⟩, .slice (some ⟨n + 24, 0, none⟩) 1 1],
  .agg #[.int .u8 23, .int .u16 61695, .int .u16 61447, .string ⟨#[116, 105, 109, 101, 114]⟩, .slice (some ⟨n + 25, 0, none⟩) 1 1],
  .agg #[.int .u8 24, .int .u16 61695, .int .u16 61450, .string ⟨#[107, 101, 121]⟩, .slice (some ⟨n + 26, 0, none⟩) 1 1],
  .agg #[.int .u8 25, .int .u16 61695, .int .u16 61461, .string ⟨#[100, 101, 108, 97, 121]⟩, .slice (some ⟨n + 27, 0, none⟩) 1 1],
  .agg #[.int .u8 26, .int .u16 61695, .int .u16 61464, .string ⟨#[115, 111, 117, 110, 100]⟩, .slice (some ⟨n + 28, 0, none⟩) 1 1],
  .agg #[.int .u8 27, .int .u16 61695, .int .u16 61470, .string ⟨#[111, 110]⟩, .slice (some ⟨n + 29, 0, none⟩) 1 1],
  .agg #[.int .u8 28, .int .u16 61695, .int .u16 61481, .string ⟨#[100, 105, 103, 105, 116]⟩, .slice (some ⟨n + 30, 0, none⟩) 1 1],
  .agg #[.int .u8 29, .int .u16 61695, .int .u16 61491, .string ⟨#[116, 104, 114, 101, 101]⟩, .slice (some ⟨n + 31, 0, none⟩) 1 1],
  .agg #[.int .u8 30, .int .u16 61695, .int .u16 61525, .string ⟨#[115, 116, 111, 114, 101]⟩, .slice (some ⟨n + 32, 0, none⟩) 1 1],
  .agg #[.int .u8 31, .int .u16 61695, .int .u16 61541, .string ⟨#[102, 105, 108, 108]⟩, .slice (some ⟨n + 33, 0, none⟩) 1 1]]
def rowsO (n : Nat) : List Obj := [.cells (fcells fX).toArray 48, .cells (fcells fY).toArray 48, .cells (fcells fN).toArray 48, .cells (fcells fB).toArray 48, .cells (fcells fA).toArray 48, .cells (fcells fA).toArray 48,
  .cells (fcells fA).toArray 48,
  .cells (fcells fA).toArray 48,
  .cells (fcells fX ++ fcells fB).toArray 48,
  .cells (fcells fX ++ fcells fB).toArray 48,
  .cells (fcells fX ++ fcells fY).toArray 48,
  .cells (fcells fX ++ fcells fB).toArray 48,
  .cells (fcells fX ++ fcells fB).toArray 48,
  .cells (fcells fX ++ fcells fY).toArray 48,
  .cells (fcells fX ++ fcells fY).toArray 48,
  .cells (fcells fX ++ fcells fY).toArray 48,
  .cells (fcells fX ++ fcells fY).toArray 48,
  .cells (fcells fX ++ fcells fY).toArray 48,
  .cells (fcells fX ++ fcells fY).toArray 48,
  .cells (fcells fA).toArray 48,
  .cells (fcells fA).toArray 48,
  .cells (fcells fX ++ fcells fB).toArray 48,
  .cells (fcells fX ++ fcells fY ++ fcells fN).toArray 48,
  .cells (fcells fX).toArray 48,
  .cells (fcells fX).toArray 48,
  .cells (fcells fX).toArray 48,
  .cells (fcells fX).toArray 48,
  .cells (fcells fX).toArray 48,
  .cells (fcells fX).toArray 48,
  .cells (fcells fX).toArray 48,
  .cells (fcells fX).toArray 48,
  .cells (fcells fX).toArray 48,
  .cells (fcells fX).toArray 48,
  .cells (fcells fX).toArray 48, .cells ((rowsV n).flatMap fun v => v.cells.toList).toArray 44]

def allocs : World → List Obj → World
  | w, [] => w
  | w, o :: l => allocs (w.alloc o) l
theorem allocs_below : ∀ (l : List Obj) (w : World), Below w.heap.size w (allocs w l)
  | [], w => Below.refl _ _
  | o :: l, w => below_then (below_alloc (Below.refl _ w) o) (by simp) (allocs_below l _)
theorem allocs_get : ∀ (l : List Obj) (w : World) (k : Nat) (o : Obj), l[k]? = some o → (allocs w l).heap[w.heap.size + k]? = some o
  | [], _, _, _, h => by simp at h
  | x :: l, w, 0, o, h => by
    obtain rfl : x = o := by simpa using h
    exact blk_below (blk_new w x) (allocs_below l _)
  | x :: l, w, k + 1, o, h => by
    have := allocs_get l (w.alloc x) k o (by simpa using h)
    show (allocs (w.alloc x) l).heap[w.heap.size + (k + 1)]? = some o
    rw [show w.heap.size + (k + 1) = (w.alloc x).heap.size + k by simp; omega]
    exact this

theorem pointwise (f : Nat → Value) (l : List Value) (h : (List.range l.length).map f = l) : ∀ i (hi : i < l.length), f i = l[i] := by
  intro i hi
  have h1 : ((List.range l.length).map f)[i]? = l[i]? := by rw [h]
  rw [List.getElem?_map, List.getElem?_range hi, List.getElem?_eq_getElem hi] at h1
  simpa using h1
theorem rowsV_length (n : Nat) : (rowsV n).length = 31 := rfl
theorem rowsV_cells (n : Nat) : ∀ v ∈ rowsV n, v.cells.size = 5 := by
  intro v hv
  simp only [rowsV, List.mem_cons, List.not_mem_nil, or_false] at hv
  repeat (rcases hv with rfl | hv; · rfl)
set_option maxRecDepth 100000 in
set_option maxHeartbeats 4000000 in
theorem rows_walk (w : World) : Calls Try.prog 11 #[] w fun e w' => e = .returned (.slice (some ⟨w.heap.size + 34, 0, none⟩) 31 31) ∧ w' = allocs w (rowsO w.heap.size) := by
  go_enter Try.func11, Try.ntmps11
  go_wp2_with ((with_reducible refine gate_dst (N := 114) rfl ?_); refine wpList_buildRows rfl 40 44 _ 5 (rowsV w.heap.size) rfl (fun i => [11, 12, 15, 18, 21, 25, 29, 33, 37, 41, 45, 49, 53, 57, 61, 65, 68, 71, 75, 80, 83, 86, 89, 92, 95, 98, 101, 104, 107, 110, 113].getD i 0) _ rfl (some 114) rfl Try.underlying40 (by kernel_rfl) (by kernel_rfl) (by decide) (by rw [rowsV_length]; decide) (by rw [rowsV_length]; decide) rfl (rowsV_cells _) ?hev ?_)
  case hev => exact pointwise _ _ rfl
  go_ret
  exact ⟨rfl, rfl⟩
end Go.Proofs.Ythkheffilabhlaa
